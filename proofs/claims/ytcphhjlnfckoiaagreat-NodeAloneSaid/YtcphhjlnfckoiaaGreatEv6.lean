/- The evaluator's texts CEnc to NFit2, joined. -/
import Derived.Test.YtcphhjlnfckoiaaGreatEv5
import Derived.Test.YtcphhjlnfckoiaaGreatChecked
import Derived.WalkKit
set_option linter.all false
set_option linter.deprecated false
set_option linter.unusedVariables false
set_option linter.unusedSimpArgs false
set_option linter.unnecessarySimpa false
namespace Go.Evl.Zone
open Go Go.Evl
variable {P : Program}
abbrev Bytes := List UInt8
abbrev iv (n : Int) : PV := .val (.int .i64 n)
abbrev bv (b : Bool) : PV := .val (.bool b)
class Enc (α : Type) where
  c : α → List PV
  k : Nat
  len : ∀ a, (c a).length = k
  pl : ∀ a, plains (c a) = some (c a)
def En {α : Type} [Enc α] (l : List α) : List (List PV) := l.map Enc.c
abbrev lv {α : Type} [Enc α] (l : List α) : PV := .im (En l) false
section
variable {α : Type} [Enc α]
@[simp] theorem En_length (l : List α) : (En l).length = l.length := by simp [En]
@[simp] theorem En_nil : En ([] : List α) = [] := rfl
theorem En_append (a b : List α) : En (a ++ b) = En a ++ En b := by simp [En]
theorem En_one (a : α) : En [a] = [Enc.c a] := rfl
@[simp] theorem allLen_En {k : Nat} (h : Enc.k α = k) (l : List α) : allLen k (En l) = true := by
  rw [allLen_iff]
  intro x hx
  simp only [En, List.mem_map] at hx
  obtain ⟨a, _, rfl⟩ := hx
  rw [Enc.len, h]
theorem plainss_En (l : List α) : plainss (En l) = some (En l) := plainss_ok fun y hy => by
  simp only [En, List.mem_map] at hy
  obtain ⟨a, _, rfl⟩ := hy
  exact Enc.pl a
theorem En_at {l : List α} {i : Nat} {q : α} (h : l[i]? = some q) : ∀ hi, (En l)[i]'hi = Enc.c q := fun hi => by
  have h2 := (List.getElem?_eq_some_iff.1 h).2
  simp only [En, List.getElem_map, h2]
end
instance : Enc Int := ⟨fun n => [iv n], 1, fun _ => rfl, fun _ => rfl⟩
instance : Enc UInt8 := ⟨fun b => [.val (.int .u8 (b.toNat : Int))], 1, fun _ => rfl, fun _ => rfl⟩
instance : Enc Bytes := ⟨fun s => [sv s], 1, fun _ => rfl, fun _ => rfl⟩
@[simp] theorem Enc_Int (n : Int) : Enc.c n = [iv n] := rfl
@[simp] theorem Enc_u8 (b : UInt8) : Enc.c b = [.val (.int .u8 (b.toNat : Int))] := rfl
@[simp] theorem Enc_Bytes (s : Bytes) : Enc.c s = [sv s] := rfl
@[simp] theorem Enc_kInt : Enc.k Int = 1 := rfl
@[simp] theorem Enc_ku8 : Enc.k UInt8 = 1 := rfl
@[simp] theorem Enc_kBytes : Enc.k Bytes = 1 := rfl
end Go.Evl.Zone

namespace Go.Evl.Zone
open Go Go.Evl
variable {P : Program}
abbrev cmpB (a b : Bytes) : Int := Lib.compareBytes a b
theorem cmp_self : ∀ a : Bytes, cmpB a a = 0
  | [] => rfl
  | a :: as1 => by
    have : ¬ a < a := fun h => by have := UInt8.lt_iff_toNat_lt.1 h; omega
    simp only [cmpB, Lib.compareBytes, if_neg this]
    exact cmp_self as1
theorem idCompare_ans {a b : Bytes} : ans (env P) 114 [sv a, sv b] = some (iv (cmpB a b)) := by
  refine ans_V rfl rfl ?_
  have hp := fun {dst : Option Nat} {rest : List CI} {i slot slot' : Nat} {log : Log} {d : Option (Nat × List (Nat × Nat))} {K : Ex → St → Prop} {st : St} {ks : List Fr'} {xs : List O} => VA_prim (E := env P) (f := 114) (g := 151) (p := pCompare) (dst := dst) (rest := rest) (i := i) (slot := slot) (slot' := slot') (log := log) (d := d) (K := K) (st := st) (ks := ks) (xs := xs) rfl
  simp [c114, hp, pCompare]
end Go.Evl.Zone

namespace Go.Evl.Zone
open Go Go.Evl
variable {P : Program}
structure At where
  id : Bytes
  n : Int
  deriving DecidableEq
structure KRow where
  id : Bytes
  upto : Int
  extra : List Int
  deriving DecidableEq
structure MRow where
  id : Bytes
  vec : List At
  deriving DecidableEq
instance : Enc At := ⟨fun a => [sv a.id, iv a.n], 2, fun _ => rfl, fun _ => rfl⟩
instance : Enc KRow := ⟨fun a => [sv a.id, iv a.upto, lv a.extra], 3, fun _ => rfl, fun _ => rfl⟩
instance : Enc MRow := ⟨fun a => [sv a.id, lv a.vec], 2, fun _ => rfl, fun _ => rfl⟩
@[simp] theorem Enc_At (a : At) : Enc.c a = [sv a.id, iv a.n] := rfl
@[simp] theorem Enc_KRow (a : KRow) : Enc.c a = [sv a.id, iv a.upto, lv a.extra] := rfl
@[simp] theorem Enc_MRow (a : MRow) : Enc.c a = [sv a.id, lv a.vec] := rfl
@[simp] theorem Enc_kAt : Enc.k At = 2 := rfl
@[simp] theorem Enc_kKRow : Enc.k KRow = 3 := rfl
@[simp] theorem Enc_kMRow : Enc.k MRow = 2 := rfl
end Go.Evl.Zone

namespace Go.Evl.Zone
open Go Go.Evl
theorem cmp_anti : ∀ a b : Bytes, 0 < cmpB a b → cmpB b a < 0
  | [], [], h => by simp [cmpB, Lib.compareBytes] at h
  | [], _ :: _, h => by simp [cmpB, Lib.compareBytes] at h
  | _ :: _, [], h => by simp [cmpB, Lib.compareBytes]
  | x :: a, y :: b, h => by
    simp only [cmpB, Lib.compareBytes] at h ⊢
    have ih := cmp_anti a b
    simp only [cmpB] at ih
    split at h
    · omega
    · split at h
      · rename_i h1 h2
        rw [if_pos (by assumption)]
        omega
      · rename_i h1 h2
        rw [if_neg (by assumption), if_neg (by assumption)]
        exact ih h
theorem cmp_zero : ∀ a b : Bytes, cmpB a b = 0 → a = b
  | [], [], h => rfl
  | [], _ :: _, h => by simp [cmpB, Lib.compareBytes] at h
  | _ :: _, [], h => by simp [cmpB, Lib.compareBytes] at h
  | x :: a, y :: b, h => by
    simp only [cmpB, Lib.compareBytes] at h
    split at h
    · omega
    · split at h
      · omega
      · rename_i h1 h2
        have e : x = y := by
          have h3 : ¬ x < y := by simpa using h1
          have h4 : ¬ y < x := by simpa using h2
          have h5 : ¬ x.toNat < y.toNat := h3
          have h6 : ¬ y.toNat < x.toNat := h4
          exact UInt8.toNat_inj.1 (by omega)
        rw [e, cmp_zero a b h]
theorem cmp_trans : ∀ a b c : Bytes, cmpB a b < 0 → cmpB b c < 0 → cmpB a c < 0
  | a, [], c, h, k => by cases a <;> simp [cmpB, Lib.compareBytes] at h
  | [], y :: b, [], h, k => by simp [cmpB, Lib.compareBytes] at k
  | [], y :: b, z :: c, h, k => by simp [cmpB, Lib.compareBytes]
  | x :: a, y :: b, [], h, k => by simp [cmpB, Lib.compareBytes] at k
  | x :: a, y :: b, z :: c, h, k => by
    have ih := cmp_trans a b c
    simp only [cmpB] at ih
    simp only [cmpB, Lib.compareBytes] at h k ⊢
    have e1 : (x < y) = (x.toNat < y.toNat) := rfl
    have e2 : (y < z) = (y.toNat < z.toNat) := rfl
    have e3 : (x < z) = (x.toNat < z.toNat) := rfl
    have e4 : (y < x) = (y.toNat < x.toNat) := rfl
    have e5 : (z < y) = (z.toNat < y.toNat) := rfl
    have e6 : (z < x) = (z.toNat < x.toNat) := rfl
    simp only [e1, e2, e3, e4, e5, e6] at h k ⊢
    by_cases h1 : x.toNat < y.toNat
    · by_cases k1 : y.toNat < z.toNat
      · rw [if_pos (by omega)]; omega
      · rw [if_neg k1] at k
        by_cases k2 : z.toNat < y.toNat
        · rw [if_pos k2] at k; omega
        · rw [if_pos (by omega)]; omega
    · rw [if_neg h1] at h
      by_cases h2 : y.toNat < x.toNat
      · rw [if_pos h2] at h; omega
      · rw [if_neg h2] at h
        by_cases k1 : y.toNat < z.toNat
        · rw [if_pos (by omega)]; omega
        · rw [if_neg k1] at k
          by_cases k2 : z.toNat < y.toNat
          · rw [if_pos k2] at k; omega
          · rw [if_neg k2] at k
            rw [if_neg (by omega), if_neg (by omega)]
            exact ih h k
end Go.Evl.Zone

namespace Go.Evl.Zone
open Go Go.Evl
theorem cmp_neg {a b : Bytes} (h : cmpB a b < 0) : 0 < cmpB b a := by
  rcases Int.lt_trichotomy (cmpB b a) 0 with k | k | k
  · have := cmp_trans _ _ _ h k
    rw [cmp_self] at this
    omega
  · obtain rfl := cmp_zero _ _ k
    rw [cmp_self] at h; omega
  · exact k
theorem insB_perm (a : Bytes) : ∀ l, (insB a l).Perm (a :: l)
  | [] => List.Perm.refl _
  | b :: l => by
    unfold insB
    split
    · exact (List.Perm.cons b (insB_perm a l)).trans (List.Perm.swap a b l)
    · exact List.Perm.refl _
theorem sortB_perm : ∀ l, (sortB l).Perm l
  | [] => List.Perm.refl _
  | a :: l => (insB_perm a _).trans (List.Perm.cons a (sortB_perm l))
def leB (a b : Bytes) : Prop := ¬ cmpB b a < 0
theorem insB_sorted (a : Bytes) : ∀ l, l.Pairwise leB → (insB a l).Pairwise leB
  | [], h => by simp [insB]
  | b :: l, h => by
    have h1 := List.pairwise_cons.1 h
    unfold insB
    split
    · rename_i hb
      refine List.pairwise_cons.2 ⟨fun c hc => ?_, insB_sorted a l h1.2⟩
      rcases List.mem_cons.1 ((insB_perm a l).mem_iff.1 hc) with rfl | hc
      · intro k
        have h2 := cmp_neg hb
        have h3 : cmpB b c < 0 := hb
        omega
      · exact h1.1 c hc
    · rename_i hb
      refine List.pairwise_cons.2 ⟨fun c hc => ?_, h⟩
      rcases List.mem_cons.1 hc with rfl | hc
      · exact hb
      · intro k
        have h2 := h1.1 c hc
        refine h2 ?_
        rcases Int.lt_trichotomy (cmpB b a) 0 with q | q | q
        · exact (hb q).elim
        · obtain rfl := cmp_zero _ _ q; exact k
        · exact cmp_trans _ _ _ k (cmp_anti _ _ q)
theorem sortB_sorted : ∀ l, (sortB l).Pairwise leB
  | [] => List.Pairwise.nil
  | a :: l => insB_sorted a _ (sortB_sorted l)
theorem leB_anti {a b : Bytes} (h1 : leB a b) (h2 : leB b a) : a = b := by
  rcases Int.lt_trichotomy (cmpB a b) 0 with k | k | k
  · exact (h2 k).elim
  · exact cmp_zero _ _ k
  · exact (h1 (cmp_anti _ _ k)).elim
theorem perm_sorted {α : Type} {le : α → α → Prop} (ha : ∀ a b, le a b → le b a → a = b) : ∀ {l m : List α}, l.Perm m → l.Pairwise le → m.Pairwise le → l = m
  | [], m, h, _, _ => by have := h.length_eq; simp at this; exact (List.length_eq_zero_iff.1 this.symm).symm
  | a :: l, [], h, _, _ => by have := h.length_eq; simp at this
  | a :: l, b :: m, h, h1, h2 => by
    have h1' := List.pairwise_cons.1 h1
    have h2' := List.pairwise_cons.1 h2
    have e : a = b := by
      have ma : a ∈ b :: m := h.mem_iff.1 (by simp)
      have mb : b ∈ a :: l := h.mem_iff.2 (by simp)
      rcases List.mem_cons.1 ma with q | q
      · exact q
      · rcases List.mem_cons.1 mb with q' | q'
        · exact q'.symm
        · exact ha _ _ (h1'.1 _ q') (h2'.1 _ q)
    subst e
    rw [perm_sorted ha (List.Perm.cons_inv h) h1'.2 h2'.2]
theorem insZ_perm (a : Int) : ∀ l, (insZ a l).Perm (a :: l)
  | [] => List.Perm.refl _
  | b :: l => by
    unfold insZ
    split
    · exact (List.Perm.cons b (insZ_perm a l)).trans (List.Perm.swap a b l)
    · exact List.Perm.refl _
theorem sortZ_perm : ∀ l, (sortZ l).Perm l
  | [] => List.Perm.refl _
  | a :: l => (insZ_perm a _).trans (List.Perm.cons a (sortZ_perm l))
theorem insZ_sorted (a : Int) : ∀ l, l.Pairwise (· ≤ ·) → (insZ a l).Pairwise (· ≤ ·)
  | [], h => by simp [insZ]
  | b :: l, h => by
    have h1 := List.pairwise_cons.1 h
    unfold insZ
    split
    · refine List.pairwise_cons.2 ⟨fun c hc => ?_, insZ_sorted a l h1.2⟩
      rcases List.mem_cons.1 ((insZ_perm a l).mem_iff.1 hc) with rfl | hc
      · omega
      · exact h1.1 c hc
    · refine List.pairwise_cons.2 ⟨fun c hc => ?_, h⟩
      rcases List.mem_cons.1 hc with rfl | hc
      · omega
      · have := h1.1 c hc
        omega
theorem sortZ_sorted : ∀ l, (sortZ l).Pairwise (· ≤ ·)
  | [] => List.Pairwise.nil
  | a :: l => insZ_sorted a _ (sortZ_sorted l)
end Go.Evl.Zone

namespace Go.Evl
open Go Go.Proofs Go.RowKit
set_option maxHeartbeats 4000000 in
set_option maxRecDepth 100000 in
theorem insShiftS (b vb vo i n cap vcap : Nat) (c vc : Array Value) (t t2 : TypeId) (w : World) (hb : w.heap[b]? = some (.cells c t (0, 0))) (hvb : w.heap[vb]? = some (.cells vc t2 (0, 0))) (hne : vb ≠ b) (hi : i < n) (hroom : n + 1 ≤ cap) (h63 : n + 1 ≤ 68719476736)
    (hc : c.size = cap * 8) (cs vs C1 C2 : List Value) (hcs : cs = (c.toList.take (n * 8)).drop (i * 8)) (hvs : vs = (vc.toList.drop vo).take 8) (hvl : vs.length = 8) (h1c : ∀ v ∈ cs, v.oneCell' = true) (h1v : ∀ v ∈ vs, v.oneCell' = true)
    (hC1 : C1 = setL c.toList ((i + 1) * 8) cs) (hC2 : C2 = setL C1 (i * 8) vs) (hvk : vc.size ≠ 0) :
    Calls Tryz.prog 101 #[.slice (some ⟨b, 0, none⟩) n cap, .int .i64 i, .slice (some ⟨vb, vo, none⟩) 1 vcap] w fun e w' =>
      e = .returned (.slice (some ⟨b, 0, none⟩) (n + 1) cap) ∧ w' = (w.drew.setRow b C1.toArray).setRow b C2.toArray := by
  have hsz : szOf Tryz.prog 91 = some 8 := by kernel_rfl
  have hov : ∀ lb cb, (callFunc 133 #[.slice (some ⟨vb, vo, none⟩) 1 vcap, .slice (some ⟨b, (i + 1) * 8, none⟩) lb cb]).run Tryz.prog w = .ok (.value (.bool false)) w := fun lb cb => by
    rw [run_callFunc_extern Tryz.func133 (by kernel_rfl) (by kernel_rfl) (by kernel_rfl) (e := Extern.SlicesOverlaps.overlaps #[28, 28] #[4]) (by kernel_rfl),
      Lib.run_overlaps_apart w 28 4 91 Tryz.underlying28 8 (fun w => run_sz hsz w) ⟨vb, vo, none⟩ ⟨b, (i + 1) * 8, none⟩ 1 vcap lb cb hne t2 t vc.size c.size (by simp [World.shape?, hvb]) (by simp [World.shape?, hb]) (by omega) (frozen_cells hvb _) (frozen_cells hvb _)]
    rfl
  have hcl : cs.length = (n - i) * 8 := by
    rw [hcs]; simp; omega
  have hbd : w.drew.heap[b]? = some (.cells c t (0, 0)) := hb
  have hlC1 : C1.length = c.size := by rw [hC1, setL_length _ _ _ (by simp; omega)]; simp
  have hb1 : (w.drew.setRow b C1.toArray).heap[b]? = some (.cells C1.toArray t (0, 0)) := setRow_heap _ _ _ _ _ _ hbd
  have hvb1 : (w.drew.setRow b C1.toArray).heap[vb]? = some (.cells vc t2 (0, 0)) := by rw [setRow_other _ _ _ _ hne]; exact hvb
  have hcp1 : ∀ ty dc sc, (Builtin.copy_ #[29, 29] ty #[.slice (some ⟨b, (i + 1) * 8, none⟩) (n + 1 - (i + 1)) dc, .slice (some ⟨b, i * 8, none⟩) (n + 1 - i) sc]).run Tryz.prog w.drew = .ok (goInt (n - i : Nat)) (w.drew.setRow b C1.toArray) := fun ty dc sc => by
    rw [hC1]
    exact run_copyK w.drew _ _ ty 91 b _ _ dc b _ _ sc 8 (n - i) c t cs Tryz.underlying29 hsz (by simp only [Nat.min_def]; split <;> omega) hcl hbd (by omega)
      (fun j v hj => by
        rw [cell_of hbd, ← Array.getElem?_toList]
        rw [hcs, List.getElem?_drop, List.getElem?_take] at hj
        split at hj
        · exact hj
        · cases hj) h1c
  have hcp2 : ∀ (W : World), W = w.drew.setRow b C1.toArray → ∀ ty dc, (Builtin.copy_ #[29, 28] ty #[.slice (some ⟨b, i * 8, none⟩) (n + 1 - i) dc, .slice (some ⟨vb, vo, none⟩) 1 vcap]).run Tryz.prog W = .ok (goInt (1 : Nat)) (W.setRow b C2.toArray) := fun W hW ty dc => by
    subst hW
    rw [hC2]
    have := run_copyK (P := Tryz.prog) (w.drew.setRow b C1.toArray) 29 28 ty 91 b (i * 8) (n + 1 - i) dc vb vo 1 vcap 8 1 C1.toArray t vs Tryz.underlying29 hsz (by simp only [Nat.min_def]; split <;> omega) (by omega) hb1 (by simp; omega)
      (fun j v hj => by
        rw [cell_of hvb1, ← Array.getElem?_toList]
        rw [hvs, List.getElem?_take] at hj
        split at hj
        · rw [List.getElem?_drop] at hj; exact hj
        · cases hj) h1v
    simpa using this
  have mixed : Tryz.prog.follows .mixedOrders = true := by kernel_rfl
  have hw1 : IntKind.i64.wrap ((i : Int) + 1) = (i : Int) + 1 := by rw [IntKind.wrap_i64]; omega
  have hb1' : (0 : Int) ≤ (i : Int) + 1 := by omega
  have hin : i ≤ n := by omega
  have htn : ((i : Int) + 1).toNat = i + 1 := by omega
  have hb2 : ¬ (cap = i + 1) := by omega
  have hb3 : (i : Int) ≤ (n : Int) + 1 := by omega
  have hb4 : ¬ (cap = i) := by omega
  have hb5 : (i : Int) + 1 ≤ (n : Int) + 1 := by omega
  clear hcs hvs hC1 hC2 hlC1 hb1 hvb1 hbd hb hvb
  go_enter Tryz.func101, Tryz.ntmps101
  go_wp2_with (simp only [hov])
  go_region_law_o (refine step_copy_runI rfl _ _ 29 29 rfl (.slice (some ⟨b, (i + 1) * 8, none⟩) (n + 1 - (i + 1)) (cap - (i + 1))) (.slice (some ⟨b, i * 8, none⟩) (n + 1 - i) (cap - i)) (by simp [Act.eval, Act.put]) (by simp [Act.eval, Act.put]) (hcp1 _ _ _) ?_)
  go_wp2_with (at_builtin; refine wpList_copyI _ rfl _ _ 29 28 rfl _ _ rfl rfl (hcp2 _ rfl _ _) ?_)
  go_ret
  exact ⟨rfl, rfl⟩
set_option maxHeartbeats 4000000 in
set_option maxRecDepth 100000 in
theorem insGrowS (b vb vo i n cap vcap : Nat) (c vc : Array Value) (t t2 : TypeId) (w : World) (hb : w.heap[b]? = some (.cells c t (0, 0))) (hvb : w.heap[vb]? = some (.cells vc t2 (0, 0))) (hi : i < n) (hnc : n ≤ cap) (hroom : cap < n + 1) (hbig : n + 1 ≤ 68719476736)
    (hc : n * 8 ≤ c.size) (cs vs D1 D2 : List Value) (ROW : Array Value) (i0 : TypeInfo) (z : Value) (hi0 : Tryz.prog.info? 91 = some i0) (hz0 : i0.zero = some z) (hs0 : i0.size = 8) (hzs : z.cells.size = 8) (hbt : i0.bytes ≤ 1024) (hcs : cs = c.toList.take (n * 8)) (hvs : vs = (vc.toList.drop vo).take 8) (hvl : vs.length = 8) (h1c : ∀ v ∈ cs, v.oneCell' = true) (h1v : ∀ v ∈ vs, v.oneCell' = true)
    (hR : ROW = (cs.take (i * 8)).toArray ++ Builtin.zeroCells z.cells (n + 1 - i) ++ Builtin.zeroCells z.cells (grownCap w (n + 1) cap 91 - (n + 1))) (hD1 : D1 = setL ROW.toList (i * 8) vs) (hD2 : D2 = setL D1 ((i + 1) * 8) (cs.drop (i * 8))) :
    Calls Tryz.prog 101 #[.slice (some ⟨b, 0, none⟩) n cap, .int .i64 i, .slice (some ⟨vb, vo, none⟩) 1 vcap] w fun e w' =>
      e = .returned (.slice (some ⟨w.heap.size, 0, none⟩) (n + 1) (grownCap w (n + 1) cap 91)) ∧ w' = ((((w.alloc (.cells ROW 91)).drew).setRow w.heap.size D1.toArray).drew).setRow w.heap.size D2.toArray := by
  have hsz : szOf Tryz.prog 91 = some 8 := by simp [szOf, hi0, hs0]
  have hbw : b < w.heap.size := lt_of_heap hb
  have hvw : vb < w.heap.size := lt_of_heap hvb
  have hcl : cs.length = n * 8 := by rw [hcs]; simp; omega
  have hzc : (n : Int) + 1 - (i : Int) = ((n + 1 - i : Nat) : Int) := by omega
  have hik : i + (n + 1 - i) = n + 1 := by omega
  have hold : (Builtin.firstCells i0.size i (.slice (some ⟨b, 0, none⟩) i cap)).run Tryz.prog w.drew = .ok (cs.take (i * 8)).toArray w.drew := by
    rw [hs0]
    exact run_firstCells_some w.drew 8 i ⟨b, 0, none⟩ i cap (cs.take (i * 8)) (by rw [List.length_take]; omega) (fun j v hj => by
      rw [List.getElem?_take] at hj
      split at hj
      · rw [hcs, List.getElem?_take] at hj
        split at hj
        · rw [add_none, World.cell?_drew, cell_of hb, Nat.zero_add, ← Array.getElem?_toList]; exact hj
        · cases hj
      · cases hj)
  have hby : (n + 1) * i0.bytes ≤ 68719476736 * 1024 := Nat.mul_le_mul hbig hbt
  have hby2 : (n + 1 - i) * i0.bytes ≤ (n + 1) * i0.bytes := Nat.mul_le_mul_right _ (by omega)
  have hrz : ∀ ty, (Builtin.append_ #[29, 3] ty #[.slice (some ⟨b, 0, none⟩) i cap, .int .i64 ((n : Int) + 1 - (i : Int))]).run Tryz.prog w = .ok (.slice (some ⟨w.heap.size, 0, none⟩) (n + 1) (grownCap w (n + 1) cap 91)) (w.drew.alloc (.cells ROW 91)) := fun ty => by
    have h := Lib.run_append_grow_zeros w 29 3 ty 91 i0 z .i64 .i64 Tryz.underlying29 Tryz.underlying3 hi0 hz0 (some ⟨b, 0, none⟩) i cap (cs.take (i * 8)) hold (n + 1 - i) (by omega) (by omega) (by omega) (by omega) (by omega) (by rw [hik]; exact growslice_fits hroom (by omega))
    rw [hik] at h
    rw [hzc, hR]
    exact h
  obtain ⟨G, hG⟩ : ∃ G, G = grownCap w (n + 1) cap 91 := ⟨_, rfl⟩
  rw [← hG] at hrz hR ⊢
  have hGn : n + 1 ≤ G := by rw [hG]; exact grownCap_ge w _ _ _
  have hG63 : G ≤ 9223372036854775807 := by
    have := grownCap_le_maxLen w (n + 1) cap 91 (by unfold maxLen; omega)
    rw [← hG] at this
    unfold maxLen at this
    omega
  have hRs : ROW.size = G * 8 := by
    rw [hR]
    simp only [Array.size_append, size_zeroCells, hzs, List.size_toArray, List.length_take, hcl]
    rw [Nat.min_eq_left (by omega)]
    omega
  obtain ⟨W1, hW1⟩ : ∃ W1, W1 = w.drew.alloc (.cells ROW 91) := ⟨_, rfl⟩
  have hN : W1.heap[w.heap.size]? = some (.cells ROW 91 (0, 0)) := by rw [hW1]; exact heap_alloc_new w.drew _
  have hOv : W1.heap[vb]? = some (.cells vc t2 (0, 0)) := by rw [hW1, heap_alloc_old _ _ (show vb < w.drew.heap.size from hvw)]; exact hvb
  have hOb : W1.heap[b]? = some (.cells c t (0, 0)) := by rw [hW1, heap_alloc_old _ _ (show b < w.drew.heap.size from hbw)]; exact hb
  have hlD1 : D1.length = G * 8 := by rw [hD1, setL_length _ _ _ (by simp; omega)]; simp [hRs]
  have hN2 : (W1.setRow w.heap.size D1.toArray).heap[w.heap.size]? = some (.cells D1.toArray 91 (0, 0)) := setRow_heap _ _ _ _ _ _ hN
  have hOb2 : (W1.setRow w.heap.size D1.toArray).heap[b]? = some (.cells c t (0, 0)) := by rw [setRow_other _ _ _ _ (by omega)]; exact hOb
  have hcpA : ∀ (W : World), W.heap = W1.heap → ∀ ty dc, (Builtin.copy_ #[29, 28] ty #[.slice (some ⟨w.heap.size, i * 8, none⟩) (n + 1 - i) dc, .slice (some ⟨vb, vo, none⟩) 1 vcap]).run Tryz.prog W = .ok (goInt (1 : Nat)) (W.setRow w.heap.size D1.toArray) := fun W hW ty dc => by
    rw [hD1]
    exact run_copyK W 29 28 ty 91 w.heap.size (i * 8) (n + 1 - i) dc vb vo 1 vcap 8 1 ROW 91 vs Tryz.underlying29 hsz (by simp only [Nat.min_def]; split <;> omega) (by omega) (by rw [hW]; exact hN) (by omega)
      (fun j v hj => by
        rw [cell_of (by rw [hW]; exact hOv), ← Array.getElem?_toList]
        rw [hvs, List.getElem?_take] at hj
        split at hj
        · rw [List.getElem?_drop] at hj; exact hj
        · cases hj) h1v
  have hdl : (cs.drop (i * 8)).length = (n - i) * 8 := by rw [List.length_drop, hcl]; omega
  have hcpB : ∀ (W : World), W.heap = (W1.setRow w.heap.size D1.toArray).heap → ∀ ty dc sc, (Builtin.copy_ #[29, 29] ty #[.slice (some ⟨w.heap.size, (i + 1) * 8, none⟩) (n + 1 - (i + 1)) dc, .slice (some ⟨b, i * 8, none⟩) (n - i) sc]).run Tryz.prog W = .ok (goInt (n - i : Nat)) (W.setRow w.heap.size D2.toArray) := fun W hW ty dc sc => by
    rw [hD2]
    exact run_copyK W 29 29 ty 91 w.heap.size ((i + 1) * 8) (n + 1 - (i + 1)) dc b (i * 8) (n - i) sc 8 (n - i) D1.toArray 91 (cs.drop (i * 8)) Tryz.underlying29 hsz (by simp only [Nat.min_def]; split <;> omega) hdl (by rw [hW]; exact hN2) (by simp only [List.size_toArray]; omega)
      (fun j v hj => by
        rw [cell_of (by rw [hW]; exact hOb2), ← Array.getElem?_toList]
        rw [List.getElem?_drop, hcs, List.getElem?_take] at hj
        split at hj
        · exact hj
        · cases hj) (fun v hv => h1c v (List.mem_of_mem_drop hv))
  have hGi : ¬ (G = i) := by omega
  have hGim : ¬ (G = i + 1) := by omega
  have hci : ¬ (cap = i) := by omega
  have hz2 : ¬ ((i : Int) = (n : Int)) := by omega
  have hz3 : (cap : Int) < (n : Int) + 1 := by omega
  have mixed : Tryz.prog.follows .mixedOrders = true := by kernel_rfl
  have hw1 : IntKind.i64.wrap ((i : Int) + 1) = (i : Int) + 1 := by rw [IntKind.wrap_i64]; omega
  have hb1' : (0 : Int) ≤ (i : Int) + 1 := by omega
  have hin : i ≤ n := by omega
  have htn : ((i : Int) + 1).toNat = i + 1 := by omega
  have hb3 : (i : Int) ≤ (n : Int) := by omega
  have hb3' : (i : Int) ≤ (n : Int) + 1 := by omega
  have hb5 : (i : Int) + 1 ≤ (n : Int) + 1 := by omega
  rw [← hW1] at hrz
  subst hW1
  have hF1 : (((w.alloc (.cells ROW 91)).drew.setRow w.heap.size D1.toArray).drew).heap = ((w.drew.alloc (.cells ROW 91)).setRow w.heap.size D1.toArray).heap := rfl
  have hE1 : ((w.alloc (.cells ROW 91)).drew).heap = (w.drew.alloc (.cells ROW 91)).heap := rfl
  clear hG hold hR hcs hvs hD1 hD2 hN hOv hOb hN2 hOb2 hlD1 hb hvb hzc hik
  go_enter Tryz.func101, Tryz.ntmps101
  go_wp2_with (first
    | (at_builtin; refine Lib.wpList_append_run _ rfl _ _ _ _ rfl _ _ rfl rfl _ _ (hrz _) ?_)
    | (at_builtin; refine wpList_copyI _ rfl _ _ 29 28 rfl _ _ rfl rfl (hcpA _ hE1 _ _) ?_))
  go_region_law_o (refine step_copy_runI rfl _ _ 29 29 rfl (.slice (some ⟨w.heap.size, (i + 1) * 8, none⟩) (n + 1 - (i + 1)) (G - (i + 1))) (.slice (some ⟨b, i * 8, none⟩) (n - i) (cap - i)) (by simp [Act.eval, Act.put]) (by simp [Act.eval, Act.put]) (hcpB _ hF1 3 (G - (i + 1)) (cap - i)) ?_)
  go_wp2
  go_ret
  exact ⟨rfl, rfl⟩
set_option maxHeartbeats 4000000 in
set_option maxRecDepth 100000 in
theorem insEndS (base : Option Addr) (n cap vb vo vcap : Nat) (w w' : World) (u : Value) (h63 : n ≤ 68719476736) (hr : ∀ ty, (Builtin.append_ #[29, 28] ty #[.slice base n cap, .slice (some ⟨vb, vo, none⟩) 1 vcap]).run Tryz.prog w = .ok u w') :
    Calls Tryz.prog 101 #[.slice base n cap, .int .i64 n, .slice (some ⟨vb, vo, none⟩) 1 vcap] w fun e w2 => e = .returned u ∧ w2 = w' := by
  go_enter Tryz.func101, Tryz.ntmps101
  go_wp2_with (at_builtin; refine Lib.wpList_append_run _ rfl _ _ _ _ rfl _ _ rfl rfl _ _ (hr _) ?_)
  all_goals (go_ret; exact ⟨rfl, rfl⟩)
theorem insCS : InsC Tryz.prog 101 8 91 29 28 := ⟨insShiftS, insGrowS, insEndS⟩
end Go.Evl

namespace Go.Evl
open Go Go.Proofs Go.RowKit
set_option maxHeartbeats 4000000 in
set_option maxRecDepth 100000 in
theorem insShiftK (b vb vo i n cap vcap : Nat) (c vc : Array Value) (t t2 : TypeId) (w : World) (hb : w.heap[b]? = some (.cells c t (0, 0))) (hvb : w.heap[vb]? = some (.cells vc t2 (0, 0))) (hne : vb ≠ b) (hi : i < n) (hroom : n + 1 ≤ cap) (h63 : n + 1 ≤ 68719476736)
    (hc : c.size = cap * 3) (cs vs C1 C2 : List Value) (hcs : cs = (c.toList.take (n * 3)).drop (i * 3)) (hvs : vs = (vc.toList.drop vo).take 3) (hvl : vs.length = 3) (h1c : ∀ v ∈ cs, v.oneCell' = true) (h1v : ∀ v ∈ vs, v.oneCell' = true)
    (hC1 : C1 = setL c.toList ((i + 1) * 3) cs) (hC2 : C2 = setL C1 (i * 3) vs) (hvk : vc.size ≠ 0) :
    Calls Tryz.prog 109 #[.slice (some ⟨b, 0, none⟩) n cap, .int .i64 i, .slice (some ⟨vb, vo, none⟩) 1 vcap] w fun e w' =>
      e = .returned (.slice (some ⟨b, 0, none⟩) (n + 1) cap) ∧ w' = (w.drew.setRow b C1.toArray).setRow b C2.toArray := by
  have hsz : szOf Tryz.prog 100 = some 3 := by kernel_rfl
  have hov : ∀ lb cb, (callFunc 141 #[.slice (some ⟨vb, vo, none⟩) 1 vcap, .slice (some ⟨b, (i + 1) * 3, none⟩) lb cb]).run Tryz.prog w = .ok (.value (.bool false)) w := fun lb cb => by
    rw [run_callFunc_extern Tryz.func141 (by kernel_rfl) (by kernel_rfl) (by kernel_rfl) (e := Extern.SlicesOverlaps.overlaps #[24, 24] #[4]) (by kernel_rfl),
      Lib.run_overlaps_apart w 24 4 100 Tryz.underlying24 3 (fun w => run_sz hsz w) ⟨vb, vo, none⟩ ⟨b, (i + 1) * 3, none⟩ 1 vcap lb cb hne t2 t vc.size c.size (by simp [World.shape?, hvb]) (by simp [World.shape?, hb]) (by omega) (frozen_cells hvb _) (frozen_cells hvb _)]
    rfl
  have hcl : cs.length = (n - i) * 3 := by
    rw [hcs]; simp; omega
  have hbd : w.drew.heap[b]? = some (.cells c t (0, 0)) := hb
  have hlC1 : C1.length = c.size := by rw [hC1, setL_length _ _ _ (by simp; omega)]; simp
  have hb1 : (w.drew.setRow b C1.toArray).heap[b]? = some (.cells C1.toArray t (0, 0)) := setRow_heap _ _ _ _ _ _ hbd
  have hvb1 : (w.drew.setRow b C1.toArray).heap[vb]? = some (.cells vc t2 (0, 0)) := by rw [setRow_other _ _ _ _ hne]; exact hvb
  have hcp1 : ∀ ty dc sc, (Builtin.copy_ #[25, 25] ty #[.slice (some ⟨b, (i + 1) * 3, none⟩) (n + 1 - (i + 1)) dc, .slice (some ⟨b, i * 3, none⟩) (n + 1 - i) sc]).run Tryz.prog w.drew = .ok (goInt (n - i : Nat)) (w.drew.setRow b C1.toArray) := fun ty dc sc => by
    rw [hC1]
    exact run_copyK w.drew _ _ ty 100 b _ _ dc b _ _ sc 3 (n - i) c t cs Tryz.underlying25 hsz (by simp only [Nat.min_def]; split <;> omega) hcl hbd (by omega)
      (fun j v hj => by
        rw [cell_of hbd, ← Array.getElem?_toList]
        rw [hcs, List.getElem?_drop, List.getElem?_take] at hj
        split at hj
        · exact hj
        · cases hj) h1c
  have hcp2 : ∀ (W : World), W = w.drew.setRow b C1.toArray → ∀ ty dc, (Builtin.copy_ #[25, 24] ty #[.slice (some ⟨b, i * 3, none⟩) (n + 1 - i) dc, .slice (some ⟨vb, vo, none⟩) 1 vcap]).run Tryz.prog W = .ok (goInt (1 : Nat)) (W.setRow b C2.toArray) := fun W hW ty dc => by
    subst hW
    rw [hC2]
    have := run_copyK (P := Tryz.prog) (w.drew.setRow b C1.toArray) 25 24 ty 100 b (i * 3) (n + 1 - i) dc vb vo 1 vcap 3 1 C1.toArray t vs Tryz.underlying25 hsz (by simp only [Nat.min_def]; split <;> omega) (by omega) hb1 (by simp; omega)
      (fun j v hj => by
        rw [cell_of hvb1, ← Array.getElem?_toList]
        rw [hvs, List.getElem?_take] at hj
        split at hj
        · rw [List.getElem?_drop] at hj; exact hj
        · cases hj) h1v
    simpa using this
  have mixed : Tryz.prog.follows .mixedOrders = true := by kernel_rfl
  have hw1 : IntKind.i64.wrap ((i : Int) + 1) = (i : Int) + 1 := by rw [IntKind.wrap_i64]; omega
  have hb1' : (0 : Int) ≤ (i : Int) + 1 := by omega
  have hin : i ≤ n := by omega
  have htn : ((i : Int) + 1).toNat = i + 1 := by omega
  have hb2 : ¬ (cap = i + 1) := by omega
  have hb3 : (i : Int) ≤ (n : Int) + 1 := by omega
  have hb4 : ¬ (cap = i) := by omega
  have hb5 : (i : Int) + 1 ≤ (n : Int) + 1 := by omega
  clear hcs hvs hC1 hC2 hlC1 hb1 hvb1 hbd hb hvb
  go_enter Tryz.func109, Tryz.ntmps109
  go_wp2_with (simp only [hov])
  go_region_law_o (refine step_copy_runI rfl _ _ 25 25 rfl (.slice (some ⟨b, (i + 1) * 3, none⟩) (n + 1 - (i + 1)) (cap - (i + 1))) (.slice (some ⟨b, i * 3, none⟩) (n + 1 - i) (cap - i)) (by simp [Act.eval, Act.put]) (by simp [Act.eval, Act.put]) (hcp1 _ _ _) ?_)
  go_wp2_with (at_builtin; refine wpList_copyI _ rfl _ _ 25 24 rfl _ _ rfl rfl (hcp2 _ rfl _ _) ?_)
  go_ret
  exact ⟨rfl, rfl⟩
set_option maxHeartbeats 4000000 in
set_option maxRecDepth 100000 in
theorem insGrowK (b vb vo i n cap vcap : Nat) (c vc : Array Value) (t t2 : TypeId) (w : World) (hb : w.heap[b]? = some (.cells c t (0, 0))) (hvb : w.heap[vb]? = some (.cells vc t2 (0, 0))) (hi : i < n) (hnc : n ≤ cap) (hroom : cap < n + 1) (hbig : n + 1 ≤ 68719476736)
    (hc : n * 3 ≤ c.size) (cs vs D1 D2 : List Value) (ROW : Array Value) (i0 : TypeInfo) (z : Value) (hi0 : Tryz.prog.info? 100 = some i0) (hz0 : i0.zero = some z) (hs0 : i0.size = 3) (hzs : z.cells.size = 3) (hbt : i0.bytes ≤ 1024) (hcs : cs = c.toList.take (n * 3)) (hvs : vs = (vc.toList.drop vo).take 3) (hvl : vs.length = 3) (h1c : ∀ v ∈ cs, v.oneCell' = true) (h1v : ∀ v ∈ vs, v.oneCell' = true)
    (hR : ROW = (cs.take (i * 3)).toArray ++ Builtin.zeroCells z.cells (n + 1 - i) ++ Builtin.zeroCells z.cells (grownCap w (n + 1) cap 100 - (n + 1))) (hD1 : D1 = setL ROW.toList (i * 3) vs) (hD2 : D2 = setL D1 ((i + 1) * 3) (cs.drop (i * 3))) :
    Calls Tryz.prog 109 #[.slice (some ⟨b, 0, none⟩) n cap, .int .i64 i, .slice (some ⟨vb, vo, none⟩) 1 vcap] w fun e w' =>
      e = .returned (.slice (some ⟨w.heap.size, 0, none⟩) (n + 1) (grownCap w (n + 1) cap 100)) ∧ w' = ((((w.alloc (.cells ROW 100)).drew).setRow w.heap.size D1.toArray).drew).setRow w.heap.size D2.toArray := by
  have hsz : szOf Tryz.prog 100 = some 3 := by simp [szOf, hi0, hs0]
  have hbw : b < w.heap.size := lt_of_heap hb
  have hvw : vb < w.heap.size := lt_of_heap hvb
  have hcl : cs.length = n * 3 := by rw [hcs]; simp; omega
  have hzc : (n : Int) + 1 - (i : Int) = ((n + 1 - i : Nat) : Int) := by omega
  have hik : i + (n + 1 - i) = n + 1 := by omega
  have hold : (Builtin.firstCells i0.size i (.slice (some ⟨b, 0, none⟩) i cap)).run Tryz.prog w.drew = .ok (cs.take (i * 3)).toArray w.drew := by
    rw [hs0]
    exact run_firstCells_some w.drew 3 i ⟨b, 0, none⟩ i cap (cs.take (i * 3)) (by rw [List.length_take]; omega) (fun j v hj => by
      rw [List.getElem?_take] at hj
      split at hj
      · rw [hcs, List.getElem?_take] at hj
        split at hj
        · rw [add_none, World.cell?_drew, cell_of hb, Nat.zero_add, ← Array.getElem?_toList]; exact hj
        · cases hj
      · cases hj)
  have hby : (n + 1) * i0.bytes ≤ 68719476736 * 1024 := Nat.mul_le_mul hbig hbt
  have hby2 : (n + 1 - i) * i0.bytes ≤ (n + 1) * i0.bytes := Nat.mul_le_mul_right _ (by omega)
  have hrz : ∀ ty, (Builtin.append_ #[25, 3] ty #[.slice (some ⟨b, 0, none⟩) i cap, .int .i64 ((n : Int) + 1 - (i : Int))]).run Tryz.prog w = .ok (.slice (some ⟨w.heap.size, 0, none⟩) (n + 1) (grownCap w (n + 1) cap 100)) (w.drew.alloc (.cells ROW 100)) := fun ty => by
    have h := Lib.run_append_grow_zeros w 25 3 ty 100 i0 z .i64 .i64 Tryz.underlying25 Tryz.underlying3 hi0 hz0 (some ⟨b, 0, none⟩) i cap (cs.take (i * 3)) hold (n + 1 - i) (by omega) (by omega) (by omega) (by omega) (by omega) (by rw [hik]; exact growslice_fits hroom (by omega))
    rw [hik] at h
    rw [hzc, hR]
    exact h
  obtain ⟨G, hG⟩ : ∃ G, G = grownCap w (n + 1) cap 100 := ⟨_, rfl⟩
  rw [← hG] at hrz hR ⊢
  have hGn : n + 1 ≤ G := by rw [hG]; exact grownCap_ge w _ _ _
  have hG63 : G ≤ 9223372036854775807 := by
    have := grownCap_le_maxLen w (n + 1) cap 100 (by unfold maxLen; omega)
    rw [← hG] at this
    unfold maxLen at this
    omega
  have hRs : ROW.size = G * 3 := by
    rw [hR]
    simp only [Array.size_append, size_zeroCells, hzs, List.size_toArray, List.length_take, hcl]
    rw [Nat.min_eq_left (by omega)]
    omega
  obtain ⟨W1, hW1⟩ : ∃ W1, W1 = w.drew.alloc (.cells ROW 100) := ⟨_, rfl⟩
  have hN : W1.heap[w.heap.size]? = some (.cells ROW 100 (0, 0)) := by rw [hW1]; exact heap_alloc_new w.drew _
  have hOv : W1.heap[vb]? = some (.cells vc t2 (0, 0)) := by rw [hW1, heap_alloc_old _ _ (show vb < w.drew.heap.size from hvw)]; exact hvb
  have hOb : W1.heap[b]? = some (.cells c t (0, 0)) := by rw [hW1, heap_alloc_old _ _ (show b < w.drew.heap.size from hbw)]; exact hb
  have hlD1 : D1.length = G * 3 := by rw [hD1, setL_length _ _ _ (by simp; omega)]; simp [hRs]
  have hN2 : (W1.setRow w.heap.size D1.toArray).heap[w.heap.size]? = some (.cells D1.toArray 100 (0, 0)) := setRow_heap _ _ _ _ _ _ hN
  have hOb2 : (W1.setRow w.heap.size D1.toArray).heap[b]? = some (.cells c t (0, 0)) := by rw [setRow_other _ _ _ _ (by omega)]; exact hOb
  have hcpA : ∀ (W : World), W.heap = W1.heap → ∀ ty dc, (Builtin.copy_ #[25, 24] ty #[.slice (some ⟨w.heap.size, i * 3, none⟩) (n + 1 - i) dc, .slice (some ⟨vb, vo, none⟩) 1 vcap]).run Tryz.prog W = .ok (goInt (1 : Nat)) (W.setRow w.heap.size D1.toArray) := fun W hW ty dc => by
    rw [hD1]
    exact run_copyK W 25 24 ty 100 w.heap.size (i * 3) (n + 1 - i) dc vb vo 1 vcap 3 1 ROW 100 vs Tryz.underlying25 hsz (by simp only [Nat.min_def]; split <;> omega) (by omega) (by rw [hW]; exact hN) (by omega)
      (fun j v hj => by
        rw [cell_of (by rw [hW]; exact hOv), ← Array.getElem?_toList]
        rw [hvs, List.getElem?_take] at hj
        split at hj
        · rw [List.getElem?_drop] at hj; exact hj
        · cases hj) h1v
  have hdl : (cs.drop (i * 3)).length = (n - i) * 3 := by rw [List.length_drop, hcl]; omega
  have hcpB : ∀ (W : World), W.heap = (W1.setRow w.heap.size D1.toArray).heap → ∀ ty dc sc, (Builtin.copy_ #[25, 25] ty #[.slice (some ⟨w.heap.size, (i + 1) * 3, none⟩) (n + 1 - (i + 1)) dc, .slice (some ⟨b, i * 3, none⟩) (n - i) sc]).run Tryz.prog W = .ok (goInt (n - i : Nat)) (W.setRow w.heap.size D2.toArray) := fun W hW ty dc sc => by
    rw [hD2]
    exact run_copyK W 25 25 ty 100 w.heap.size ((i + 1) * 3) (n + 1 - (i + 1)) dc b (i * 3) (n - i) sc 3 (n - i) D1.toArray 100 (cs.drop (i * 3)) Tryz.underlying25 hsz (by simp only [Nat.min_def]; split <;> omega) hdl (by rw [hW]; exact hN2) (by simp only [List.size_toArray]; omega)
      (fun j v hj => by
        rw [cell_of (by rw [hW]; exact hOb2), ← Array.getElem?_toList]
        rw [List.getElem?_drop, hcs, List.getElem?_take] at hj
        split at hj
        · exact hj
        · cases hj) (fun v hv => h1c v (List.mem_of_mem_drop hv))
  have hGi : ¬ (G = i) := by omega
  have hGim : ¬ (G = i + 1) := by omega
  have hci : ¬ (cap = i) := by omega
  have hz2 : ¬ ((i : Int) = (n : Int)) := by omega
  have hz3 : (cap : Int) < (n : Int) + 1 := by omega
  have mixed : Tryz.prog.follows .mixedOrders = true := by kernel_rfl
  have hw1 : IntKind.i64.wrap ((i : Int) + 1) = (i : Int) + 1 := by rw [IntKind.wrap_i64]; omega
  have hb1' : (0 : Int) ≤ (i : Int) + 1 := by omega
  have hin : i ≤ n := by omega
  have htn : ((i : Int) + 1).toNat = i + 1 := by omega
  have hb3 : (i : Int) ≤ (n : Int) := by omega
  have hb3' : (i : Int) ≤ (n : Int) + 1 := by omega
  have hb5 : (i : Int) + 1 ≤ (n : Int) + 1 := by omega
  rw [← hW1] at hrz
  subst hW1
  have hF1 : (((w.alloc (.cells ROW 100)).drew.setRow w.heap.size D1.toArray).drew).heap = ((w.drew.alloc (.cells ROW 100)).setRow w.heap.size D1.toArray).heap := rfl
  have hE1 : ((w.alloc (.cells ROW 100)).drew).heap = (w.drew.alloc (.cells ROW 100)).heap := rfl
  clear hG hold hR hcs hvs hD1 hD2 hN hOv hOb hN2 hOb2 hlD1 hb hvb hzc hik
  go_enter Tryz.func109, Tryz.ntmps109
  go_wp2_with (first
    | (at_builtin; refine Lib.wpList_append_run _ rfl _ _ _ _ rfl _ _ rfl rfl _ _ (hrz _) ?_)
    | (at_builtin; refine wpList_copyI _ rfl _ _ 25 24 rfl _ _ rfl rfl (hcpA _ hE1 _ _) ?_))
  go_region_law_o (refine step_copy_runI rfl _ _ 25 25 rfl (.slice (some ⟨w.heap.size, (i + 1) * 3, none⟩) (n + 1 - (i + 1)) (G - (i + 1))) (.slice (some ⟨b, i * 3, none⟩) (n - i) (cap - i)) (by simp [Act.eval, Act.put]) (by simp [Act.eval, Act.put]) (hcpB _ hF1 3 (G - (i + 1)) (cap - i)) ?_)
  go_wp2
  go_ret
  exact ⟨rfl, rfl⟩
set_option maxHeartbeats 4000000 in
set_option maxRecDepth 100000 in
theorem insEndK (base : Option Addr) (n cap vb vo vcap : Nat) (w w' : World) (u : Value) (h63 : n ≤ 68719476736) (hr : ∀ ty, (Builtin.append_ #[25, 24] ty #[.slice base n cap, .slice (some ⟨vb, vo, none⟩) 1 vcap]).run Tryz.prog w = .ok u w') :
    Calls Tryz.prog 109 #[.slice base n cap, .int .i64 n, .slice (some ⟨vb, vo, none⟩) 1 vcap] w fun e w2 => e = .returned u ∧ w2 = w' := by
  go_enter Tryz.func109, Tryz.ntmps109
  go_wp2_with (at_builtin; refine Lib.wpList_append_run _ rfl _ _ _ _ rfl _ _ rfl rfl _ _ (hr _) ?_)
  all_goals (go_ret; exact ⟨rfl, rfl⟩)
theorem insCK : InsC Tryz.prog 109 3 100 25 24 := ⟨insShiftK, insGrowK, insEndK⟩
end Go.Evl

namespace Go.Evl
open Go Go.Proofs Go.RowKit
set_option maxHeartbeats 4000000 in
set_option maxRecDepth 100000 in
theorem insShiftV (b vb vo i n cap vcap : Nat) (c vc : Array Value) (t t2 : TypeId) (w : World) (hb : w.heap[b]? = some (.cells c t (0, 0))) (hvb : w.heap[vb]? = some (.cells vc t2 (0, 0))) (hne : vb ≠ b) (hi : i < n) (hroom : n + 1 ≤ cap) (h63 : n + 1 ≤ 68719476736)
    (hc : c.size = cap * 2) (cs vs C1 C2 : List Value) (hcs : cs = (c.toList.take (n * 2)).drop (i * 2)) (hvs : vs = (vc.toList.drop vo).take 2) (hvl : vs.length = 2) (h1c : ∀ v ∈ cs, v.oneCell' = true) (h1v : ∀ v ∈ vs, v.oneCell' = true)
    (hC1 : C1 = setL c.toList ((i + 1) * 2) cs) (hC2 : C2 = setL C1 (i * 2) vs) (hvk : vc.size ≠ 0) :
    Calls Tryz.prog 122 #[.slice (some ⟨b, 0, none⟩) n cap, .int .i64 i, .slice (some ⟨vb, vo, none⟩) 1 vcap] w fun e w' =>
      e = .returned (.slice (some ⟨b, 0, none⟩) (n + 1) cap) ∧ w' = (w.drew.setRow b C1.toArray).setRow b C2.toArray := by
  have hsz : szOf Tryz.prog 156 = some 2 := by kernel_rfl
  have hov : ∀ lb cb, (callFunc 155 #[.slice (some ⟨vb, vo, none⟩) 1 vcap, .slice (some ⟨b, (i + 1) * 2, none⟩) lb cb]).run Tryz.prog w = .ok (.value (.bool false)) w := fun lb cb => by
    rw [run_callFunc_extern Tryz.func155 (by kernel_rfl) (by kernel_rfl) (by kernel_rfl) (e := Extern.SlicesOverlaps.overlaps #[26, 26] #[4]) (by kernel_rfl),
      Lib.run_overlaps_apart w 26 4 156 Tryz.underlying26 2 (fun w => run_sz hsz w) ⟨vb, vo, none⟩ ⟨b, (i + 1) * 2, none⟩ 1 vcap lb cb hne t2 t vc.size c.size (by simp [World.shape?, hvb]) (by simp [World.shape?, hb]) (by omega) (frozen_cells hvb _) (frozen_cells hvb _)]
    rfl
  have hcl : cs.length = (n - i) * 2 := by
    rw [hcs]; simp; omega
  have hbd : w.drew.heap[b]? = some (.cells c t (0, 0)) := hb
  have hlC1 : C1.length = c.size := by rw [hC1, setL_length _ _ _ (by simp; omega)]; simp
  have hb1 : (w.drew.setRow b C1.toArray).heap[b]? = some (.cells C1.toArray t (0, 0)) := setRow_heap _ _ _ _ _ _ hbd
  have hvb1 : (w.drew.setRow b C1.toArray).heap[vb]? = some (.cells vc t2 (0, 0)) := by rw [setRow_other _ _ _ _ hne]; exact hvb
  have hcp1 : ∀ ty dc sc, (Builtin.copy_ #[27, 27] ty #[.slice (some ⟨b, (i + 1) * 2, none⟩) (n + 1 - (i + 1)) dc, .slice (some ⟨b, i * 2, none⟩) (n + 1 - i) sc]).run Tryz.prog w.drew = .ok (goInt (n - i : Nat)) (w.drew.setRow b C1.toArray) := fun ty dc sc => by
    rw [hC1]
    exact run_copyK w.drew _ _ ty 156 b _ _ dc b _ _ sc 2 (n - i) c t cs Tryz.underlying27 hsz (by simp only [Nat.min_def]; split <;> omega) hcl hbd (by omega)
      (fun j v hj => by
        rw [cell_of hbd, ← Array.getElem?_toList]
        rw [hcs, List.getElem?_drop, List.getElem?_take] at hj
        split at hj
        · exact hj
        · cases hj) h1c
  have hcp2 : ∀ (W : World), W = w.drew.setRow b C1.toArray → ∀ ty dc, (Builtin.copy_ #[27, 26] ty #[.slice (some ⟨b, i * 2, none⟩) (n + 1 - i) dc, .slice (some ⟨vb, vo, none⟩) 1 vcap]).run Tryz.prog W = .ok (goInt (1 : Nat)) (W.setRow b C2.toArray) := fun W hW ty dc => by
    subst hW
    rw [hC2]
    have := run_copyK (P := Tryz.prog) (w.drew.setRow b C1.toArray) 27 26 ty 156 b (i * 2) (n + 1 - i) dc vb vo 1 vcap 2 1 C1.toArray t vs Tryz.underlying27 hsz (by simp only [Nat.min_def]; split <;> omega) (by omega) hb1 (by simp; omega)
      (fun j v hj => by
        rw [cell_of hvb1, ← Array.getElem?_toList]
        rw [hvs, List.getElem?_take] at hj
        split at hj
        · rw [List.getElem?_drop] at hj; exact hj
        · cases hj) h1v
    simpa using this
  have mixed : Tryz.prog.follows .mixedOrders = true := by kernel_rfl
  have hw1 : IntKind.i64.wrap ((i : Int) + 1) = (i : Int) + 1 := by rw [IntKind.wrap_i64]; omega
  have hb1' : (0 : Int) ≤ (i : Int) + 1 := by omega
  have hin : i ≤ n := by omega
  have htn : ((i : Int) + 1).toNat = i + 1 := by omega
  have hb2 : ¬ (cap = i + 1) := by omega
  have hb3 : (i : Int) ≤ (n : Int) + 1 := by omega
  have hb4 : ¬ (cap = i) := by omega
  have hb5 : (i : Int) + 1 ≤ (n : Int) + 1 := by omega
  clear hcs hvs hC1 hC2 hlC1 hb1 hvb1 hbd hb hvb
  go_enter Tryz.func122, Tryz.ntmps122
  go_wp2_with (simp only [hov])
  go_region_law_o (refine step_copy_runI rfl _ _ 27 27 rfl (.slice (some ⟨b, (i + 1) * 2, none⟩) (n + 1 - (i + 1)) (cap - (i + 1))) (.slice (some ⟨b, i * 2, none⟩) (n + 1 - i) (cap - i)) (by simp [Act.eval, Act.put]) (by simp [Act.eval, Act.put]) (hcp1 _ _ _) ?_)
  go_wp2_with (at_builtin; refine wpList_copyI _ rfl _ _ 27 26 rfl _ _ rfl rfl (hcp2 _ rfl _ _) ?_)
  go_ret
  exact ⟨rfl, rfl⟩
set_option maxHeartbeats 4000000 in
set_option maxRecDepth 100000 in
theorem insGrowV (b vb vo i n cap vcap : Nat) (c vc : Array Value) (t t2 : TypeId) (w : World) (hb : w.heap[b]? = some (.cells c t (0, 0))) (hvb : w.heap[vb]? = some (.cells vc t2 (0, 0))) (hi : i < n) (hnc : n ≤ cap) (hroom : cap < n + 1) (hbig : n + 1 ≤ 68719476736)
    (hc : n * 2 ≤ c.size) (cs vs D1 D2 : List Value) (ROW : Array Value) (i0 : TypeInfo) (z : Value) (hi0 : Tryz.prog.info? 156 = some i0) (hz0 : i0.zero = some z) (hs0 : i0.size = 2) (hzs : z.cells.size = 2) (hbt : i0.bytes ≤ 1024) (hcs : cs = c.toList.take (n * 2)) (hvs : vs = (vc.toList.drop vo).take 2) (hvl : vs.length = 2) (h1c : ∀ v ∈ cs, v.oneCell' = true) (h1v : ∀ v ∈ vs, v.oneCell' = true)
    (hR : ROW = (cs.take (i * 2)).toArray ++ Builtin.zeroCells z.cells (n + 1 - i) ++ Builtin.zeroCells z.cells (grownCap w (n + 1) cap 156 - (n + 1))) (hD1 : D1 = setL ROW.toList (i * 2) vs) (hD2 : D2 = setL D1 ((i + 1) * 2) (cs.drop (i * 2))) :
    Calls Tryz.prog 122 #[.slice (some ⟨b, 0, none⟩) n cap, .int .i64 i, .slice (some ⟨vb, vo, none⟩) 1 vcap] w fun e w' =>
      e = .returned (.slice (some ⟨w.heap.size, 0, none⟩) (n + 1) (grownCap w (n + 1) cap 156)) ∧ w' = ((((w.alloc (.cells ROW 156)).drew).setRow w.heap.size D1.toArray).drew).setRow w.heap.size D2.toArray := by
  have hsz : szOf Tryz.prog 156 = some 2 := by simp [szOf, hi0, hs0]
  have hbw : b < w.heap.size := lt_of_heap hb
  have hvw : vb < w.heap.size := lt_of_heap hvb
  have hcl : cs.length = n * 2 := by rw [hcs]; simp; omega
  have hzc : (n : Int) + 1 - (i : Int) = ((n + 1 - i : Nat) : Int) := by omega
  have hik : i + (n + 1 - i) = n + 1 := by omega
  have hold : (Builtin.firstCells i0.size i (.slice (some ⟨b, 0, none⟩) i cap)).run Tryz.prog w.drew = .ok (cs.take (i * 2)).toArray w.drew := by
    rw [hs0]
    exact run_firstCells_some w.drew 2 i ⟨b, 0, none⟩ i cap (cs.take (i * 2)) (by rw [List.length_take]; omega) (fun j v hj => by
      rw [List.getElem?_take] at hj
      split at hj
      · rw [hcs, List.getElem?_take] at hj
        split at hj
        · rw [add_none, World.cell?_drew, cell_of hb, Nat.zero_add, ← Array.getElem?_toList]; exact hj
        · cases hj
      · cases hj)
  have hby : (n + 1) * i0.bytes ≤ 68719476736 * 1024 := Nat.mul_le_mul hbig hbt
  have hby2 : (n + 1 - i) * i0.bytes ≤ (n + 1) * i0.bytes := Nat.mul_le_mul_right _ (by omega)
  have hrz : ∀ ty, (Builtin.append_ #[27, 3] ty #[.slice (some ⟨b, 0, none⟩) i cap, .int .i64 ((n : Int) + 1 - (i : Int))]).run Tryz.prog w = .ok (.slice (some ⟨w.heap.size, 0, none⟩) (n + 1) (grownCap w (n + 1) cap 156)) (w.drew.alloc (.cells ROW 156)) := fun ty => by
    have h := Lib.run_append_grow_zeros w 27 3 ty 156 i0 z .i64 .i64 Tryz.underlying27 Tryz.underlying3 hi0 hz0 (some ⟨b, 0, none⟩) i cap (cs.take (i * 2)) hold (n + 1 - i) (by omega) (by omega) (by omega) (by omega) (by omega) (by rw [hik]; exact growslice_fits hroom (by omega))
    rw [hik] at h
    rw [hzc, hR]
    exact h
  obtain ⟨G, hG⟩ : ∃ G, G = grownCap w (n + 1) cap 156 := ⟨_, rfl⟩
  rw [← hG] at hrz hR ⊢
  have hGn : n + 1 ≤ G := by rw [hG]; exact grownCap_ge w _ _ _
  have hG63 : G ≤ 9223372036854775807 := by
    have := grownCap_le_maxLen w (n + 1) cap 156 (by unfold maxLen; omega)
    rw [← hG] at this
    unfold maxLen at this
    omega
  have hRs : ROW.size = G * 2 := by
    rw [hR]
    simp only [Array.size_append, size_zeroCells, hzs, List.size_toArray, List.length_take, hcl]
    rw [Nat.min_eq_left (by omega)]
    omega
  obtain ⟨W1, hW1⟩ : ∃ W1, W1 = w.drew.alloc (.cells ROW 156) := ⟨_, rfl⟩
  have hN : W1.heap[w.heap.size]? = some (.cells ROW 156 (0, 0)) := by rw [hW1]; exact heap_alloc_new w.drew _
  have hOv : W1.heap[vb]? = some (.cells vc t2 (0, 0)) := by rw [hW1, heap_alloc_old _ _ (show vb < w.drew.heap.size from hvw)]; exact hvb
  have hOb : W1.heap[b]? = some (.cells c t (0, 0)) := by rw [hW1, heap_alloc_old _ _ (show b < w.drew.heap.size from hbw)]; exact hb
  have hlD1 : D1.length = G * 2 := by rw [hD1, setL_length _ _ _ (by simp; omega)]; simp [hRs]
  have hN2 : (W1.setRow w.heap.size D1.toArray).heap[w.heap.size]? = some (.cells D1.toArray 156 (0, 0)) := setRow_heap _ _ _ _ _ _ hN
  have hOb2 : (W1.setRow w.heap.size D1.toArray).heap[b]? = some (.cells c t (0, 0)) := by rw [setRow_other _ _ _ _ (by omega)]; exact hOb
  have hcpA : ∀ (W : World), W.heap = W1.heap → ∀ ty dc, (Builtin.copy_ #[27, 26] ty #[.slice (some ⟨w.heap.size, i * 2, none⟩) (n + 1 - i) dc, .slice (some ⟨vb, vo, none⟩) 1 vcap]).run Tryz.prog W = .ok (goInt (1 : Nat)) (W.setRow w.heap.size D1.toArray) := fun W hW ty dc => by
    rw [hD1]
    exact run_copyK W 27 26 ty 156 w.heap.size (i * 2) (n + 1 - i) dc vb vo 1 vcap 2 1 ROW 156 vs Tryz.underlying27 hsz (by simp only [Nat.min_def]; split <;> omega) (by omega) (by rw [hW]; exact hN) (by omega)
      (fun j v hj => by
        rw [cell_of (by rw [hW]; exact hOv), ← Array.getElem?_toList]
        rw [hvs, List.getElem?_take] at hj
        split at hj
        · rw [List.getElem?_drop] at hj; exact hj
        · cases hj) h1v
  have hdl : (cs.drop (i * 2)).length = (n - i) * 2 := by rw [List.length_drop, hcl]; omega
  have hcpB : ∀ (W : World), W.heap = (W1.setRow w.heap.size D1.toArray).heap → ∀ ty dc sc, (Builtin.copy_ #[27, 27] ty #[.slice (some ⟨w.heap.size, (i + 1) * 2, none⟩) (n + 1 - (i + 1)) dc, .slice (some ⟨b, i * 2, none⟩) (n - i) sc]).run Tryz.prog W = .ok (goInt (n - i : Nat)) (W.setRow w.heap.size D2.toArray) := fun W hW ty dc sc => by
    rw [hD2]
    exact run_copyK W 27 27 ty 156 w.heap.size ((i + 1) * 2) (n + 1 - (i + 1)) dc b (i * 2) (n - i) sc 2 (n - i) D1.toArray 156 (cs.drop (i * 2)) Tryz.underlying27 hsz (by simp only [Nat.min_def]; split <;> omega) hdl (by rw [hW]; exact hN2) (by simp only [List.size_toArray]; omega)
      (fun j v hj => by
        rw [cell_of (by rw [hW]; exact hOb2), ← Array.getElem?_toList]
        rw [List.getElem?_drop, hcs, List.getElem?_take] at hj
        split at hj
        · exact hj
        · cases hj) (fun v hv => h1c v (List.mem_of_mem_drop hv))
  have hGi : ¬ (G = i) := by omega
  have hGim : ¬ (G = i + 1) := by omega
  have hci : ¬ (cap = i) := by omega
  have hz2 : ¬ ((i : Int) = (n : Int)) := by omega
  have hz3 : (cap : Int) < (n : Int) + 1 := by omega
  have mixed : Tryz.prog.follows .mixedOrders = true := by kernel_rfl
  have hw1 : IntKind.i64.wrap ((i : Int) + 1) = (i : Int) + 1 := by rw [IntKind.wrap_i64]; omega
  have hb1' : (0 : Int) ≤ (i : Int) + 1 := by omega
  have hin : i ≤ n := by omega
  have htn : ((i : Int) + 1).toNat = i + 1 := by omega
  have hb3 : (i : Int) ≤ (n : Int) := by omega
  have hb3' : (i : Int) ≤ (n : Int) + 1 := by omega
  have hb5 : (i : Int) + 1 ≤ (n : Int) + 1 := by omega
  rw [← hW1] at hrz
  subst hW1
  have hF1 : (((w.alloc (.cells ROW 156)).drew.setRow w.heap.size D1.toArray).drew).heap = ((w.drew.alloc (.cells ROW 156)).setRow w.heap.size D1.toArray).heap := rfl
  have hE1 : ((w.alloc (.cells ROW 156)).drew).heap = (w.drew.alloc (.cells ROW 156)).heap := rfl
  clear hG hold hR hcs hvs hD1 hD2 hN hOv hOb hN2 hOb2 hlD1 hb hvb hzc hik
  go_enter Tryz.func122, Tryz.ntmps122
  go_wp2_with (first
    | (at_builtin; refine Lib.wpList_append_run _ rfl _ _ _ _ rfl _ _ rfl rfl _ _ (hrz _) ?_)
    | (at_builtin; refine wpList_copyI _ rfl _ _ 27 26 rfl _ _ rfl rfl (hcpA _ hE1 _ _) ?_))
  go_region_law_o (refine step_copy_runI rfl _ _ 27 27 rfl (.slice (some ⟨w.heap.size, (i + 1) * 2, none⟩) (n + 1 - (i + 1)) (G - (i + 1))) (.slice (some ⟨b, i * 2, none⟩) (n - i) (cap - i)) (by simp [Act.eval, Act.put]) (by simp [Act.eval, Act.put]) (hcpB _ hF1 3 (G - (i + 1)) (cap - i)) ?_)
  go_wp2
  go_ret
  exact ⟨rfl, rfl⟩
set_option maxHeartbeats 4000000 in
set_option maxRecDepth 100000 in
theorem insEndV (base : Option Addr) (n cap vb vo vcap : Nat) (w w' : World) (u : Value) (h63 : n ≤ 68719476736) (hr : ∀ ty, (Builtin.append_ #[27, 26] ty #[.slice base n cap, .slice (some ⟨vb, vo, none⟩) 1 vcap]).run Tryz.prog w = .ok u w') :
    Calls Tryz.prog 122 #[.slice base n cap, .int .i64 n, .slice (some ⟨vb, vo, none⟩) 1 vcap] w fun e w2 => e = .returned u ∧ w2 = w' := by
  go_enter Tryz.func122, Tryz.ntmps122
  go_wp2_with (at_builtin; refine Lib.wpList_append_run _ rfl _ _ _ _ rfl _ _ rfl rfl _ _ (hr _) ?_)
  all_goals (go_ret; exact ⟨rfl, rfl⟩)
theorem insCV : InsC Tryz.prog 122 2 156 27 26 := ⟨insShiftV, insGrowV, insEndV⟩
end Go.Evl

namespace Go.Evl
open Go Go.Proofs Go.RowKit
set_option maxHeartbeats 4000000 in
set_option maxRecDepth 100000 in
theorem insShiftM (b vb vo i n cap vcap : Nat) (c vc : Array Value) (t t2 : TypeId) (w : World) (hb : w.heap[b]? = some (.cells c t (0, 0))) (hvb : w.heap[vb]? = some (.cells vc t2 (0, 0))) (hne : vb ≠ b) (hi : i < n) (hroom : n + 1 ≤ cap) (h63 : n + 1 ≤ 68719476736)
    (hc : c.size = cap * 2) (cs vs C1 C2 : List Value) (hcs : cs = (c.toList.take (n * 2)).drop (i * 2)) (hvs : vs = (vc.toList.drop vo).take 2) (hvl : vs.length = 2) (h1c : ∀ v ∈ cs, v.oneCell' = true) (h1v : ∀ v ∈ vs, v.oneCell' = true)
    (hC1 : C1 = setL c.toList ((i + 1) * 2) cs) (hC2 : C2 = setL C1 (i * 2) vs) (hvk : vc.size ≠ 0) :
    Calls Tryz.prog 82 #[.slice (some ⟨b, 0, none⟩) n cap, .int .i64 i, .slice (some ⟨vb, vo, none⟩) 1 vcap] w fun e w' =>
      e = .returned (.slice (some ⟨b, 0, none⟩) (n + 1) cap) ∧ w' = (w.drew.setRow b C1.toArray).setRow b C2.toArray := by
  have hsz : szOf Tryz.prog 170 = some 2 := by kernel_rfl
  have hov : ∀ lb cb, (callFunc 119 #[.slice (some ⟨vb, vo, none⟩) 1 vcap, .slice (some ⟨b, (i + 1) * 2, none⟩) lb cb]).run Tryz.prog w = .ok (.value (.bool false)) w := fun lb cb => by
    rw [run_callFunc_extern Tryz.func119 (by kernel_rfl) (by kernel_rfl) (by kernel_rfl) (e := Extern.SlicesOverlaps.overlaps #[33, 33] #[4]) (by kernel_rfl),
      Lib.run_overlaps_apart w 33 4 170 Tryz.underlying33 2 (fun w => run_sz hsz w) ⟨vb, vo, none⟩ ⟨b, (i + 1) * 2, none⟩ 1 vcap lb cb hne t2 t vc.size c.size (by simp [World.shape?, hvb]) (by simp [World.shape?, hb]) (by omega) (frozen_cells hvb _) (frozen_cells hvb _)]
    rfl
  have hcl : cs.length = (n - i) * 2 := by
    rw [hcs]; simp; omega
  have hbd : w.drew.heap[b]? = some (.cells c t (0, 0)) := hb
  have hlC1 : C1.length = c.size := by rw [hC1, setL_length _ _ _ (by simp; omega)]; simp
  have hb1 : (w.drew.setRow b C1.toArray).heap[b]? = some (.cells C1.toArray t (0, 0)) := setRow_heap _ _ _ _ _ _ hbd
  have hvb1 : (w.drew.setRow b C1.toArray).heap[vb]? = some (.cells vc t2 (0, 0)) := by rw [setRow_other _ _ _ _ hne]; exact hvb
  have hcp1 : ∀ ty dc sc, (Builtin.copy_ #[34, 34] ty #[.slice (some ⟨b, (i + 1) * 2, none⟩) (n + 1 - (i + 1)) dc, .slice (some ⟨b, i * 2, none⟩) (n + 1 - i) sc]).run Tryz.prog w.drew = .ok (goInt (n - i : Nat)) (w.drew.setRow b C1.toArray) := fun ty dc sc => by
    rw [hC1]
    exact run_copyK w.drew _ _ ty 170 b _ _ dc b _ _ sc 2 (n - i) c t cs Tryz.underlying34 hsz (by simp only [Nat.min_def]; split <;> omega) hcl hbd (by omega)
      (fun j v hj => by
        rw [cell_of hbd, ← Array.getElem?_toList]
        rw [hcs, List.getElem?_drop, List.getElem?_take] at hj
        split at hj
        · exact hj
        · cases hj) h1c
  have hcp2 : ∀ (W : World), W = w.drew.setRow b C1.toArray → ∀ ty dc, (Builtin.copy_ #[34, 33] ty #[.slice (some ⟨b, i * 2, none⟩) (n + 1 - i) dc, .slice (some ⟨vb, vo, none⟩) 1 vcap]).run Tryz.prog W = .ok (goInt (1 : Nat)) (W.setRow b C2.toArray) := fun W hW ty dc => by
    subst hW
    rw [hC2]
    have := run_copyK (P := Tryz.prog) (w.drew.setRow b C1.toArray) 34 33 ty 170 b (i * 2) (n + 1 - i) dc vb vo 1 vcap 2 1 C1.toArray t vs Tryz.underlying34 hsz (by simp only [Nat.min_def]; split <;> omega) (by omega) hb1 (by simp; omega)
      (fun j v hj => by
        rw [cell_of hvb1, ← Array.getElem?_toList]
        rw [hvs, List.getElem?_take] at hj
        split at hj
        · rw [List.getElem?_drop] at hj; exact hj
        · cases hj) h1v
    simpa using this
  have mixed : Tryz.prog.follows .mixedOrders = true := by kernel_rfl
  have hw1 : IntKind.i64.wrap ((i : Int) + 1) = (i : Int) + 1 := by rw [IntKind.wrap_i64]; omega
  have hb1' : (0 : Int) ≤ (i : Int) + 1 := by omega
  have hin : i ≤ n := by omega
  have htn : ((i : Int) + 1).toNat = i + 1 := by omega
  have hb2 : ¬ (cap = i + 1) := by omega
  have hb3 : (i : Int) ≤ (n : Int) + 1 := by omega
  have hb4 : ¬ (cap = i) := by omega
  have hb5 : (i : Int) + 1 ≤ (n : Int) + 1 := by omega
  clear hcs hvs hC1 hC2 hlC1 hb1 hvb1 hbd hb hvb
  go_enter Tryz.func82, Tryz.ntmps82
  go_wp2_with (simp only [hov])
  go_region_law_o (refine step_copy_runI rfl _ _ 34 34 rfl (.slice (some ⟨b, (i + 1) * 2, none⟩) (n + 1 - (i + 1)) (cap - (i + 1))) (.slice (some ⟨b, i * 2, none⟩) (n + 1 - i) (cap - i)) (by simp [Act.eval, Act.put]) (by simp [Act.eval, Act.put]) (hcp1 _ _ _) ?_)
  go_wp2_with (at_builtin; refine wpList_copyI _ rfl _ _ 34 33 rfl _ _ rfl rfl (hcp2 _ rfl _ _) ?_)
  go_ret
  exact ⟨rfl, rfl⟩
set_option maxHeartbeats 4000000 in
set_option maxRecDepth 100000 in
theorem insGrowM (b vb vo i n cap vcap : Nat) (c vc : Array Value) (t t2 : TypeId) (w : World) (hb : w.heap[b]? = some (.cells c t (0, 0))) (hvb : w.heap[vb]? = some (.cells vc t2 (0, 0))) (hi : i < n) (hnc : n ≤ cap) (hroom : cap < n + 1) (hbig : n + 1 ≤ 68719476736)
    (hc : n * 2 ≤ c.size) (cs vs D1 D2 : List Value) (ROW : Array Value) (i0 : TypeInfo) (z : Value) (hi0 : Tryz.prog.info? 170 = some i0) (hz0 : i0.zero = some z) (hs0 : i0.size = 2) (hzs : z.cells.size = 2) (hbt : i0.bytes ≤ 1024) (hcs : cs = c.toList.take (n * 2)) (hvs : vs = (vc.toList.drop vo).take 2) (hvl : vs.length = 2) (h1c : ∀ v ∈ cs, v.oneCell' = true) (h1v : ∀ v ∈ vs, v.oneCell' = true)
    (hR : ROW = (cs.take (i * 2)).toArray ++ Builtin.zeroCells z.cells (n + 1 - i) ++ Builtin.zeroCells z.cells (grownCap w (n + 1) cap 170 - (n + 1))) (hD1 : D1 = setL ROW.toList (i * 2) vs) (hD2 : D2 = setL D1 ((i + 1) * 2) (cs.drop (i * 2))) :
    Calls Tryz.prog 82 #[.slice (some ⟨b, 0, none⟩) n cap, .int .i64 i, .slice (some ⟨vb, vo, none⟩) 1 vcap] w fun e w' =>
      e = .returned (.slice (some ⟨w.heap.size, 0, none⟩) (n + 1) (grownCap w (n + 1) cap 170)) ∧ w' = ((((w.alloc (.cells ROW 170)).drew).setRow w.heap.size D1.toArray).drew).setRow w.heap.size D2.toArray := by
  have hsz : szOf Tryz.prog 170 = some 2 := by simp [szOf, hi0, hs0]
  have hbw : b < w.heap.size := lt_of_heap hb
  have hvw : vb < w.heap.size := lt_of_heap hvb
  have hcl : cs.length = n * 2 := by rw [hcs]; simp; omega
  have hzc : (n : Int) + 1 - (i : Int) = ((n + 1 - i : Nat) : Int) := by omega
  have hik : i + (n + 1 - i) = n + 1 := by omega
  have hold : (Builtin.firstCells i0.size i (.slice (some ⟨b, 0, none⟩) i cap)).run Tryz.prog w.drew = .ok (cs.take (i * 2)).toArray w.drew := by
    rw [hs0]
    exact run_firstCells_some w.drew 2 i ⟨b, 0, none⟩ i cap (cs.take (i * 2)) (by rw [List.length_take]; omega) (fun j v hj => by
      rw [List.getElem?_take] at hj
      split at hj
      · rw [hcs, List.getElem?_take] at hj
        split at hj
        · rw [add_none, World.cell?_drew, cell_of hb, Nat.zero_add, ← Array.getElem?_toList]; exact hj
        · cases hj
      · cases hj)
  have hby : (n + 1) * i0.bytes ≤ 68719476736 * 1024 := Nat.mul_le_mul hbig hbt
  have hby2 : (n + 1 - i) * i0.bytes ≤ (n + 1) * i0.bytes := Nat.mul_le_mul_right _ (by omega)
  have hrz : ∀ ty, (Builtin.append_ #[34, 3] ty #[.slice (some ⟨b, 0, none⟩) i cap, .int .i64 ((n : Int) + 1 - (i : Int))]).run Tryz.prog w = .ok (.slice (some ⟨w.heap.size, 0, none⟩) (n + 1) (grownCap w (n + 1) cap 170)) (w.drew.alloc (.cells ROW 170)) := fun ty => by
    have h := Lib.run_append_grow_zeros w 34 3 ty 170 i0 z .i64 .i64 Tryz.underlying34 Tryz.underlying3 hi0 hz0 (some ⟨b, 0, none⟩) i cap (cs.take (i * 2)) hold (n + 1 - i) (by omega) (by omega) (by omega) (by omega) (by omega) (by rw [hik]; exact growslice_fits hroom (by omega))
    rw [hik] at h
    rw [hzc, hR]
    exact h
  obtain ⟨G, hG⟩ : ∃ G, G = grownCap w (n + 1) cap 170 := ⟨_, rfl⟩
  rw [← hG] at hrz hR ⊢
  have hGn : n + 1 ≤ G := by rw [hG]; exact grownCap_ge w _ _ _
  have hG63 : G ≤ 9223372036854775807 := by
    have := grownCap_le_maxLen w (n + 1) cap 170 (by unfold maxLen; omega)
    rw [← hG] at this
    unfold maxLen at this
    omega
  have hRs : ROW.size = G * 2 := by
    rw [hR]
    simp only [Array.size_append, size_zeroCells, hzs, List.size_toArray, List.length_take, hcl]
    rw [Nat.min_eq_left (by omega)]
    omega
  obtain ⟨W1, hW1⟩ : ∃ W1, W1 = w.drew.alloc (.cells ROW 170) := ⟨_, rfl⟩
  have hN : W1.heap[w.heap.size]? = some (.cells ROW 170 (0, 0)) := by rw [hW1]; exact heap_alloc_new w.drew _
  have hOv : W1.heap[vb]? = some (.cells vc t2 (0, 0)) := by rw [hW1, heap_alloc_old _ _ (show vb < w.drew.heap.size from hvw)]; exact hvb
  have hOb : W1.heap[b]? = some (.cells c t (0, 0)) := by rw [hW1, heap_alloc_old _ _ (show b < w.drew.heap.size from hbw)]; exact hb
  have hlD1 : D1.length = G * 2 := by rw [hD1, setL_length _ _ _ (by simp; omega)]; simp [hRs]
  have hN2 : (W1.setRow w.heap.size D1.toArray).heap[w.heap.size]? = some (.cells D1.toArray 170 (0, 0)) := setRow_heap _ _ _ _ _ _ hN
  have hOb2 : (W1.setRow w.heap.size D1.toArray).heap[b]? = some (.cells c t (0, 0)) := by rw [setRow_other _ _ _ _ (by omega)]; exact hOb
  have hcpA : ∀ (W : World), W.heap = W1.heap → ∀ ty dc, (Builtin.copy_ #[34, 33] ty #[.slice (some ⟨w.heap.size, i * 2, none⟩) (n + 1 - i) dc, .slice (some ⟨vb, vo, none⟩) 1 vcap]).run Tryz.prog W = .ok (goInt (1 : Nat)) (W.setRow w.heap.size D1.toArray) := fun W hW ty dc => by
    rw [hD1]
    exact run_copyK W 34 33 ty 170 w.heap.size (i * 2) (n + 1 - i) dc vb vo 1 vcap 2 1 ROW 170 vs Tryz.underlying34 hsz (by simp only [Nat.min_def]; split <;> omega) (by omega) (by rw [hW]; exact hN) (by omega)
      (fun j v hj => by
        rw [cell_of (by rw [hW]; exact hOv), ← Array.getElem?_toList]
        rw [hvs, List.getElem?_take] at hj
        split at hj
        · rw [List.getElem?_drop] at hj; exact hj
        · cases hj) h1v
  have hdl : (cs.drop (i * 2)).length = (n - i) * 2 := by rw [List.length_drop, hcl]; omega
  have hcpB : ∀ (W : World), W.heap = (W1.setRow w.heap.size D1.toArray).heap → ∀ ty dc sc, (Builtin.copy_ #[34, 34] ty #[.slice (some ⟨w.heap.size, (i + 1) * 2, none⟩) (n + 1 - (i + 1)) dc, .slice (some ⟨b, i * 2, none⟩) (n - i) sc]).run Tryz.prog W = .ok (goInt (n - i : Nat)) (W.setRow w.heap.size D2.toArray) := fun W hW ty dc sc => by
    rw [hD2]
    exact run_copyK W 34 34 ty 170 w.heap.size ((i + 1) * 2) (n + 1 - (i + 1)) dc b (i * 2) (n - i) sc 2 (n - i) D1.toArray 170 (cs.drop (i * 2)) Tryz.underlying34 hsz (by simp only [Nat.min_def]; split <;> omega) hdl (by rw [hW]; exact hN2) (by simp only [List.size_toArray]; omega)
      (fun j v hj => by
        rw [cell_of (by rw [hW]; exact hOb2), ← Array.getElem?_toList]
        rw [List.getElem?_drop, hcs, List.getElem?_take] at hj
        split at hj
        · exact hj
        · cases hj) (fun v hv => h1c v (List.mem_of_mem_drop hv))
  have hGi : ¬ (G = i) := by omega
  have hGim : ¬ (G = i + 1) := by omega
  have hci : ¬ (cap = i) := by omega
  have hz2 : ¬ ((i : Int) = (n : Int)) := by omega
  have hz3 : (cap : Int) < (n : Int) + 1 := by omega
  have mixed : Tryz.prog.follows .mixedOrders = true := by kernel_rfl
  have hw1 : IntKind.i64.wrap ((i : Int) + 1) = (i : Int) + 1 := by rw [IntKind.wrap_i64]; omega
  have hb1' : (0 : Int) ≤ (i : Int) + 1 := by omega
  have hin : i ≤ n := by omega
  have htn : ((i : Int) + 1).toNat = i + 1 := by omega
  have hb3 : (i : Int) ≤ (n : Int) := by omega
  have hb3' : (i : Int) ≤ (n : Int) + 1 := by omega
  have hb5 : (i : Int) + 1 ≤ (n : Int) + 1 := by omega
  rw [← hW1] at hrz
  subst hW1
  have hF1 : (((w.alloc (.cells ROW 170)).drew.setRow w.heap.size D1.toArray).drew).heap = ((w.drew.alloc (.cells ROW 170)).setRow w.heap.size D1.toArray).heap := rfl
  have hE1 : ((w.alloc (.cells ROW 170)).drew).heap = (w.drew.alloc (.cells ROW 170)).heap := rfl
  clear hG hold hR hcs hvs hD1 hD2 hN hOv hOb hN2 hOb2 hlD1 hb hvb hzc hik
  go_enter Tryz.func82, Tryz.ntmps82
  go_wp2_with (first
    | (at_builtin; refine Lib.wpList_append_run _ rfl _ _ _ _ rfl _ _ rfl rfl _ _ (hrz _) ?_)
    | (at_builtin; refine wpList_copyI _ rfl _ _ 34 33 rfl _ _ rfl rfl (hcpA _ hE1 _ _) ?_))
  go_region_law_o (refine step_copy_runI rfl _ _ 34 34 rfl (.slice (some ⟨w.heap.size, (i + 1) * 2, none⟩) (n + 1 - (i + 1)) (G - (i + 1))) (.slice (some ⟨b, i * 2, none⟩) (n - i) (cap - i)) (by simp [Act.eval, Act.put]) (by simp [Act.eval, Act.put]) (hcpB _ hF1 3 (G - (i + 1)) (cap - i)) ?_)
  go_wp2
  go_ret
  exact ⟨rfl, rfl⟩
set_option maxHeartbeats 4000000 in
set_option maxRecDepth 100000 in
theorem insEndM (base : Option Addr) (n cap vb vo vcap : Nat) (w w' : World) (u : Value) (h63 : n ≤ 68719476736) (hr : ∀ ty, (Builtin.append_ #[34, 33] ty #[.slice base n cap, .slice (some ⟨vb, vo, none⟩) 1 vcap]).run Tryz.prog w = .ok u w') :
    Calls Tryz.prog 82 #[.slice base n cap, .int .i64 n, .slice (some ⟨vb, vo, none⟩) 1 vcap] w fun e w2 => e = .returned u ∧ w2 = w' := by
  go_enter Tryz.func82, Tryz.ntmps82
  go_wp2_with (at_builtin; refine Lib.wpList_append_run _ rfl _ _ _ _ rfl _ _ rfl rfl _ _ (hr _) ?_)
  all_goals (go_ret; exact ⟨rfl, rfl⟩)
theorem insCM : InsC Tryz.prog 82 2 170 34 33 := ⟨insShiftM, insGrowM, insEndM⟩
end Go.Evl

namespace Go.Evl.Zone
open Go Go.Evl Go.Proofs Go.RowKit Go.Sort
set_option maxRecDepth 100000
theorem cmp_walk (a b : ByteArray) (w : World) : Calls P0 114 #[.string a, .string b] w fun e w' => e = .returned (.int .i64 (Lib.compareBytes a.data.toList b.data.toList)) ∧ w' = w := by
  have hcon := Tryz.strings_Compare a b w
  go_enter Tryz.func114, Tryz.ntmps114
  go_wp2_with (go_at_call 151; refine hcon.mono ?_; rintro e w' ⟨rfl, rfl⟩)
  go_ret
  exact ⟨rfl, rfl⟩
theorem lt_cmp (a b : Bytes) : ltOf cmpB a b = decide (cmpB a b < 0) := rfl
theorem cmp_swo : SWO (ltOf cmpB) where
  irrefl x := by rw [lt_cmp, cmp_self]; rfl
  trans x y z h1 h2 := by
    rw [lt_cmp, decide_eq_true_eq] at *
    exact cmp_trans _ _ _ h1 h2
  ntrans x y z h1 h2 := by
    rw [lt_cmp, decide_eq_false_iff_not] at *
    intro h3
    rcases Int.lt_trichotomy (cmpB x y) 0 with k | k | k
    · exact h1 k
    · obtain rfl := cmp_zero _ _ k; exact h2 h3
    · have k2 := cmp_anti _ _ k
      exact h2 (cmp_trans _ _ _ k2 h3)
theorem merge_sortB (l : List Bytes) : (l.mergeSort fun x y => !(ltOf cmpB) y x) = sortB l := by
  refine perm_sorted (le := leB) (fun _ _ => leB_anti) ((List.mergeSort_perm l _).trans (sortB_perm l).symm) ?_ (sortB_sorted l)
  have h := List.pairwise_mergeSort (le := fun x y => !(ltOf cmpB) y x) (fun a b c h1 h2 => ?_) (fun a b => ?_) l
  · refine h.imp fun {a b} hab => ?_
    simpa [lt_cmp, leB] using hab
  · simp only [Bool.not_eq_true', lt_cmp, decide_eq_false_iff_not] at *
    intro k
    rcases Int.lt_trichotomy (cmpB b a) 0 with q | q | q
    · exact h1 q
    · obtain rfl := cmp_zero _ _ q; exact h2 k
    · exact h2 (cmp_trans _ _ _ k (cmp_anti _ _ q))
  · simp only [Bool.or_eq_true, Bool.not_eq_true', lt_cmp, decide_eq_false_iff_not]
    by_cases k : cmpB b a < 0
    · right
      have := cmp_neg k
      omega
    · exact .inl k
theorem merge_sortZ (l : List Int) : (l.mergeSort fun x y => decide (x ≤ y)) = sortZ l := by
  refine perm_sorted (le := fun a b : Int => a ≤ b) (fun _ _ => Int.le_antisymm) ((List.mergeSort_perm l _).trans (sortZ_perm l).symm) ?_ (sortZ_sorted l)
  have h := List.pairwise_mergeSort (le := fun x y : Int => decide (x ≤ y)) (fun a b c h1 h2 => by simp at *; omega) (fun a b => by simp; omega) l
  exact h.imp fun {a b} hab => by simpa using hab
theorem entS : Proofs.Enters P0 113 := enters_of Tryz.func113 (by kernel_rfl) rfl
theorem entI : Proofs.Enters P0 144 := enters_of Tryz.func144 (by kernel_rfl) rfl
theorem entC : Proofs.Enters P0 114 := enters_of Tryz.func114 (by kernel_rfl) rfl
theorem sortSOK : PSound P0 InvW 113 (pSortS 114) := by
  intro args H r h g vs R hW hI hH ha hR
  unfold pSortS at h
  split at h
  · rename_i x q
    split at h
    · rename_i hq
      subst hq
      obtain ⟨v, u, rfl, h1, h2⟩ := cs_two ha
      obtain rfl : u = .func (.func 114) #[] #[] := by
        cases h2 with
        | fn f cs ps hl hh =>
          have : cs = [] := List.length_eq_zero_iff.1 hl
          subst this
          rfl
      refine sortRow_ok (α := Bytes) (fun x => .string ⟨x.toArray⟩) (fun _ => rfl) sortB (fun l => (sortB_perm l).length_eq) strs strs_map #[.func (.func 114) #[] #[]] entS
        (fun p cap w => AnyF.slices_SortFunc_none { Tryz.sortS with } p cap _ w) (fun b cap l w hH hb hl => ?_) h hW hH h1 hR
      have hc := Any.slices_SortFunc_total Tryz.sortS (fun x : Bytes => .string ⟨x.toArray⟩) (fun _ => rfl) cmpB cmp_swo 114 #[] b 0 cap l.toArray w entC
        (fun m os dk hs x y => (cmp_walk ⟨x.toArray⟩ ⟨y.toArray⟩ _).mono fun _ _ ⟨he, hw⟩ => ⟨he, 0, #[], by rw [hw, grow_empty]; rfl⟩) hH hb (by simpa using hl)
        (fun x y h1 h2 => by
          rw [lt_cmp, decide_eq_false_iff_not] at h1 h2
          exact leB_anti h2 h1)
      rw [merge_sortB] at hc
      exact hc
    · cases h
  · cases h
theorem sortIOK : PSound P0 InvW 144 pSortI := by
  intro args H r h g vs R hW hI hH ha hR
  unfold pSortI at h
  split at h
  · rename_i x
    obtain ⟨v, rfl, h1⟩ := cs_one ha
    refine sortRow_ok (α := Int) (fun x => .int .i64 x) (fun _ => rfl) sortZ (fun l => (sortZ_perm l).length_eq) ints ints_map #[] entI
      (fun p cap w => Tryz.slices_Sort_int_none p cap w) (fun b cap l w hH hb hl => ?_) h hW hH h1 hR
    have hc := Tryz.slices_Sort_int b 0 cap l w hH hb hl
    rw [merge_sortZ] at hc
    exact hc
  · cases h
theorem insOK {f : FuncId} {k : Nat} {te tS tV : TypeId} (hE : Go.Proofs.Enters P0 f) (C : InsC P0 f k te tS tV) (hS : P0.underlying tS = some (.slice te)) (hV : P0.underlying tV = some (.slice te)) (hz : ((zeroC P0 te).map fun z => z.length == k && z.all cellP) = some true) (hsm : small P0 te = true) (hsz : szOf P0 te = some k) : PSound P0 InvW f (pIns k) := by
  simp only [Option.map_eq_some_iff, Bool.and_eq_true, beq_iff_eq] at hz
  obtain ⟨z, h1, h2, h3⟩ := hz
  exact ins_ok hE C hS hV h1 h2 hsm hsz h3
theorem insSOK : PSound P0 InvW 101 (pIns 8) := insOK (enters_of Tryz.func101 (by kernel_rfl) rfl) insCS Tryz.underlying29 Tryz.underlying28 (by kernel_rfl) (by kernel_rfl) (by kernel_rfl)
theorem insKOK : PSound P0 InvW 109 (pIns 3) := insOK (enters_of Tryz.func109 (by kernel_rfl) rfl) insCK Tryz.underlying25 Tryz.underlying24 (by kernel_rfl) (by kernel_rfl) (by kernel_rfl)
theorem insVOK : PSound P0 InvW 122 (pIns 2) := insOK (enters_of Tryz.func122 (by kernel_rfl) rfl) insCV Tryz.underlying27 Tryz.underlying26 (by kernel_rfl) (by kernel_rfl) (by kernel_rfl)
theorem insMOK : PSound P0 InvW 82 (pIns 2) := insOK (enters_of Tryz.func82 (by kernel_rfl) rfl) insCM Tryz.underlying34 Tryz.underlying33 (by kernel_rfl) (by kernel_rfl) (by kernel_rfl)
end Go.Evl.Zone

namespace Go.Evl.Zone
open Go Go.Evl Go.Proofs Go.RowKit Go.ChangeShapes Go.WideShapes Go.ChangeAt Go.Proofs.YtcphhjlnfckoiaaGreat
set_option maxRecDepth 100000
theorem cell1 {t : TypeId} (h : ((P0.info? t).bind fun i => i.zero.map fun z => i.size == 1 && z.cells.size == 1 && decide (i.bytes ≤ 16)) = some true) : ∃ i z, P0.info? t = some i ∧ i.zero = some z ∧ i.size = 1 ∧ z.cells.size = 1 ∧ i.bytes ≤ 16 := by
  simp only [Option.bind_eq_some_iff, Option.map_eq_some_iff] at h
  obtain ⟨i, h1, z, h2, h3⟩ := h
  simp only [Bool.and_eq_true, beq_iff_eq, decide_eq_true_eq] at h3
  exact ⟨i, z, h1, h2, h3.1.1, h3.1.2, h3.2⟩
theorem iS : ∃ i z, P0.info? 23 = some i ∧ i.zero = some z ∧ i.size = 1 ∧ z.cells.size = 1 ∧ i.bytes ≤ 16 := cell1 (by kernel_rfl)
theorem iN : ∃ i z, P0.info? 3 = some i ∧ i.zero = some z ∧ i.size = 1 ∧ z.cells.size = 1 ∧ i.bytes ≤ 16 := cell1 (by kernel_rfl)
theorem growI : PSound P0 InvW 148 (pGrow 1) := let ⟨_, _, a, b, c, d, e⟩ := iS; growOK entH Tryz.grow148 rfl a b c d e
theorem growN : PSound P0 InvW 168 (pGrow 1) := let ⟨_, _, a, b, c, d, e⟩ := iN; growOK entG Tryz.grow168 rfl a b c d e
theorem prim_ok : PrimOK (env P0) InvW where
  ok := by
    intro c f p hp
    change prim c f = some p at hp
    unfold prim at hp
    split at hp
    · cases hp; exact truncOK
    · cases hp; exact compareOK
    · rcases cond_some hp with ⟨_, rfl⟩ | ⟨_, rfl⟩
      · exact cFOK uZ (by kernel_rfl)
      · exact cOK uZ (by kernel_rfl)
    · rcases cond_some hp with ⟨_, rfl⟩ | ⟨_, rfl⟩
      · exact cFOK uV (by kernel_rfl)
      · exact cOK uV (by kernel_rfl)
    · rcases cond_some hp with ⟨_, rfl⟩ | ⟨_, rfl⟩
      · exact cFOK uS (by kernel_rfl)
      · exact cOK uS (by kernel_rfl)
    · rcases cond_some hp with ⟨_, rfl⟩ | ⟨_, rfl⟩
      · exact cFOK uI (by kernel_rfl)
      · exact cOK uI (by kernel_rfl)
    · cases hp; exact cOK uK (by kernel_rfl)
    · cases hp; exact cOK uM (by kernel_rfl)
    · rcases cond_some hp with ⟨_, rfl⟩ | ⟨_, rfl⟩
      · exact cFOK uN (by kernel_rfl)
      · exact cOK uN (by kernel_rfl)
    · cases hp; exact insSOK
    · cases hp; exact insKOK
    · cases hp; exact insVOK
    · cases hp; exact insMOK
    · cases hp; exact sortSOK
    · cases hp; exact sortIOK
    · cases hp; exact growI
    · cases hp; exact growN
    · cases hp
theorem zone_calls {W : World} {f : FuncId} {vs : List Value} {aa : List PV} {v : Value} (ha : Cs (g0 W) vs aa) (h : ans (env P0) f aa = some (.val v)) :
    Calls P0 f vs.toArray W fun e W' => e = .returned v ∧ Below W.heap.size W W' :=
  door_calls (E := env P0) invW_ok tab_ok prim_fr prim_dd prim_ok trivial ha h
theorem own : ownKnob P0.godebug = none := by kernel_rfl
theorem laidOut : laidOutB P0 = true := by kernel_rfl
def LawOK (k : FuncId) (ts : List TypeId) : Prop := ∀ aa, FitAll P0 12 ts aa → ans (env P0) k aa = some (.val (.bool true))
noncomputable def theWorld (os : Os) : World := World.holding P0 os ⟨#[], #[], []⟩
theorem lift {H : Type} {enc : TypeId × Value → H} {os : Os} (started : os.Started) {k : FuncId} {fn : Func} {s : ChangeSpec} {F : Stop.Interp} (hfn : P0.funcs[k]? = some fn) (noInit : P0.inits.idxOf? k = none) (hvars : s.vars = [])
    (hspec : ∀ ds : List (DataW H), ds.length = fn.params.toList.length → s.fn H ds = { results := [.lit (.bool true)], args := ds }) (hres : fn.resultTypes = #[4])
    (hrd : (fn.params.toList.all fun t => rdB P0 12 t && P0.readableRec t && decide (t < P0.types.size)) = true) (hlaw : LawOK k fn.params.toList) (wargs : Array Value)
    (hok : Input.okWideB P0 ((theWorld os).forCall (fun _ _ => 0) ⟨#[], wargs, []⟩) k ⟨#[], wargs, []⟩ = true)
    (hvr : ((theWorld os).forCall (fun _ _ => 0) ⟨#[], wargs, []⟩).variablesRefB P0 = true)
    (hhp : ((((theWorld os).forCall (fun _ _ => 0) ⟨#[], wargs, []⟩).heap.toList.drop P0.globals.size).take ((begin P0 (fun _ _ => 0) default).world.heap.size - P0.globals.size) = (begin P0 (fun _ _ => 0) default).world.heap.toList.drop P0.globals.size))
    (hrow : (OpenSpec.ofChange s).preRow enc P0 fn [] false [] ((theWorld os).forCall (fun _ _ => 0) ⟨#[], wargs, []⟩).memory wargs) :
    ReturnsInHanded {} Tryz.checked os k .any ((OpenSpec.ofChange s).preRow enc P0 fn [] false []) (((OpenSpec.ofChange s).at F).post enc P0 fn false true false false) := by
  refine returnsInHanded_of_row (C := Tryz.checked) (s := OpenSpec.ofChange s) own started noInit hfn (witness_row_atRef (enc := enc) (C := Tryz.checked) false (theWorld os) wargs rfl hvr hhp hok hrow) ?_
  intro W base args ds gs before hval hW _ _ _ hL hS _
  have hrd' : ∀ t ∈ fn.params.toList, rdB P0 12 t = true ∧ P0.readableRec t = true ∧ t < P0.types.size := fun t ht => by
    have := List.all_eq_true.1 hrd t ht
    simp only [Bool.and_eq_true, decide_eq_true_eq] at this
    exact ⟨this.1.1, this.1.2, this.2⟩
  have hW0 : DataW.Whole enc P0 fn.params.toList s.vars false W args.toList ds gs before := hW
  have hW1 := hW0
  obtain ⟨p, q, hA, hV, _, _, _⟩ := hW1
  rw [hvars] at hV
  obtain ⟨rfl, _⟩ := trodVars_none hV
  obtain ⟨aa, hc, hfit⟩ := args_read (fun t ht => (hrd' t ht).1) (fun j t v a b => hval j t v (by simpa using a) (by simpa using b)) hA
  have hlen : ∀ {ts : List TypeId} {vs : List Value} {ds : List (DataW H)} {ps : List MemPlace}, DataW.TrodAll enc P0 W 0 (fun _ => true) true ts vs ds ps → ds.length = ts.length := by
    intro ts
    induction ts with
    | nil => intro vs ds ps h; match vs, ds, h with | [], [], _ => rfl
    | cons t ts ih => intro vs ds ps h; match vs, ds, h with | _ :: _, _ :: _, ⟨_, _, _, h2, _⟩ => simp [ih h2]
  have hcall := zone_calls (f := k) (vs := args.toList) hc (hlaw aa hfit)
  rw [Array.toArray_toList] at hcall
  refine hcall.mono ?_
  rintro e W' ⟨rfl, hb⟩
  refine ⟨_, rfl, ?_⟩
  exact law_post (s := s) (tb := 4) laidOut hW0 hvars (by rw [List.append_nil]; exact hspec ds (hlen hA)) hres Tryz.underlying4 (fun t ht => ⟨(hrd' t ht).2.1, (hrd' t ht).2.2⟩) hb
end Go.Evl.Zone

namespace Go.Evl.Zone
open Go Go.Evl
variable {P : Program}
end Go.Evl.Zone

namespace Go.Evl.Zone
open Go Go.Evl
variable {P : Program}
end Go.Evl.Zone

namespace Go.Evl.Zone
open Go Go.Evl
set_option maxRecDepth 1000000
noncomputable def runF (f : FuncId) (cf : CF) (args : List PV) : Option (Option PV) := (ev (env Proofs.Tryz.prog) 3000 f cf.body ⟨start args, Heap.empty, []⟩).map fun q => ((resV q.2 cf.res).bind (expV q.2.h)).map (·.1)
theorem ans_run {f : FuncId} {cf : CF} {args : List PV} {v : PV} (hc : tab f = some cf) (h : runF f cf args = some (some v)) : ans (env Proofs.Tryz.prog) f args = some v := by
  unfold runF at h
  simp only [Option.map_eq_some_iff] at h
  obtain ⟨⟨e, st⟩, h1, ⟨v', is⟩, h2, h3⟩ := h
  simp only at h3
  subst h3
  exact ans_of ⟨cf, hc, rfl, 3000, e, st, is, h1, h2⟩
end Go.Evl.Zone

namespace Go.Evl.Zone
open Go Go.Evl
variable {P : Program}
end Go.Evl.Zone

namespace Go.Evl.Zone
open Go Go.Evl Go.Evl.Fl
variable {P : Program}
structure Sty (P : Program) (t : TypeId) (L : List (TypeId × Nat)) : Prop where
  fs : ∃ fs : Array Field, P.underlying t = some (.struct fs) ∧ fs.toList.map (fun f => (f.type, f.offset)) = L ∧ (fs.toList.all fun f => f.name != "_") = true
  held : P.stoodInHeld t = false
  guard : P.eqGuardType P.depth t = false
theorem eqFields_all {d : Nat} {xs ys : Array Value} (r : TypeId × Nat → Bool) : ∀ (fs : List Field), (fs.all fun f => f.name != "_") = true →
    (∀ f ∈ fs, ∃ a b, pureRun P (part f.type xs f.offset) = some a ∧ pureRun P (part f.type ys f.offset) = some b ∧ pureRun P (Op.equalIn d f.type a b) = some (r (f.type, f.offset))) →
    pureRun P (Op.eqFields d xs ys fs) = some ((fs.map fun f => (f.type, f.offset)).all r)
  | [], _, _ => rfl
  | f :: fs, hn, h => by
    simp only [List.all_cons, Bool.and_eq_true, bne, Bool.not_eq_true'] at hn
    obtain ⟨a, b, h1, h2, h3⟩ := h f (by simp)
    exact pureRun_eqCons hn.1 h1 h2 h3 (eqFields_all r fs hn.2 fun g hg => h g (by simp [hg]))
theorem sty_eql {t : TypeId} {L : List (TypeId × Nat)} {cx cy : Bool} {xs ys : List PV} {vs us : List Value} (S : Sty P t L) (r : TypeId × Nat → Bool) (hx : toVs xs = some vs) (hy : toVs ys = some us)
    (h : ∀ p ∈ L, ∃ a b, pureRun P (part p.1 vs.toArray p.2) = some a ∧ pureRun P (part p.1 us.toArray p.2) = some b ∧ pureRun P (Op.equalIn 9999 p.1 a b) = some (r p)) :
    evBin P .eql t cx cy (.agg xs) (.agg ys) = some (bv (L.all r)) ∧ evBin P .neq t cx cy (.agg xs) (.agg ys) = some (bv (!L.all r)) := by
  obtain ⟨fs, ht, hf, hn⟩ := S.fs
  refine evBin_struct_eql ht S.held S.guard hx hy ?_
  rw [eqFields_all r fs.toList hn, hf]
  intro f hfm
  exact h (f.type, f.offset) (by rw [← hf]; exact List.mem_map.2 ⟨f, hfm, rfl⟩)
end Go.Evl.Zone

namespace Go.Evl.Zone
open Go Go.Evl
variable {P : Program}
open Go.Evl.Fl
structure Item where
  key : Int
  id : Bytes
  seq : Int
  stamp : Int
  dead : Bool
  x : Int
  y : Int
  text : Bytes
  held : Bool
  deriving DecidableEq
abbrev fw (n : Int) : Nat := FloatKind.f64.nearest n
abbrev cw (x y : Int) : PV := .val (.complex .f64 (fw x) (fw y))
abbrev itP (q : Item) : List PV := [iv q.key, sv q.id, iv q.seq, iv q.stamp, bv q.dead, cw q.x q.y, sv q.text, bv q.held]
def EnP (l : List Item) : List (List PV) := l.map itP
abbrev lvP (l : List Item) : PV := .im (EnP l) false
@[simp] theorem EnP_length (l : List Item) : (EnP l).length = l.length := by simp [EnP]
@[simp] theorem EnP_nil : EnP [] = [] := rfl
@[simp] theorem allLen_EnP (l : List Item) : allLen 8 (EnP l) = true := by
  rw [allLen_iff]
  intro x hx
  simp only [EnP, List.mem_map] at hx
  obtain ⟨a, _, rfl⟩ := hx
  rfl
theorem plainss_EnP (l : List Item) : plainss (EnP l) = some (EnP l) := plainss_ok fun y hy => by
  simp only [EnP, List.mem_map] at hy
  obtain ⟨a, _, rfl⟩ := hy
  rfl
theorem EnP_at {l : List Item} {i : Nat} {q : Item} (h : l[i]? = some q) : ∀ hi, (EnP l)[i]'hi = itP q := fun hi => by
  have h2 := (List.getElem?_eq_some_iff.1 h).2
  simp only [EnP, List.getElem_map, h2]
theorem EnP_at? {l : List Item} {i : Nat} {q : Item} (h : l[i]? = some q) : (EnP l)[i]? = some (itP q) := by simp [EnP, h]
def smI (n : Int) : Prop := -1099511627776 ≤ n ∧ n ≤ 1099511627776
def Item.sm (q : Item) : Prop := smI q.x ∧ smI q.y
def RS.sm (q : RS) : Prop := smI q.x ∧ smI q.y ∧ smI q.s
structure TI (P : Program) : Prop extends Typed3 P where
  t4 : P.underlying 4 = some .bool
  t9 : P.underlying 9 = some .string
  place : Sty P 42 [(3, 0), (3, 1)]
  tid : P.underlying 23 = some .string
  at_ : Sty P 156 [(23, 0), (3, 1)]
  rat : Sty P 182 [(9, 0), (3, 1)]
  ver : Sty P 89 [(23, 0), (3, 1), (3, 2)]
  verS : szOf P 89 = some 3
  item : Sty P 91 [(3, 0), (89, 1), (4, 4), (50, 5), (9, 6), (4, 7)]
  rver : Sty P 128 [(9, 0), (3, 1), (3, 2)]
  rverS : szOf P 128 = some 3
  placeS : szOf P 42 = some 2
  ritem : Sty P 130 [(3, 0), (128, 1), (4, 4), (42, 5), (9, 7), (4, 8)]
end Go.Evl.Zone

namespace Go.Evl.Zone
open Go Go.Evl Go.Evl.Fl
variable {P : Program}
theorem ba_beq (a b : Bytes) : ((⟨a.toArray⟩ : ByteArray) == ⟨b.toArray⟩) = decide (a = b) := by
  have : ((⟨a.toArray⟩ : ByteArray) == ⟨b.toArray⟩) = (a.toArray == b.toArray) := rfl
  rw [this, Bool.eq_iff_iff]
  simp
end Go.Evl.Zone

namespace Go.Evl.Zone
open Go Go.Evl
variable {P : Program}
structure LN (N : Nat) (H : Heap) (k : Nat) (v : PV) (ys : List (List PV)) : Prop where
  l : Lst H k v ys
  b : ∀ r k' g off len, v = .sl r k' g off len → N ≤ r
theorem LN.nil {N : Nat} {H : Heap} {k : Nat} : LN N H k (.im [] true) [] := ⟨Lst.nil, by intros; simp_all⟩
theorem LN.ext {N : Nat} {H H' : Heap} {k : Nat} {v : PV} {ys : List (List PV)} (h : LN N H k v ys) (e : Gr H H') : LN N H' k v ys := ⟨h.l.ext e, h.b⟩
theorem LN.grow {N m : Nat} {H : Heap} {k : Nat} {v : PV} {ys : List (List PV)} (h : LN N H k v ys) : LN N (H.grow m) k v ys := ⟨h.l.grow, h.b⟩
theorem LN.putN {N s : Nat} {H : Heap} {k : Nat} {v : PV} {ys : List (List PV)} {b : Blk} (h : LN N H k v ys) (hs : H.at_ s = .dead ∨ ∃ cs, H.at_ s = .box cs) : LN N (H.put s b) k v ys := ⟨h.l.putN hs, h.b⟩
theorem LN.app {N : Nat} {H : Heap} {slot k : Nat} {v : PV} {ys zs : List (List PV)} (h : LN N H k v ys) (hd : H.at_ slot = .dead) (hs : slot < H.n) (hN : N ≤ slot) (hz : allLen k zs = true) (hm : ys.length + zs.length ≤ most) :
    ∃ (v' : PV) (H' : Heap) (wr rd : List Nat), appendP H slot k v zs = some (v', H', wr, rd) ∧ LN N H' k v' (ys ++ zs) ∧ H'.n = H.n ∧ (∀ i cs, H.at_ i = .box cs → H'.at_ i = .box cs) ∧ (∀ i, i < N → H'.at_ i = H.at_ i) ∧ (∀ i ∈ wr, N ≤ i) := by
  have hl := h.l
  obtain ⟨v', H', wr, rd, e, e1, e2, e3, _, _⟩ := hl.app hd hs hz hm
  have key : (∀ r k' g off len, v' = .sl r k' g off len → N ≤ r) ∧ (∀ i, i < N → H'.at_ i = H.at_ i) ∧ (∀ i ∈ wr, N ≤ i) := by
    unfold appendP at e
    split at e
    · split at e <;> simp at e
      · obtain ⟨rfl, rfl, rfl, _⟩ := e; exact ⟨h.b, fun _ _ => rfl, by simp⟩
      · obtain ⟨rfl, rfl, rfl, _⟩ := e; exact ⟨h.b, fun _ _ => rfl, by simp⟩
    · split at e
      · split at e
        · simp at e
          obtain ⟨rfl, rfl, rfl, _⟩ := e
          refine ⟨?_, ?_, ?_⟩
          · intro r k' g off len q; simp at q; omega
          · intro i hi; simp only [at_put]; rw [if_neg (by omega)]
          · intro i hi; simp at hi; omega
        · simp at e
      · rename_i r k' g off len
        have hr := h.b r k' g off len rfl
        split at e
        · split at e
          · split at e
            · simp at e
              obtain ⟨rfl, rfl, rfl, _⟩ := e
              refine ⟨?_, ?_, ?_⟩
              · intro r2 k2 g2 o2 l2 q; simp at q; omega
              · intro i hi; simp only [at_put]; rw [if_neg (by omega)]
              · intro i hi; simp at hi; omega
            · split at e
              · simp at e
                obtain ⟨rfl, rfl, rfl, _⟩ := e
                refine ⟨?_, ?_, ?_⟩
                · intro r2 k2 g2 o2 l2 q; simp at q; omega
                · intro i hi; simp only [at_put]; rw [if_neg (by omega)]
                · intro i hi; simp at hi; omega
              · simp at e
          · simp at e
        · simp at e
      · simp at e
  exact ⟨v', H', wr, rd, e, ⟨e1, key.1⟩, e2, e3, key.2.1, key.2.2⟩
theorem VP_appN {E : Env} {f : FuncId} {N : Nat} {H : Heap} {slot k : Nat} {v : PV} {ys zs : List (List PV)} {G : PV × Heap × List Nat × List Nat → Option ORes} {dst : Option Nat} {rest : List CI} {i slot' : Nat} {st : St} {log : Log} {d : Option (Nat × List (Nat × Nat))} {ks : List Fr'} {K : Ex → St → Prop}
    (hl : LN N H k v ys) (hd : H.at_ slot = .dead) (hs : slot < H.n) (hN : N ≤ slot) (hz : allLen k zs = true) (hm : ys.length + zs.length ≤ most)
    (h : ∀ v' H' wr rd, LN N H' k v' (ys ++ zs) → H'.n = H.n → (∀ i cs, H.at_ i = .box cs → H'.at_ i = .box cs) → (∀ i, i < N → H'.at_ i = H.at_ i) → (∀ i ∈ wr, N ≤ i) → VP E f (G (v', H', wr, rd)) dst rest i slot' st log d ks K) : VP E f (ob (appendP H slot k v zs) G) dst rest i slot' st log d ks K := by
  obtain ⟨v', H', wr, rd, e1, e2, e3, e4, e5, e6⟩ := hl.app hd hs hN hz hm
  rw [e1]
  exact h v' H' wr rd e2 e3 e4 e5 e6
def Rd (res : List CR) (H : Heap) (K : PV → Heap → List Nat → Prop) (s : St) : Prop := ∃ v, (∃ is, (resV s res).bind (expV s.h) = some (v, is)) ∧ flatV v = true ∧ (∀ i, i < H.n → s.h.at_ i = H.at_ i) ∧ (∀ i ∈ s.wl, H.n ≤ i) ∧ K v H []
theorem Rd.mk {res : List CR} {H : Heap} {K : PV → Heap → List Nat → Prop} {s : St} (v : PV) (h : ∃ is, (resV s res).bind (expV s.h) = some (v, is)) (hf : flatV v = true) (hh : ∀ i, i < H.n → s.h.at_ i = H.at_ i) (hw : ∀ i ∈ s.wl, H.n ≤ i) (hk : K v H []) : Rd res H K s := ⟨v, h, hf, hh, hw, hk⟩
end Go.Evl.Zone

namespace Go.Evl.Zone
open Go Go.Evl
variable {P : Program}
open Go.Evl.Fl
end Go.Evl.Zone

namespace Go.Evl.Zone
open Go Go.Evl
variable {P : Program}
end Go.Evl.Zone

namespace Go.Evl.Zone
open Go Go.Evl
variable {P : Program}
open Go.Evl.Fl
theorem from2_ans {u : Int} {l : List Int} (hL : l.length ≤ most) : ans (env P) 31 [.agg [iv u, lv l]] = some (.agg [iv u, lv l]) := by
  refine ans_V rfl rfl ?_
  simp [c31, chunks, elems, allLen]
  refine VP_appN (ys := En ([] : List Int)) (N := 2) LN.nil (by simp) (by simp) (by simp) (by simp) (by simp; omega) fun v' H' wr rd e2' e3 e4 _ e6 => ?_
  have e2 := e2'.l
  have w0 : ∀ x ∈ wr, ¬ x = 0 := fun x hx => by have := e6 x hx; omega
  have w1 : ∀ x ∈ wr, ¬ x = 1 := fun x hx => by have := e6 x hx; omega
  have b0 := e4 0
  have b1 := e4 1
  simp at b0 b1
  rw [← En_append, List.nil_append] at e2
  cases e2 with
  | im hv hl =>
    subst hv
    simp [b0, b1, e3]
    try exact w0
  | row r xs hv hb hle he hr hl =>
    subst hv
    have hr1 : ¬ r = 1 := by intro e; subst e; rw [b1] at hb; cases hb
    have hp := plainss_En l
    simp only [En_length] at he hle
    simp [e3] at hr
    simp [b0, b1, e3, hb, hr1, hle, he, hp, hr]
    try exact w0
theorem from4_loop  {v : List KRow} (he : ∀ r ∈ v, r.extra.length ≤ most) {ks : List Fr'} {K : Ex → St → Prop} (hL : v.length ≤ most) : ∀ (rest : List KRow) (i : Nat) (st : St) (a : PV), v.drop i = rest → i ≤ v.length → st.σ 0 = lv v → st.σ 4 = iv i → st.σ 3 = a → Lst st.h 3 a (En (v.take i)) →
    (∀ st' a, st'.σ 3 = a → Lst st'.h 3 a (En v) → VN (env P) 11 st' ks K) → V (env P) 11 (.loop L11_0) st (.blk 0 :: ks) K
  | [], i, st, a, hr, hile, h0, hi, ha, hl, hend => by
    obtain ⟨hii, hlt, hd⟩ := drop_nil hr hile
    rw [hd] at hl
    rw [V_loop]
    simp [L11_0, h0, hi, hlt]
    exact hend _ a (by simp [ha]) (by simpa using hl.grow)
  | q :: rest, i, st, a, hr, hile, h0, hi, ha, hl, hend => by
    obtain ⟨hq, hlt, hr', ht⟩ := drop_cons hr
    have hmq := List.mem_of_getElem? hq
    have hc := En_at hq
    have hw := wrapS (i := i) (by unfold most at hL; omega)
    have hS := from2_ans (P := P) (u := q.upto) (l := q.extra) (he q hmq)
    rw [V_loop]
    simp [L11_0, h0, hi, hlt, hc, hw, ha, hS, chunks, elems, allLen]
    refine VP_app (ys := En (v.take i)) (by repeat (first | exact hl | refine Lst.grow ?_ | refine Lst.putN ?_ (by simp))) (by simp) (by simp) rfl (by simp; omega) fun v' H' wr rd e2 e3 _ => ?_
    simp [h0, hi, hw, e3]
    refine from4_loop he hL rest (i + 1) _ v' hr' (by omega) (by simp [h0]) (by simp) (by simp) ?_ hend
    rw [ht, En_append]
    exact e2.grow
theorem from4_ans  {v : List KRow} (he : ∀ r ∈ v, r.extra.length ≤ most) (hL : v.length ≤ most) : ans (env P) 11 [lv v] = some (.im (En v) false) := by
  refine ans_V rfl rfl ?_
  simp [c11]
  refine from4_loop he hL v 0 _ _ rfl (by omega) (by simp) (by simp) rfl (by simp; exact Lst.nil) ?_
  intro st' a h3 hl
  simp [h3]
  exact (hl.grow (m := 0)).expV (plainss_En _)
end Go.Evl.Zone

namespace Go.Evl.Zone
open Go Go.Evl
variable {P : Program}
open Go.Evl.Fl
structure NS where
  id : Bytes
  how : Int
  kids : Int
  seq : Int
  clock : Int
  know : List KRow
  gone : List At
  floor : List At
  store : List Item
  zone : List RS
  members : List Bytes
  certs : List At
  rows : List MRow
noncomputable abbrev nsP (s : NS) : List PV := [sv s.id, iv s.how, iv s.kids, iv s.seq, iv s.clock, lv s.know, lv s.gone, lv s.floor, lvP s.store, .im (stepsV (toSI s.zone)) false, lv s.members, lv s.certs, lv s.rows]
structure NOp where
  kind : Int
  who : Int
  other : Int
  key : Int
  x : Int
  y : Int
  text : Bytes
  zone : List RS
abbrev opC (o : NOp) : List PV := [iv o.kind, iv o.who, iv o.other, iv o.key, iv o.x, iv o.y, sv o.text, .im (rsV o.zone) false]
end Go.Evl.Zone

namespace Go.Evl.Zone
open Go Go.Evl Go.Evl.Fl
attribute [local simp] VB_ite VG_ite
variable {P : Program}
theorem evBin_bneq {t : TypeId} {cx cy : Bool} {a b : Bool} (h : P.underlying t = some .bool) : evBin P .neq t cx cy (.val (.bool a)) (.val (.bool b)) = some (.val (.bool (a != b))) := by
  simp only [evBin, toV, scal, pureRun_bind]
  have h1 : pureRun P (eqGuard .neq t (if cx then .const (.bool a) else .tmp 0) (if cy then .const (.bool b) else .tmp 0) (.bool a) (.bool b)) = some () := by
    unfold eqGuard
    cases cx <;> cases cy <;> rfl
  rw [h1]
  simp only [Option.bind_some]
  simp only [binOp, pureRun_bind]
  have h2 : pureRun P (Op.equal t (.bool a) (.bool b)) = some (a == b) := by
    unfold Op.equal
    rw [show Op.maxDepth = (Op.maxDepth - 1) + 1 from rfl, Op.equalIn]
    simp only [pureRun_bind, pureRun_under, h, Option.bind_some]
    rfl
  rw [h2]
  simp only [Option.bind_some]
  rfl
end Go.Evl.Zone

namespace Go.Evl.Zone
open Go Go.Evl Go.Evl.Fl
variable {P : Program}
theorem lt53 {n : Int} (h : -1099511627776 ≤ n ∧ n ≤ 1099511627776) : n.natAbs < 2 ^ 53 := by
  have h53 : (2 : Nat) ^ 53 = 9007199254740992 := by decide
  omega
theorem si_ok {l : List RS} (h : ∀ q ∈ l, q.inB) : ∀ q ∈ toSI l, q.ok := by
  intro q hq
  simp only [toSI, List.mem_map] at hq
  obtain ⟨r, hr, rfl⟩ := hq
  obtain ⟨h1, h2, h3, h4⟩ := h r hr
  simp only [near, Bool.and_eq_true, decide_eq_true_eq] at h1 h2
  exact ⟨Is.nearest (abs_lt53 (by omega)), Is.nearest (abs_lt53 (by omega)), Is.nearest (abs_lt53 (by omega))⟩
end Go.Evl.Zone

namespace Go.Evl.Zone
open Go Go.Evl Go.Evl.Fl
variable {P : Program}
theorem cloneF_ok {k : Nat} {H : Heap} {xs : List (List PV)} {fl : Bool} (h1 : allLen k xs = true) (h2 : xs.length ≤ most) (h3 : plainss xs = some xs) : pCloneF k [.im xs fl] H = some ⟨.im xs false, H, [], some []⟩ := by
  simp [pCloneF, h1, h2, h3]
abbrev id01 : Bytes := [48, 49]
def vc : Nat → List At
  | 0 => []
  | n + 1 => [⟨id01, ((n + 1 : Nat) : Int)⟩]
def all1 : List RS := [⟨1, 0, 0, 0⟩]
def rootN : NS := ⟨[48], 0, 0, 0, 0, [], [], [], [], all1, [[48]], [], []⟩
section
variable {s k r n : Nat} {l : List Item} {Z : List RS}
theorem plainss_steps (l : List SI) : plainss (stepsV l) = some (stepsV l) := plainss_ok fun y hy => by
  simp only [stepsV, List.mem_map] at hy
  obtain ⟨a, _, rfl⟩ := hy
  rfl
end
end Go.Evl.Zone

namespace Go.Evl.Zone
open Go Go.Evl Go.Evl.Fl
variable {P : Program}
section
variable {Z : List RS} {k x y : Int} {t : Bytes}
end
end Go.Evl.Zone

namespace Go.Evl.Zone
open Go Go.Evl Go.Evl.Fl
variable {P : Program}
end Go.Evl.Zone

namespace Go.Evl.Zone
open Go Go.Evl Go.Evl.Zone Go.Proofs Go.RowKit Go.ChangeShapes Go.WideShapes Go.ChangeAt
set_option maxRecDepth 100000
theorem typed3 : Typed3 P0 where
  t3 := Tryz.underlying3
  t5 := Tryz.underlying5
  t53 := Tryz.underlying40
  t41 := Tryz.underlying97
  t33 := Tryz.underlying50
  t59 := ⟨_, Tryz.underlying105, by kernel_rfl, by kernel_rfl⟩
  h59 := by kernel_rfl
  g59 := by kernel_rfl
  t51 := ⟨_, Tryz.underlying122, by kernel_rfl, by kernel_rfl⟩
  h51 := by kernel_rfl
  g51 := by kernel_rfl
theorem tI : TI P0 where
  toTyped3 := typed3
  t4 := Tryz.underlying4
  t9 := Tryz.underlying9
  place := ⟨⟨_, Tryz.underlying42, by kernel_rfl, by kernel_rfl⟩, by kernel_rfl, by kernel_rfl⟩
  tid := Tryz.underlying23
  at_ := ⟨⟨_, Tryz.underlying156, by kernel_rfl, by kernel_rfl⟩, by kernel_rfl, by kernel_rfl⟩
  rat := ⟨⟨_, Tryz.underlying182, by kernel_rfl, by kernel_rfl⟩, by kernel_rfl, by kernel_rfl⟩
  ver := ⟨⟨_, Tryz.underlying89, by kernel_rfl, by kernel_rfl⟩, by kernel_rfl, by kernel_rfl⟩
  verS := by kernel_rfl
  item := ⟨⟨_, Tryz.underlying91, by kernel_rfl, by kernel_rfl⟩, by kernel_rfl, by kernel_rfl⟩
  rver := ⟨⟨_, Tryz.underlying128, by kernel_rfl, by kernel_rfl⟩, by kernel_rfl, by kernel_rfl⟩
  rverS := by kernel_rfl
  placeS := by kernel_rfl
  ritem := ⟨⟨_, Tryz.underlying130, by kernel_rfl, by kernel_rfl⟩, by kernel_rfl, by kernel_rfl⟩
theorem map_of_all {α β : Type} {f : α → β} {Q : α → Prop} : ∀ {xs : List β}, (∀ x ∈ xs, ∃ a, x = f a ∧ Q a) → ∃ l : List α, xs = l.map f ∧ ∀ a ∈ l, Q a
  | [], _ => ⟨[], rfl, by simp⟩
  | x :: xs, h => by
    obtain ⟨a, rfl, ha⟩ := h x (by simp)
    obtain ⟨l, rfl, hl⟩ := map_of_all (xs := xs) fun y hy => h y (by simp [hy])
    exact ⟨a :: l, rfl, fun b hb => by rcases List.mem_cons.1 hb with rfl | hb; exact ha; exact hl b hb⟩
theorem fit_i {n : Nat} {ps : List PV} (h : Fit P0 (n + 1) 3 ps) : ∃ m, ps = [iv m] ∧ -9223372036854775808 ≤ m ∧ m ≤ 9223372036854775807 := by
  unfold Fit at h
  rw [Tryz.underlying3] at h
  obtain ⟨m, rfl, h2, h3⟩ := h
  exact ⟨m, rfl, h2, h3⟩
theorem fit_s {n : Nat} {ps : List PV} (h : Fit P0 (n + 1) 9 ps) : ∃ b : Bytes, ps = [sv b] ∧ b.length ≤ 9223372036854775807 := by
  unfold Fit at h
  rw [Tryz.underlying9] at h
  obtain ⟨s, rfl, h2⟩ := h
  refine ⟨s.data.toList, by simp [sv], ?_⟩
  have : s.data.toList.length = s.size := by rw [Array.length_toList]; rfl
  rw [this]
  exact Nat.le_trans h2 (by decide)
theorem fit_sl {n : Nat} {t e : TypeId} (hu : P0.underlying t = some (.slice e)) {α : Type} {f : α → List PV} {Q : α → Prop} (he : ∀ ps, Fit P0 n e ps → ∃ a, ps = f a ∧ Q a) {ps : List PV} (h : Fit P0 (n + 1) t ps) :
    ∃ l : List α, ps = [.im (l.map f) false] ∧ ∀ a ∈ l, Q a := by
  unfold Fit at h
  rw [hu] at h
  obtain ⟨xs, rfl, _, h3⟩ := h
  obtain ⟨l, rfl, hl⟩ := map_of_all (f := f) (Q := Q) fun x hx => he x (h3 x hx)
  exact ⟨l, rfl, hl⟩
theorem fit_step {n : Nat} {ps : List PV} (h : Fit P0 (n + 2) 105 ps) : ∃ q : RS, ps = q.cells := by
  unfold Fit at h
  rw [Tryz.underlying105] at h
  obtain ⟨x1, y1, rfl, h1, x2, y2, rfl, h2, x3, y3, rfl, h3, x4, y4, rfl, h4, rfl⟩ : FitL (Fit P0 (n + 1)) [3, 3, 3, 3] ps := h
  obtain ⟨a, rfl, _⟩ := fit_i h1
  obtain ⟨b, rfl, _⟩ := fit_i h2
  obtain ⟨c, rfl, _⟩ := fit_i h3
  obtain ⟨d, rfl, _⟩ := fit_i h4
  exact ⟨⟨a, b, c, d⟩, rfl⟩
theorem fit_steps {n : Nat} {ps : List PV} (h : Fit P0 (n + 3) 43 ps) : ∃ l : List RS, ps = [.im (rsV l) false] := by
  obtain ⟨l, rfl, _⟩ := fit_sl (f := RS.cells) (Q := fun _ => True) Tryz.underlying43 (fun ps h => let ⟨q, e⟩ := fit_step h; ⟨q, e, trivial⟩) h
  exact ⟨l, rfl⟩
theorem fit_zone {n : Nat} {p : PV} (h : FitV P0 (n + 3) 43 p) : ∃ l : List RS, p = .im (rsV l) false := by
  unfold FitV at h
  rw [Tryz.underlying43] at h
  obtain ⟨l, e⟩ := fit_steps (show Fit P0 (n + 3) 43 [p] from h)
  exact ⟨l, by simpa using e⟩
theorem fit_place {n : Nat} {ps : List PV} (h : Fit P0 (n + 2) 42 ps) : ∃ (a b : Int), ps = [iv a, iv b] := by
  unfold Fit at h
  rw [Tryz.underlying42] at h
  obtain ⟨x1, y1, rfl, h1, x2, y2, rfl, h2, rfl⟩ : FitL (Fit P0 (n + 1)) [3, 3] ps := h
  obtain ⟨b, rfl, _⟩ := fit_i h1
  obtain ⟨c, rfl, _⟩ := fit_i h2
  exact ⟨b, c, rfl⟩
theorem fit_opL {n : Nat} {ps : List PV} (h : Fit P0 (n + 4) 45 ps) : ∃ o : NOp, ps = opC o := by
  unfold Fit at h
  rw [Tryz.underlying45] at h
  obtain ⟨x1, y1, rfl, h1, x2, y2, rfl, h2, x3, y3, rfl, h3, x4, y4, rfl, h4, x5, y5, rfl, h5, x6, y6, rfl, h6, x7, y7, rfl, h7, rfl⟩ :
    FitL (Fit P0 (n + 3)) [3, 3, 3, 3, 42, 9, 43] ps := h
  obtain ⟨a, rfl, _⟩ := fit_i h1
  obtain ⟨b, rfl, _⟩ := fit_i h2
  obtain ⟨c, rfl, _⟩ := fit_i h3
  obtain ⟨d, rfl, _⟩ := fit_i h4
  obtain ⟨x, y, rfl⟩ := fit_place h5
  obtain ⟨s, rfl, _⟩ := fit_s h6
  obtain ⟨l, rfl⟩ := fit_steps h7
  exact ⟨⟨a, b, c, d, x, y, s, l⟩, rfl⟩
theorem fit_op {n : Nat} {p : PV} (h : FitV P0 (n + 4) 45 p) : ∃ o : NOp, p = .agg (opC o) := by
  unfold FitV at h
  rw [Tryz.underlying45] at h
  obtain ⟨ps, rfl, h⟩ := h
  obtain ⟨o, rfl⟩ := fit_opL h
  exact ⟨o, rfl⟩
end Go.Evl.Zone

namespace Go.Evl.Zone
open Go Go.Evl
variable {P : Program}
def bsL (k : Nat) : CC :=
 (.seq
 (.seq
 (.reg false [
   ⟨(some 15), (.mv (.t 9)), none⟩,
   ⟨(some 16), (.mv (.t 10)), none⟩,
   ⟨(some 17), (.bin .lss 3 false false (.t 15) (.t 16)), none⟩] [])
 (.cond (.t 17)
  .skip
  (.exit 0)))
 (.block 1
  (.seq
  (.reg false [
    ⟨(some 18), (.mv (.t 9)), none⟩,
    ⟨(some 19), (.mv (.t 10)), none⟩,
    ⟨(some 20), (.bin .add 3 false false (.t 18) (.t 19)), none⟩,
    ⟨(some 21), (.cv 3 238 (.t 20)), none⟩,
    ⟨(some 22), (.bin .shr 238 false true (.t 21) (.c (.val (.int .u64 1)))), none⟩,
    ⟨(some 23), (.cv 238 3 (.t 22)), none⟩,
    ⟨(some 11), (.mv (.t 23)), none⟩] [])
  (.seq
  (.reg true [
    ⟨(some 24), (.mv (.t 2)), none⟩,
    ⟨(some 25), (.mv (.t 0)), none⟩,
    ⟨(some 26), (.mv (.t 11)), none⟩,
    ⟨(some 27), (.ias k (.t 25) (.t 26)), none⟩,
    ⟨(some 28), (.ld k true (.t 27)), none⟩,
    ⟨(some 29), (.ld k true (.t 4)), none⟩,
    ⟨(some 30), (.call (.t 24) [(.t 28), (.t 29)]), none⟩,
    ⟨(some 31), (.bin .lss 3 false true (.t 30) (.c (.val (.int .i64 0)))), none⟩] [])
  (.cond (.t 31)
   (.reg false [
     ⟨(some 32), (.mv (.t 11)), none⟩,
     ⟨(some 33), (.bin .add 3 false true (.t 32) (.c (.val (.int .i64 1)))), none⟩,
     ⟨(some 9), (.mv (.t 33)), none⟩] [])
   (.reg false [
     ⟨(some 34), (.mv (.t 11)), none⟩,
     ⟨(some 10), (.mv (.t 34)), none⟩] []))))))
def bsC (k : Nat) : CF := ⟨
 (.seq
 (.reg false [
   ⟨(some 4), (.box (.t 1)), none⟩,
   ⟨(some 6), (.mv (.c (.val (.int .i64 0)))), none⟩,
   ⟨(some 7), (.mv (.c (.val (.bool false)))), none⟩] [])
 (.seq
 (.reg false [
   ⟨(some 12), (.mv (.t 0)), none⟩,
   ⟨(some 13), (.len false (.t 12)), none⟩,
   ⟨(some 8), (.mv (.t 13)), none⟩] [])
 (.seq
 (.reg false [
   ⟨(some 14), (.mv (.t 8)), none⟩,
   ⟨(some 9), (.mv (.c (.val (.int .i64 0)))), none⟩,
   ⟨(some 10), (.mv (.t 14)), none⟩] [])
 (.seq
 (.block 0
  (.loop (bsL k)))
 (.seq
 (.reg true [
   ⟨(some 35), (.mv (.t 9)), none⟩,
   ⟨(some 36), (.mv (.t 9)), none⟩,
   ⟨(some 37), (.mv (.t 8)), none⟩,
   ⟨(some 38), (.bin .lss 3 false false (.t 36) (.t 37)), none⟩,
   ⟨(some 39), (.mv (.t 38)), none⟩,
   ⟨(some 40), (.mv (.t 2)), (some (39, true))⟩,
   ⟨(some 41), (.mv (.t 0)), (some (39, true))⟩,
   ⟨(some 42), (.mv (.t 9)), (some (39, true))⟩,
   ⟨(some 43), (.ias k (.t 41) (.t 42)), (some (39, true))⟩,
   ⟨(some 44), (.ld k true (.t 43)), (some (39, true))⟩,
   ⟨(some 45), (.ld k true (.t 4)), (some (39, true))⟩,
   ⟨(some 46), (.call (.t 40) [(.t 44), (.t 45)]), (some (39, true))⟩,
   ⟨(some 47), (.bin .eql 3 false true (.t 46) (.c (.val (.int .i64 0)))), (some (39, true))⟩,
   ⟨(some 48), (.pick (.t 39) (.t 47) (.c (.val (.bool false)))), none⟩,
   ⟨(some 6), (.mv (.t 35)), none⟩,
   ⟨(some 7), (.mv (.t 48)), none⟩] [])
 .ret))))),
 [.tmp 6, .tmp 7]⟩
def lbN {α : Type} (c : α → Int) : List α → Nat
  | [] => 0
  | a :: l => if c a < 0 then lbN c l + 1 else 0
def fnd {α : Type} (c : α → Int) (l : List α) : Bool := match l[lbN c l]? with
  | some a => decide (c a = 0)
  | none => false
def Mono {α : Type} (c : α → Int) (l : List α) : Prop := l.Pairwise fun a b => c b < 0 → c a < 0
section
variable {α : Type} {c : α → Int}
theorem lbN_le : ∀ l : List α, lbN c l ≤ l.length
  | [] => Nat.le_refl _
  | a :: l => by
    have := lbN_le l
    unfold lbN
    split <;> simp <;> omega
theorem lbN_ge : ∀ (l : List α) (h : Nat) (a : α), l[h]? = some a → ¬ c a < 0 → lbN c l ≤ h
  | [], h, a, e, k => by simp at e
  | b :: l, 0, a, e, k => by
    simp at e; subst e
    unfold lbN
    rw [if_neg k]; exact Nat.le_refl _
  | b :: l, h + 1, a, e, k => by
    have := lbN_ge l h a (by simpa using e) k
    unfold lbN
    split <;> omega
theorem lbN_gt : ∀ (l : List α) (h : Nat) (a : α), Mono c l → l[h]? = some a → c a < 0 → h < lbN c l
  | [], h, a, m, e, k => by simp at e
  | b :: l, 0, a, m, e, k => by
    simp at e; subst e
    unfold lbN
    rw [if_pos k]; omega
  | b :: l, h + 1, a, m, e, k => by
    have m' := List.pairwise_cons.1 m
    have e' : l[h]? = some a := by simpa using e
    have hb : c b < 0 := m'.1 a (List.mem_of_getElem? e') k
    have := lbN_gt l h a m'.2 e' k
    unfold lbN
    rw [if_pos hb]; omega
end
structure TB (P : Program) : Prop extends TI P where
  tu : P.underlying 238 = some (.int .u64)
theorem cvU (T : TB P) {n : Int} (h0 : 0 ≤ n) (h1 : n < 9223372036854775808) : scal P (Go.convert 3 238 (.int .i64 n)) = some (.val (.int .u64 n)) := by
  rw [cv_ii (by rw [T.t3]; rfl) T.tu]
  have : IntKind.u64.wrap n = n := by show n % 18446744073709551616 = n; omega
  rw [this]
theorem cvI (T : TB P) {n : Int} (h0 : 0 ≤ n) (h1 : n < 9223372036854775808) : scal P (Go.convert 238 3 (.int .u64 n)) = some (.val (.int .i64 n)) := by
  rw [cv_ii (by rw [T.tu]; rfl) T.t3]
  have : IntKind.i64.wrap n = n := wrap64_id (by omega)
  rw [this]
theorem shr1 {n : Int} (h : 0 ≤ n) : ∀ {t : TypeId} {cx cy : Bool}, evBin P .shr t cx cy (.val (.int .u64 n)) (.val (.int .u64 1)) = some (.val (.int .u64 (n / 2))) := by
  intro t cx cy
  have e : evBin P .shr t cx cy (.val (.int .u64 n)) (.val (.int .u64 1)) = some (.val (.int .u64 (n.fdiv (2 ^ 1)))) := rfl
  rw [e, Int.fdiv_eq_ediv_of_nonneg _ (by decide)]
  rfl
section
variable {α : Type} {enc : α → List PV} {c : α → Int} {k : Nat} {F G : FuncId} {tc : List PV} {l : List α}
theorem bs_loop (T : TB P) (hp : (prim F G).isNone = true) (hh : (inlF G || keepF F G) = false) (hk : 0 < k) (hlen : ∀ a, (enc a).length = k) (htc : tc.length = k) (hpl : ∀ H a, expCs H (enc a) = some (enc a, [])) (hpt : ∀ H, expCs H tc = some (tc, [])) (hcall : ∀ a ∈ l, ans (env P) G [.agg (enc a), .agg tc] = some (iv (c a))) (hm : Mono c l) (hL : l.length ≤ most) {ks : List Fr'} {K : Ex → St → Prop} :
    ∀ (d i j : Nat) (st : St), j - i = d → i ≤ lbN c l → lbN c l ≤ j → j ≤ l.length → st.σ 0 = .im (l.map enc) false → st.σ 2 = .fn G [] → (∃ p, st.σ 4 = .ptr p 0 ∧ st.h.at_ p = .box tc ∧ p < st.h.n) → st.σ 9 = iv i → st.σ 10 = iv j → st.σ 8 = iv l.length →
    (∀ st', st'.σ 9 = iv (lbN c l) → st'.σ 0 = .im (l.map enc) false → st'.σ 2 = .fn G [] → st'.σ 8 = iv l.length → (∃ p, st'.σ 4 = .ptr p 0 ∧ st'.h.at_ p = .box tc ∧ p < st'.h.n) → VN (env P) F st' ks K) → V (env P) F (.loop (bsL k)) st (.blk 0 :: ks) K := by
  intro d
  induction d using Nat.strongRecOn with
  | ind d ih =>
    intro i j st hd hi hj hjl h0 h2 h4 h9 h10 h8 hend
    obtain ⟨p, hp4, hpb, hpn⟩ := h4
    have hL2 : l.length ≤ 68719476736 := hL
    rw [V_loop]
    by_cases hij : i < j
    · obtain ⟨m, hm0⟩ : ∃ m, m = (i + j) / 2 := ⟨_, rfl⟩
      have hmj : m < j := by omega
      have him : i ≤ m := by omega
      have hml : m < l.length := by omega
      obtain ⟨a, ha⟩ : ∃ a, l[m]? = some a := ⟨_, List.getElem?_eq_getElem hml⟩
      have hij' : (i : Int) < (j : Int) := by omega
      have w1 : IntKind.i64.wrap ((i : Int) + (j : Int)) = (i : Int) + (j : Int) := wrap64_id (by omega)
      have q1 := cvU T (n := (i : Int) + (j : Int)) (by omega) (by omega)
      have q2 := fun t cx cy => @shr1 P ((i : Int) + (j : Int)) (by omega) t cx cy
      have e2 : ((i : Int) + (j : Int)) / 2 = (m : Int) := by omega
      have q3 := cvI T (n := (m : Int)) (by omega) (by omega)
      have hca := hcall a (List.mem_of_getElem? ha)
      have hix : (l.map enc)[m]? = some (enc a) := by simp [ha]
      have hixx : ∀ hi, (l.map enc)[m]'hi = enc a := fun hi => (List.getElem?_eq_some_iff.1 hix).2
      have hall : allLen k (l.map enc) = true := allLen_iff.2 fun x hx => by
        simp only [List.mem_map] at hx
        obtain ⟨a, _, rfl⟩ := hx
        exact hlen a
      have hta : (enc a).take k = enc a := List.take_of_length_le (by rw [hlen a]; exact Nat.le_refl _)
      have htt : tc.take k = tc := List.take_of_length_le (by rw [htc]; exact Nat.le_refl _)
      have hla := hlen a
      have hne : ¬ p = st.h.n := by omega
      have hp1 : p < st.h.n + 1 := by omega
      by_cases hc : c a < 0
      · have hcm := lbN_gt l m a hm ha hc
        have w2 : IntKind.i64.wrap ((m : Int) + 1) = (m : Int) + 1 := wrap64_id (by omega)
        simp [bsL, h0, h2, h9, h10, hp4, hpb, hpn, hij', w1, q1, q2, e2, q3, hml, hix, hixx, hne, hp1, hc, hall, hla, htc, hta, htt]
        rw [VA_ownT (g := G) (by simp [h2]) hp (by simp only [Bool.or_eq_false_iff] at hh; show howF _ G = .own; unfold howF; rw [hh.1, hh.2]; rfl)]
        simp [hca, hpl, hpt, hc, w2]
        exact ih (j - (m + 1)) (by omega) (m + 1) j _ rfl (by omega) hj hjl (by simp [h0]) (by simp [h2]) ⟨p, by simp [hp4], by simp [hpb, hpn], by simp; omega⟩ (by simp) (by simp [h10]) (by simp [h8]) hend
      · have hcm := lbN_ge l m a ha hc
        simp [bsL, h0, h2, h9, h10, hp4, hpb, hpn, hij', w1, q1, q2, e2, q3, hml, hix, hixx, hne, hp1, hc, hall, hla, htc, hta, htt]
        rw [VA_ownT (g := G) (by simp [h2]) hp (by simp only [Bool.or_eq_false_iff] at hh; show howF _ G = .own; unfold howF; rw [hh.1, hh.2]; rfl)]
        simp [hca, hpl, hpt, hc]
        exact ih (m - i) (by omega) i m _ rfl hi hcm (by omega) (by simp [h0]) (by simp [h2]) ⟨p, by simp [hp4], by simp [hpb, hpn], by simp; omega⟩ (by simp [h9]) (by simp) (by simp [h8]) hend
    · have hij' : ¬ (i : Int) < (j : Int) := by omega
      obtain rfl : i = lbN c l := by omega
      simp [bsL, h9, h10, hij']
      exact hend _ (by simp [h9]) (by simp [h0]) (by simp [h2]) (by simp [h8]) ⟨p, by simp [hp4], by simp [hpb, hpn], by simp; omega⟩
theorem bs_ans (T : TB P) (hcf : tab F = some (bsC k)) (hp : (prim F G).isNone = true) (hh : (inlF G || keepF F G) = false) (hk : 0 < k) (hlen : ∀ a, (enc a).length = k) (htc : tc.length = k) (hpl : ∀ H a, expCs H (enc a) = some (enc a, [])) (hpt : ∀ H, expCs H tc = some (tc, [])) (hcp : tc.all cellP = true) (hcall : ∀ a ∈ l, ans (env P) G [.agg (enc a), .agg tc] = some (iv (c a))) (hm : Mono c l) (hL : l.length ≤ most) :
    ans (env P) F [.im (l.map enc) false, .agg tc, .fn G []] = some (.tup [iv (lbN c l), bv (fnd c l)]) := by
  refine ans_V rfl hcf ?_
  simp [bsC, -cellP, -List.all_eq_true, hcp]
  refine bs_loop T hp hh hk hlen htc hpl hpt hcall hm hL l.length 0 l.length _ rfl (by omega) (lbN_le l) (Nat.le_refl _) (by simp) (by simp) ⟨0, by simp, by simp, by simp⟩ (by simp) (by simp) (by simp) fun st' h9 h0 h2 h8 ⟨p, hp4, hpb, hpn⟩ => ?_
  have hlb := lbN_le (c := c) l
  have hne : ¬ p = st'.h.n := by omega
  have hp1 : p < st'.h.n + 1 := by omega
  have hall : allLen k (l.map enc) = true := allLen_iff.2 fun x hx => by
    simp only [List.mem_map] at hx
    obtain ⟨a, _, rfl⟩ := hx
    exact hlen a
  have htt : tc.take k = tc := List.take_of_length_le (by rw [htc]; exact Nat.le_refl _)
  by_cases hl : lbN c l < l.length
  · obtain ⟨a, ha⟩ : ∃ a, l[lbN c l]? = some a := ⟨_, List.getElem?_eq_getElem hl⟩
    have hix : (l.map enc)[lbN c l]? = some (enc a) := by simp [ha]
    have hixx : ∀ hi, (l.map enc)[lbN c l]'hi = enc a := fun hi => (List.getElem?_eq_some_iff.1 hix).2
    have hta : (enc a).take k = enc a := List.take_of_length_le (by rw [hlen a]; exact Nat.le_refl _)
    have hla := hlen a
    have hca := hcall a (List.mem_of_getElem? ha)
    have hl' : (lbN c l : Int) < (l.length : Int) := by omega
    have hf : fnd c l = decide (c a = 0) := by unfold fnd; rw [ha]
    simp [h9, h0, h2, h8, hp4, hpb, hpn, hl', hl, hix, hixx, hne, hp1, hall, hla, htc, hta, htt]
    rw [VA_ownT (g := G) (by simp [h2]) hp (by simp only [Bool.or_eq_false_iff] at hh; show howF _ G = .own; unfold howF; rw [hh.1, hh.2]; rfl)]
    simp [hca, hpl, hpt, hf, resV, resP]
  · have hl' : ¬ (lbN c l : Int) < (l.length : Int) := by omega
    have hf : fnd c l = false := by unfold fnd; rw [List.getElem?_eq_none (by omega)]
    simp [h9, h0, h2, h8, hp4, hpb, hpn, hl', hl, hne, hp1, hf, resV, resP]
end
def cmpI (a b : Int) : Int := if a < b then -1 else if b < a then 1 else 0
theorem cmpInt_ans {a b : Int} : ans (env P) 161 [iv a, iv b] = some (iv (cmpI a b)) := by
  have hn : ∀ x : Int, ans (env P) 183 [iv x] = some (bv false) := fun x => by
    refine ans_V rfl rfl ?_
    simp [c183]
  refine ans_V rfl rfl ?_
  by_cases h1 : a < b
  · simp [c161, hn, cmpI, h1]
  · by_cases h2 : b < a <;> simp [c161, hn, cmpI, h1, h2]
theorem storeOrder_ans {a b : Item} {ca : List PV} (h : ca = itP b) : ans (env P) 132 [.agg (itP a), .agg ca] = some (iv (cmpI a.key b.key)) := by
  subst h
  refine ans_V rfl rfl ?_
  have h := cmpInt_ans (P := P) (a := a.key) (b := b.key)
  simp [c132, h]
end Go.Evl.Zone

namespace Go.Evl.Zone
open Go Go.Evl
structure Cmp {κ : Type} (cmp : κ → κ → Int) : Prop where
  self : ∀ a, cmp a a = 0
  zero : ∀ a b, cmp a b = 0 → a = b
  neg : ∀ a b, cmp a b < 0 → 0 < cmp b a
  pos : ∀ a b, 0 < cmp a b → cmp b a < 0
  trans : ∀ a b c, cmp a b < 0 → cmp b c < 0 → cmp a c < 0
theorem cmpI_ok : Cmp cmpI where
  self := fun a => by simp [cmpI]
  zero := fun a b h => by unfold cmpI at h; split at h <;> (try split at h) <;> omega
  neg := fun a b h => by
    unfold cmpI at *
    by_cases h1 : a < b
    · rw [if_neg (show ¬ b < a by omega), if_pos h1]; decide
    · rw [if_neg h1] at h; split at h <;> omega
  pos := fun a b h => by
    unfold cmpI at *
    by_cases h1 : a < b
    · rw [if_pos h1] at h; omega
    · by_cases h2 : b < a
      · rw [if_pos h2]; decide
      · rw [if_neg h1, if_neg h2] at h; omega
  trans := fun a b c h k => by
    unfold cmpI at *
    by_cases h1 : a < b
    · by_cases k1 : b < c
      · rw [if_pos (show a < c by omega)]; decide
      · rw [if_neg k1] at k; split at k <;> omega
    · rw [if_neg h1] at h; split at h <;> omega
section
variable {α κ : Type} {cmp : κ → κ → Int} {key : α → κ}
def Srt (cmp : κ → κ → Int) (key : α → κ) (l : List α) : Prop := l.Pairwise fun a b => cmp (key a) (key b) < 0
def getA [DecidableEq κ] (key : α → κ) (l : List α) (k : κ) : Option α := l.find? fun a => decide (key a = k)
def putA (cmp : κ → κ → Int) (key : α → κ) (x : α) : List α → List α
  | [] => [x]
  | b :: l => if cmp (key b) (key x) < 0 then b :: putA cmp key x l else if cmp (key b) (key x) = 0 then x :: l else x :: b :: l
theorem Srt.mono (hc : Cmp cmp) (k : κ) : ∀ {l : List α}, Srt cmp key l → Mono (fun a => cmp (key a) k) l := fun h => List.Pairwise.imp (fun {a b} hab hb => hc.trans _ _ _ hab hb) h
theorem Srt.tail {a : α} {l : List α} (h : Srt cmp key (a :: l)) : Srt cmp key l := (List.pairwise_cons.1 h).2
theorem Srt.head {a b : α} {l : List α} (h : Srt cmp key (a :: l)) (hb : b ∈ l) : cmp (key a) (key b) < 0 := (List.pairwise_cons.1 h).1 b hb
theorem get_fnd [DecidableEq κ] (hc : Cmp cmp) (k : κ) : ∀ {l : List α}, Srt cmp key l → match getA key l k with
    | some a => l[lbN (fun a => cmp (key a) k) l]? = some a ∧ fnd (fun a => cmp (key a) k) l = true
    | none => fnd (fun a => cmp (key a) k) l = false
  | [], h => rfl
  | b :: l, h => by
    have ih := get_fnd hc k h.tail
    by_cases h1 : cmp (key b) k < 0
    · have hne : ¬ key b = k := by rintro rfl; rw [hc.self] at h1; omega
      have e : getA key (b :: l) k = getA key l k := by simp [getA, hne]
      have e2 : lbN (fun a => cmp (key a) k) (b :: l) = lbN (fun a => cmp (key a) k) l + 1 := by simp [lbN, h1]
      have e3 : fnd (fun a => cmp (key a) k) (b :: l) = fnd (fun a => cmp (key a) k) l := by unfold fnd; rw [e2]; simp
      rw [e, e2, e3]
      simpa using ih
    · have e2 : lbN (fun a => cmp (key a) k) (b :: l) = 0 := by simp [lbN, h1]
      by_cases h0 : cmp (key b) k = 0
      · have hk := hc.zero _ _ h0
        have e : getA key (b :: l) k = some b := by simp [getA, hk]
        rw [e, e2]
        refine ⟨rfl, ?_⟩
        unfold fnd
        rw [e2]
        simp [h0]
      · have e3 : fnd (fun a => cmp (key a) k) (b :: l) = false := by unfold fnd; rw [e2]; simp [h0]
        have e : getA key (b :: l) k = none := by
          unfold getA
          rw [List.find?_eq_none]
          intro a ha
          simp only [decide_eq_true_eq]
          rintro rfl
          rcases List.mem_cons.1 ha with rfl | ha
          · exact h0 (hc.self _)
          · exact h1 (h.head ha)
        rw [e]
        exact e3
theorem put_at (x : α) : ∀ l : List α, putA cmp key x l = if fnd (fun a => cmp (key a) (key x)) l = true then l.set (lbN (fun a => cmp (key a) (key x)) l) x else l.take (lbN (fun a => cmp (key a) (key x)) l) ++ x :: l.drop (lbN (fun a => cmp (key a) (key x)) l)
  | [] => by simp [putA, fnd, lbN]
  | b :: l => by
    have ih := put_at x l
    by_cases h1 : cmp (key b) (key x) < 0
    · have e2 : lbN (fun a => cmp (key a) (key x)) (b :: l) = lbN (fun a => cmp (key a) (key x)) l + 1 := by simp [lbN, h1]
      have e3 : fnd (fun a => cmp (key a) (key x)) (b :: l) = fnd (fun a => cmp (key a) (key x)) l := by unfold fnd; rw [e2]; simp
      rw [putA, if_pos h1, ih, e2, e3]
      split <;> simp
    · have e2 : lbN (fun a => cmp (key a) (key x)) (b :: l) = 0 := by simp [lbN, h1]
      have e3 : fnd (fun a => cmp (key a) (key x)) (b :: l) = decide (cmp (key b) (key x) = 0) := by unfold fnd; rw [e2]; simp
      rw [putA, if_neg h1, e2, e3]
      by_cases h0 : cmp (key b) (key x) = 0 <;> simp [h0]
theorem mem_put (hc : Cmp cmp) {x y : α} : ∀ {l : List α}, Srt cmp key l → (y ∈ putA cmp key x l ↔ y = x ∨ (y ∈ l ∧ key y ≠ key x))
  | [], h => by simp [putA]
  | b :: l, h => by
    have ih := mem_put hc (x := x) (y := y) h.tail
    unfold putA
    split
    · rename_i h1
      have hne : key b ≠ key x := by intro e; rw [e, hc.self] at h1; omega
      rw [List.mem_cons, ih, List.mem_cons]
      constructor
      · rintro (rfl | rfl | ⟨h2, h3⟩)
        · exact .inr ⟨.inl rfl, hne⟩
        · exact .inl rfl
        · exact .inr ⟨.inr h2, h3⟩
      · rintro (rfl | ⟨rfl | h2, h3⟩)
        · exact .inr (.inl rfl)
        · exact .inl rfl
        · exact .inr (.inr ⟨h2, h3⟩)
    · rename_i h1
      split
      · rename_i h0
        have hk := hc.zero _ _ h0
        rw [List.mem_cons, List.mem_cons]
        constructor
        · rintro (rfl | h2)
          · exact .inl rfl
          · refine .inr ⟨.inr h2, fun e => ?_⟩
            have := h.head h2
            rw [e, ← hk, hc.self] at this; omega
        · rintro (rfl | ⟨rfl | h2, h3⟩)
          · exact .inl rfl
          · exact (h3 hk).elim
          · exact .inr h2
      · rename_i h0
        rw [List.mem_cons]
        constructor
        · rintro (rfl | h2)
          · exact .inl rfl
          · refine .inr ⟨h2, fun e => ?_⟩
            rcases List.mem_cons.1 h2 with rfl | h2
            · rw [e, hc.self] at h0; exact h0 rfl
            · have h3 := h.head h2
              rw [e] at h3
              exact h1 h3
        · rintro (rfl | ⟨h2, _⟩)
          · exact .inl rfl
          · exact .inr h2
theorem srt_put (hc : Cmp cmp) {x : α} : ∀ {l : List α}, Srt cmp key l → Srt cmp key (putA cmp key x l)
  | [], h => by simp [putA, Srt]
  | b :: l, h => by
    have ih := srt_put hc (x := x) h.tail
    unfold putA
    split
    · rename_i h1
      refine List.pairwise_cons.2 ⟨fun y hy => ?_, ih⟩
      rcases (mem_put hc h.tail).1 hy with rfl | ⟨h2, _⟩
      · exact h1
      · exact h.head h2
    · rename_i h1
      split
      · rename_i h0
        have hk := hc.zero _ _ h0
        refine List.pairwise_cons.2 ⟨fun y hy => ?_, h.tail⟩
        rw [← hk]; exact h.head hy
      · rename_i h0
        have h2 : cmp (key x) (key b) < 0 := hc.pos _ _ (by omega)
        refine List.pairwise_cons.2 ⟨fun y hy => ?_, h⟩
        rcases List.mem_cons.1 hy with rfl | hy
        · exact h2
        · exact hc.trans _ _ _ h2 (h.head hy)
theorem get_mem [DecidableEq κ] {l : List α} {k : κ} {a : α} (h : getA key l k = some a) : a ∈ l ∧ key a = k := by
  unfold getA at h
  exact ⟨List.mem_of_find?_eq_some h, by simpa using List.find?_some h⟩
theorem get_none [DecidableEq κ] {l : List α} {k : κ} (h : getA key l k = none) : ∀ a ∈ l, key a ≠ k := by
  unfold getA at h
  rw [List.find?_eq_none] at h
  intro a ha e
  have := h a ha
  simp [e] at this
theorem get_some [DecidableEq κ] (hc : Cmp cmp) {a : α} : ∀ {l : List α}, Srt cmp key l → a ∈ l → getA key l (key a) = some a
  | b :: l, h, hm => by
    rcases List.mem_cons.1 hm with rfl | hm
    · simp [getA]
    · have hne : ¬ key b = key a := fun e => by have := h.head hm; rw [e, hc.self] at this; omega
      have := get_some hc h.tail hm
      simp only [getA, List.find?_cons, hne, decide_false] at this ⊢
      exact this
theorem get_iff [DecidableEq κ] (hc : Cmp cmp) {l : List α} (h : Srt cmp key l) {k : κ} {a : α} : getA key l k = some a ↔ a ∈ l ∧ key a = k :=
  ⟨get_mem, fun ⟨h1, h2⟩ => h2 ▸ get_some hc h h1⟩
theorem get_put [DecidableEq κ] (hc : Cmp cmp) {l : List α} (h : Srt cmp key l) {x : α} {k : κ} : getA key (putA cmp key x l) k = if key x = k then some x else getA key l k := by
  by_cases hk : key x = k
  · rw [if_pos hk, get_iff hc (srt_put hc h), mem_put hc h]
    exact ⟨.inl rfl, hk⟩
  · rw [if_neg hk]
    cases hg : getA key l k with
    | none =>
      cases hp : getA key (putA cmp key x l) k with
      | none => rfl
      | some a =>
        obtain ⟨h1, h2⟩ := get_mem hp
        rcases (mem_put hc h).1 h1 with rfl | ⟨h3, _⟩
        · exact (hk h2).elim
        · exact (get_none hg a h3 h2).elim
    | some a =>
      obtain ⟨h1, h2⟩ := get_mem hg
      rw [get_iff hc (srt_put hc h), mem_put hc h]
      exact ⟨.inr ⟨h1, fun e => hk (e ▸ h2)⟩, h2⟩
end
end Go.Evl.Zone

namespace Go.Evl.Zone
open Go Go.Evl
variable {P : Program}
def it0c (k : Int) : List PV := [iv k, .val (.string ⟨#[]⟩), iv 0, iv 0, bv false, .val (.complex .f64 0 0), .val (.string ⟨#[]⟩), bv false]
theorem it0c_is (k : Int) : it0c k = itP ⟨k, [], 0, 0, false, 0, 0, [], false⟩ := by
  have e0 : FloatKind.f64.nearest 0 = 0 := near0
  simp only [it0c, itP, cw, fw, e0]
theorem storeFind_ans (T : TB P) {v : List Item} {k : Int} (hv : Srt cmpI Item.key v) (hL : v.length ≤ most) : ans (env P) 99 [lvP v, iv k] = some (.tup [iv (lbN (fun q => cmpI q.key k) v), bv (fnd (fun q => cmpI q.key k) v)]) := by
  have h := bs_ans (F := 131) (G := 132) (enc := itP) (tc := it0c k) (c := fun q => cmpI q.key k) (l := v) (k := 8) T rfl rfl rfl (by decide) (fun _ => rfl) rfl (fun _ _ => rfl) (fun _ => rfl) rfl (fun q _ => storeOrder_ans (b := ⟨k, [], 0, 0, false, 0, 0, [], false⟩) (it0c_is k)) (Srt.mono cmpI_ok k hv) hL
  unfold it0c at h
  refine ans_V rfl rfl ?_
  simp [c99, EnP, h, resV, resP]
end Go.Evl.Zone

namespace Go.Evl.Zone
open Go Go.Evl Go.Evl.Fl
variable {P : Program}
theorem ver_eql2 {t ts : TypeId} (hS : Sty P t [(ts, 0), (3, 1), (3, 2)]) (h9 : P.underlying ts = some .string) (h3 : P.underlying 3 = some (.int .i64)) {cx cy : Bool} (a b : Bytes) (m n p q : Int) : evBin P .eql t cx cy (.agg [sv a, iv m, iv n]) (.agg [sv b, iv p, iv q]) = some (bv (decide (a = b ∧ m = p ∧ n = q))) ∧ evBin P .neq t cx cy (.agg [sv a, iv m, iv n]) (.agg [sv b, iv p, iv q]) = some (bv (!decide (a = b ∧ m = p ∧ n = q))) := by
  have h := (sty_eql (cx := cx) (cy := cy) (xs := [sv a, iv m, iv n]) (ys := [sv b, iv p, iv q]) (vs := [.string ⟨a.toArray⟩, .int .i64 m, .int .i64 n]) (us := [.string ⟨b.toArray⟩, .int .i64 p, .int .i64 q]) hS (fun r => if r.2 = 0 then (⟨a.toArray⟩ : ByteArray) == ⟨b.toArray⟩ else if r.2 = 1 then m == p else n == q) rfl rfl (by
    intro p hp
    simp only [List.mem_cons, List.not_mem_nil, or_false] at hp
    rcases hp with rfl | rfl | rfl
    · exact ⟨_, _, pureRun_part h9 rfl rfl, pureRun_part h9 rfl rfl, pureRun_equal_string h9⟩
    · exact ⟨_, _, pureRun_part h3 rfl rfl, pureRun_part h3 rfl rfl, pureRun_equal_int h3⟩
    · exact ⟨_, _, pureRun_part h3 rfl rfl, pureRun_part h3 rfl rfl, pureRun_equal_int h3⟩))
  have e : ([(ts, 0), (3, 1), (3, 2)].all fun r => if r.2 = 0 then (⟨a.toArray⟩ : ByteArray) == ⟨b.toArray⟩ else if r.2 = 1 then m == p else n == q) = decide (a = b ∧ m = p ∧ n = q) := by
    rw [Bool.eq_iff_iff]
    simp [ba_beq]
  rw [e] at h
  exact h
theorem pver_eql (T : TI P) {cx cy : Bool} (a b : Bytes) (m n p q : Int) : evBin P .eql 89 cx cy (.agg [sv a, iv m, iv n]) (.agg [sv b, iv p, iv q]) = some (bv (decide (a = b ∧ m = p ∧ n = q))) := (ver_eql2 T.ver T.tid T.t3 a b m n p q).1
def newer (a b : Item) : Bool := if a.stamp ≠ b.stamp then decide (b.stamp < a.stamp) else decide (0 < cmpB a.id b.id)
def sameVer (a b : Item) : Bool := decide (a.id = b.id ∧ a.seq = b.seq ∧ a.stamp = b.stamp)
def yieldsI (old x : Item) : Bool := if sameVer old x = true then x.held && !old.held else !newer old x
theorem pnewer_ans {a b : Item} : ans (env P) 135 [.agg [sv a.id, iv a.seq, iv a.stamp], .agg [sv b.id, iv b.seq, iv b.stamp]] = some (bv (newer a b)) := by
  have h := idCompare_ans (P := P) (a := a.id) (b := b.id)
  refine ans_V rfl rfl ?_
  by_cases hs : a.stamp = b.stamp
  · simp [c135, h, hs, newer]
  · simp [c135, h, hs, newer]
theorem yields_ans (T : TB P) {a b : Item} : ans (env P) 102 [.agg (itP a), .agg (itP b)] = some (bv (yieldsI a b)) := by
  have h := pnewer_ans (P := P) (a := a) (b := b)
  have hv := fun cx cy => pver_eql (P := P) T.toTI (cx := cx) (cy := cy) a.id b.id a.seq a.stamp b.seq b.stamp
  have hv' : ∀ cx cy, evBin P .eql 89 cx cy (.agg [sv a.id, iv a.seq, iv a.stamp]) (.agg [sv b.id, iv b.seq, iv b.stamp]) = some (bv (sameVer a b)) := hv
  refine ans_V rfl rfl ?_
  cases e : sameVer a b with
  | true =>
    rw [e] at hv'
    cases hb : b.held <;> cases ha : a.held <;> simp [c102, hv', yieldsI, e, hb, ha]
  | false =>
    rw [e] at hv'
    simp [c102, hv', yieldsI, e, h]
theorem storeGet_ans (T : TB P) {v : List Item} {k : Int} (hv : Srt cmpI Item.key v) (hL : v.length ≤ most) : ans (env P) 64 [lvP v, iv k] = some (match getA Item.key v k with
    | some x => .tup [.agg (itP x), bv true]
    | none => .tup [.agg [iv 0, sv [], iv 0, iv 0, bv false, .val (.complex .f64 0 0), sv [], bv false], bv false]) := by
  have hf := storeFind_ans T (k := k) hv hL
  have hg := get_fnd (key := Item.key) cmpI_ok k hv
  cases hga : getA Item.key v k with
  | none =>
    rw [hga] at hg
    simp only at hg
    rw [hg] at hf
    refine ans_V rfl rfl ?_
    simp [c64, hf, resV, resP]
  | some x =>
    rw [hga] at hg
    obtain ⟨h1, h2⟩ := hg
    rw [h2] at hf
    have hlt : lbN (fun q => cmpI q.key k) v < v.length := (List.getElem?_eq_some_iff.1 h1).1
    have hx := EnP_at h1
    refine ans_V rfl rfl ?_
    simp [c64, hf, hlt, hx, resV, resP]
def putI (v : List Item) (x : Item) : List Item × Bool := match getA Item.key v x.key with
  | some o => if yieldsI o x = true then (putA cmpI Item.key x v, true) else (v, false)
  | none => (putA cmpI Item.key x v, true)
theorem storeR_at8 {H : Heap} {k r g i : Nat} {xs : List (List PV)} {y vs : List PV} (hg : g = xs.length) (h : xs[i]? = some y) (hy : y.length = k) (hv : vs.length = k) : storeR H (.row k xs true) r k g i 0 vs = some (H.put r (.row k (xs.set i vs) true), r) := by
  have e : setL y 0 vs = vs := by
    unfold setL
    simp [List.drop_of_length_le, hy, hv]
  have e2 : storeR H (.row k xs true) r k g i 0 vs = ob xs[i]? fun cs => if 0 + vs.length ≤ cs.length then some (H.put r (.row k (xs.set i (setL cs 0 vs)) true), r) else none := by
    unfold storeR
    simp only [toRow, ob_some]
    rw [if_pos ⟨trivial, trivial, hg⟩]
  rw [e2, h, ob_some, e, if_pos (by omega)]
theorem clone8 {v : List Item} (hv0 : ¬ v.length = 0) (hL : v.length ≤ most) (H : Heap) : pClone 8 [.im (EnP v) false] H = some ⟨.sl H.n 8 v.length 0 v.length, (H.grow 1).put H.n (.row 8 (EnP v) true), [H.n], some []⟩ := by
  simp only [pClone, isStr, elems, allLen_EnP, EnP_length, if_true]
  rw [if_neg (by decide), if_neg hv0, if_pos hL]
theorem storePut_ans (T : TB P) {v : List Item} {x : Item} (hv : Srt cmpI Item.key v) (hL : v.length < most) : ans (env P) 66 [lvP v, .agg (itP x)] = some (.tup [lvP (putI v x).1, bv (putI v x).2]) := by
  have hf := storeFind_ans T (k := x.key) hv (Nat.le_of_lt hL)
  have hg := get_fnd (key := Item.key) cmpI_ok x.key hv
  have hp := put_at (cmp := cmpI) (key := Item.key) x v
  have hlb := lbN_le (c := fun q => cmpI q.key x.key) v
  have p1 := fun {dst : Option Nat} {rest : List CI} {i slot slot' : Nat} {log : Log} {d : Option (Nat × List (Nat × Nat))} {K : Ex → St → Prop} {st : St} {ks : List Fr'} {xs : List O} => VA_prim (E := env P) (f := 66) (g := 76) (p := pClone 8) (dst := dst) (rest := rest) (i := i) (slot := slot) (slot' := slot') (log := log) (d := d) (K := K) (st := st) (ks := ks) (xs := xs) rfl
  have p2 := fun {dst : Option Nat} {rest : List CI} {i slot slot' : Nat} {log : Log} {d : Option (Nat × List (Nat × Nat))} {K : Ex → St → Prop} {st : St} {ks : List Fr'} {xs : List O} => VA_prim (E := env P) (f := 66) (g := 101) (p := pIns 8) (dst := dst) (rest := rest) (i := i) (slot := slot) (slot' := slot') (log := log) (d := d) (K := K) (st := st) (ks := ks) (xs := xs) rfl
  unfold putI
  cases v with
  | nil =>
    have hga : getA Item.key [] x.key = none := rfl
    rw [hga] at hg ⊢
    simp only at hg
    rw [hg] at hf
    simp only [lvP, EnP_nil, lbN] at hf
    have e0 : ((0 : Nat) : Int) = 0 := rfl
    rw [e0] at hf
    refine ans_V rfl rfl ?_
    simp [c66, resV, resP, p1, p2, pClone, isStr, elems, allLen, hf, pIns, chunks, putA, EnP, plainss, plains, plain]
  | cons b l =>
    have hv0 : ¬ (b :: l).length = 0 := by simp
    generalize b :: l = v at *
    have hcl := clone8 hv0 (Nat.le_of_lt hL)
    have hpl := plainss_EnP v
    have htk : (EnP v).take v.length = EnP v := List.take_of_length_le (by simp)
    simp only [lvP] at hf
    cases hga : getA Item.key v x.key with
    | none =>
      rw [hga] at hg
      simp only at hg
      rw [hg, if_neg (by decide)] at hp
      rw [hg] at hf
      have hm : v.length + 1 ≤ most := hL
      have hkey : (EnP v).take (lbN (fun q => cmpI q.key x.key) v) ++ itP x :: (EnP v).drop (lbN (fun q => cmpI q.key x.key) v) = EnP (putA cmpI Item.key x v) := by
        rw [hp]; simp [EnP]
      have hwl : (putA cmpI Item.key x v).length = v.length + 1 := by rw [hp]; simp; omega
      have hpm := plainss_EnP (putA cmpI Item.key x v)
      have htw : (EnP (putA cmpI Item.key x v)).take (v.length + 1) = EnP (putA cmpI Item.key x v) := List.take_of_length_le (by simp [hwl])
      refine ans_V rfl rfl ?_
      simp [c66, resV, resP, p1, p2, hcl, hf, pIns, hpl, htk, chunks, hlb, hm, hkey, hwl, hpm, htw]
      done
    | some o =>
      rw [hga] at hg
      obtain ⟨h1, h2⟩ := hg
      rw [h2, if_pos rfl] at hp
      rw [h2] at hf
      have hlt : lbN (fun q => cmpI q.key x.key) v < v.length := (List.getElem?_eq_some_iff.1 h1).1
      have hy := yields_ans T (P := P) (a := o) (b := x)
      have hx := EnP_at h1
      have hx2 : (EnP v)[lbN (fun q => cmpI q.key x.key) v]? = some (itP o) := EnP_at? h1
      cases hyy : yieldsI o x with
      | true =>
        rw [hyy] at hy
        have hkey : (EnP v).set (lbN (fun q => cmpI q.key x.key) v) (itP x) = EnP (putA cmpI Item.key x v) := by
          rw [hp]; simp [EnP]
        have hwl : (putA cmpI Item.key x v).length = v.length := by rw [hp]; simp
        have hpm := plainss_EnP (putA cmpI Item.key x v)
        have htw : (EnP (putA cmpI Item.key x v)).take v.length = EnP (putA cmpI Item.key x v) := List.take_of_length_le (by simp [hwl])
        have s1 : ∀ H, storeR H (.row 8 (EnP v) true) 1 8 v.length (lbN (fun q => cmpI q.key x.key) v) 0 (itP x) = some (H.put 1 (.row 8 ((EnP v).set (lbN (fun q => cmpI q.key x.key) v) (itP x)) true), 1) := fun H => storeR_at8 (by simp) hx2 rfl rfl
        refine ans_V rfl rfl ?_
        simp [c66, resV, resP, p1, p2, hcl, hf, hpl, htk, hlb, hlt, hx, hy, loadR_row, s1, hkey, hwl, hpm, htw, hyy]
        done
      | false =>
        rw [hyy] at hy
        refine ans_V rfl rfl ?_
        simp [c66, resV, resP, p1, p2, hcl, hf, hpl, htk, hlb, hlt, hx, hy, loadR_row, hyy]
        done
end Go.Evl.Zone

namespace Go.Evl.Zone
open Go Go.Evl Go.Evl.Fl
variable {P : Program}
structure NB (s : NS) : Prop where
  gone : s.gone.length ≤ most
  floor : s.floor.length ≤ most
  store : s.store.length ≤ most
  zone : s.zone.length ≤ most
  members : s.members.length ≤ most
  certs : s.certs.length ≤ most
section
variable {s : NS}
theorem copiedG (B : NB s) (k1 : ans (env P) 32 [lv s.know, .im [] false] = some (lv s.know)) (k2 : ans (env P) 74 [lv s.rows, .im [] false] = some (lv s.rows)) : ans (env P) 35 [.agg (nsP s)] = some (.agg (nsP s)) := by
  have c1 := fun {dst : Option Nat} {rest : List CI} {i slot slot' : Nat} {log : Log} {d : Option (Nat × List (Nat × Nat))} {K : Ex → St → Prop} {st : St} {ks : List Fr'} {xs : List O} => VA_prim (E := env P) (f := 35) (g := 75) (p := pCloneF 2) (dst := dst) (rest := rest) (i := i) (slot := slot) (slot' := slot') (log := log) (d := d) (K := K) (st := st) (ks := ks) (xs := xs) rfl
  have c2 := fun {dst : Option Nat} {rest : List CI} {i slot slot' : Nat} {log : Log} {d : Option (Nat × List (Nat × Nat))} {K : Ex → St → Prop} {st : St} {ks : List Fr'} {xs : List O} => VA_prim (E := env P) (f := 35) (g := 76) (p := pCloneF 8) (dst := dst) (rest := rest) (i := i) (slot := slot) (slot' := slot') (log := log) (d := d) (K := K) (st := st) (ks := ks) (xs := xs) rfl
  have c3 := fun {dst : Option Nat} {rest : List CI} {i slot slot' : Nat} {log : Log} {d : Option (Nat × List (Nat × Nat))} {K : Ex → St → Prop} {st : St} {ks : List Fr'} {xs : List O} => VA_prim (E := env P) (f := 35) (g := 47) (p := pCloneF 3) (dst := dst) (rest := rest) (i := i) (slot := slot) (slot' := slot') (log := log) (d := d) (K := K) (st := st) (ks := ks) (xs := xs) rfl
  have c4 := fun {dst : Option Nat} {rest : List CI} {i slot slot' : Nat} {log : Log} {d : Option (Nat × List (Nat × Nat))} {K : Ex → St → Prop} {st : St} {ks : List Fr'} {xs : List O} => VA_prim (E := env P) (f := 35) (g := 77) (p := pCloneF 1) (dst := dst) (rest := rest) (i := i) (slot := slot) (slot' := slot') (log := log) (d := d) (K := K) (st := st) (ks := ks) (xs := xs) rfl
  have z1 : ∀ H, pCloneF 3 [.im (stepsV (toSI s.zone)) false] H = some ⟨.im (stepsV (toSI s.zone)) false, H, [], some []⟩ := fun H => cloneF_ok (by simp) (by simpa [stepsV, toSI] using B.zone) (plainss_steps _)
  have z2 : ∀ H, pCloneF 8 [.im (EnP s.store) false] H = some ⟨.im (EnP s.store) false, H, [], some []⟩ := fun H => cloneF_ok (by simp) (by simpa using B.store) (plainss_EnP _)
  have z3 : ∀ (v : List At), v.length ≤ most → ∀ H, pCloneF 2 [.im (En v) false] H = some ⟨.im (En v) false, H, [], some []⟩ := fun v h H => cloneF_ok (allLen_En rfl v) (by simpa using h) (plainss_En v)
  have z4 : ∀ H, pCloneF 1 [.im (En s.members) false] H = some ⟨.im (En s.members) false, H, [], some []⟩ := fun H => cloneF_ok (allLen_En (α := Bytes) rfl _) (by simpa using B.members) (plainss_En _)
  refine ans_V rfl rfl ?_
  simp [c35, nsP, lv, lvP, k1, k2, c1, c2, c3, c4, z1, z2, z3 _ B.gone, z3 _ B.floor, z3 _ B.certs, z4]
  all_goals done
theorem allG {G A : List KRow} (k1 : ans (env P) 33 [lv s.gone] = some (lv G)) (k2 : ans (env P) 32 [lv s.know, lv G] = some (lv A)) : ans (env P) 12 [.agg (nsP s)] = some (lv A) := by
  refine ans_V rfl rfl ?_
  simp [c12, nsP, lv, lvP, k1, k2]
theorem settleG {A : List KRow} {F : List At} {R : List MRow} (k1 : ans (env P) 35 [.agg (nsP s)] = some (.agg (nsP s))) (k2 : ans (env P) 12 [.agg (nsP s)] = some (lv A)) (k3 : ans (env P) 38 [lv A] = some (lv F)) (k4 : ans (env P) 37 [lv s.rows, sv s.id, lv F] = some (lv R)) :
    ans (env P) 39 [.agg (nsP s)] = some (.agg (nsP { s with rows := R })) := by
  simp only [nsP] at k1 k2
  refine ans_V rfl rfl ?_
  simp [c39, nsP, lv, lvP, k1, k2, k3, k4]
def mine (s : NS) (x : Item) : Item := { x with id := s.id, seq := s.seq + 1, stamp := s.clock + 1 }
theorem eventG {x : Item} {K' : List KRow} {S' : List Item} {b : Bool} {s' : NS} (h1 : s.seq < 1048575) (h2 : s.clock < 1048575) (h3 : 0 ≤ s.seq) (h4 : 0 ≤ s.clock) (k1 : ans (env P) 35 [.agg (nsP s)] = some (.agg (nsP s))) (k2 : ans (env P) 65 [lv s.know, sv s.id, iv (s.seq + 1)] = some (lv K'))
    (k3 : ans (env P) 66 [lvP s.store, .agg (itP (mine s x))] = some (.tup [lvP S', bv b])) (k4 : ans (env P) 39 [.agg (nsP { s with seq := s.seq + 1, clock := s.clock + 1, know := K', store := S' })] = some (.agg (nsP s'))) :
    ans (env P) 28 [.agg (nsP s), .agg (itP x)] = some (.tup [.agg (nsP s'), iv 0]) := by
  have w1 : IntKind.i64.wrap (s.seq + 1) = s.seq + 1 := wrap64_id (by omega)
  have w2 : IntKind.i64.wrap (s.clock + 1) = s.clock + 1 := wrap64_id (by omega)
  have q1 : ¬ (1048575 : Int) ≤ s.seq := by omega
  have q2 : ¬ (1048575 : Int) ≤ s.clock := by omega
  simp only [nsP, itP, mine, lvP] at k1 k2 k3 k4
  refine ans_V rfl rfl ?_
  simp [c28, resV, resP, nsP, lv, lvP, k1, k2, k3, k4, w1, w2, q1, q2]
  all_goals done
theorem thereG (T : TB P) (h0 : s.how = 0) {k : Int} (hk : 0 ≤ k ∧ k ≤ 31) (hv : Srt cmpI Item.key s.store) (hL : s.store.length ≤ most) : ans (env P) 27 [.agg (nsP s), iv k] = some (match getA Item.key s.store k with
    | some x => if x.dead = true then .tup [.agg [iv 0, sv [], iv 0, iv 0, bv false, .val (.complex .f64 0 0), sv [], bv false], iv 11] else .tup [.agg (itP x), iv 0]
    | none => .tup [.agg [iv 0, sv [], iv 0, iv 0, bv false, .val (.complex .f64 0 0), sv [], bv false], iv 11]) := by
  have g := storeGet_ans T (k := k) hv hL
  have q2 : ¬ k < 0 := by omega
  have q3 : ¬ 32 ≤ k := by omega
  cases hg : getA Item.key s.store k with
  | none =>
    rw [hg] at g
    simp only [lvP] at g
    refine ans_V rfl rfl ?_
    simp [c27, resV, resP, nsP, lv, lvP, h0, q2, q3, g]
  | some x =>
    rw [hg] at g
    simp only [lvP, itP] at g
    cases hd : x.dead with
    | true =>
      rw [hd] at g
      refine ans_V rfl rfl ?_
      simp [c27, resV, resP, nsP, lv, lvP, itP, h0, q2, q3, g, hd]
    | false =>
      rw [hd] at g
      refine ans_V rfl rfl ?_
      simp [c27, resV, resP, nsP, lv, lvP, itP, h0, q2, q3, g, hd]
theorem readG (T : TB P) (h0 : s.how = 0) {k : Int} (hk : 0 ≤ k ∧ k ≤ 31) (hv : Srt cmpI Item.key s.store) (hL : s.store.length ≤ most) {z : Item → Bool} (hz : ∀ x ∈ s.store, ans (env P) 30 [.im (stepsV (toSI s.zone)) false, cw x.x x.y] = some (bv (z x))) : ans (env P) 10 [.agg (nsP s), iv k] = some (match getA Item.key s.store k with
    | some x => if x.dead = true then .tup [sv [], iv 11] else if z x = false then .tup [sv [], iv 12] else if x.held = false then .tup [sv [], iv 13] else .tup [sv x.text, iv 0]
    | none => .tup [sv [], iv 11]) := by
  have g := thereG T h0 hk hv hL
  cases hg : getA Item.key s.store k with
  | none =>
    rw [hg] at g
    simp only [nsP] at g
    refine ans_V rfl rfl ?_
    simp [c10, resV, resP, nsP, lv, lvP, g]
  | some x =>
    rw [hg] at g
    have hx := hz x (get_mem hg).1
    simp only [nsP] at g
    cases hd : x.dead with
    | true =>
      rw [hd] at g
      simp only [if_true] at g
      refine ans_V rfl rfl ?_
      simp [c10, resV, resP, nsP, lv, lvP, g, hd]
    | false =>
      rw [hd] at g
      simp only [Bool.false_eq_true, if_false, itP] at g
      cases hzz : z x <;> cases hh : x.held <;> rw [hzz] at hx <;> (refine ans_V rfl rfl ?_; simp [c10, resV, resP, nsP, lv, lvP, g, hx, hh, hd, hzz])
theorem deleteG {k : Int} {x : Item} {v : PV} (k1 : ans (env P) 27 [.agg (nsP s), iv k] = some (.tup [.agg (itP x), iv 0])) (k2 : ans (env P) 28 [.agg (nsP s), .agg (itP ⟨k, [], 0, 0, true, 0, 0, [], false⟩)] = some v) {s' : NS} (hv : v = .tup [.agg (nsP s'), iv 0]) : ans (env P) 6 [.agg (nsP s), iv k] = some (.tup [.agg (nsP s'), iv 0]) := by
  subst hv
  have e0 : fw 0 = 0 := near0
  have es : sv [] = PV.val (.string ⟨#[]⟩) := rfl
  simp only [nsP, itP, cw, e0, es] at k1 k2
  refine ans_V rfl rfl ?_
  simp [c6, resV, resP, nsP, lv, lvP, k1, k2]
theorem deleteN {k : Int} {e : Int} (he : ¬ e = 0) {cs : List PV} (hcs : cs = [iv 0, sv [], iv 0, iv 0, bv false, .val (.complex .f64 0 0), sv [], bv false]) (k1 : ans (env P) 27 [.agg (nsP s), iv k] = some (.tup [.agg cs, iv e])) : ans (env P) 6 [.agg (nsP s), iv k] = some (.tup [.agg (nsP s), iv e]) := by
  subst hcs
  simp only [nsP] at k1
  refine ans_V rfl rfl ?_
  simp [c6, resV, resP, nsP, lv, lvP, k1, he]
theorem writeG {k x y : Int} {t : Bytes} {s' : NS} (h0 : s.how = 0) (hk : 0 ≤ k ∧ k ≤ 31) (ht : t.length ≤ 16) (hw : ans (env P) 29 [cw x y] = some (bv true)) (hh : ans (env P) 30 [.im (stepsV (toSI s.zone)) false, cw x y] = some (bv true)) (k2 : ans (env P) 28 [.agg (nsP s), .agg (itP ⟨k, [], 0, 0, false, x, y, t, true⟩)] = some (.tup [.agg (nsP s'), iv 0])) : ans (env P) 7 [.agg (nsP s), iv k, cw x y, sv t] = some (.tup [.agg (nsP s'), iv 0]) := by
  have hs := sv_size (l := t)
  have q2 : ¬ k < 0 := by omega
  have q3 : ¬ 32 ≤ k := by omega
  have q7 : ¬ (16 : Int) < (t.length : Int) := by omega
  have es : sv [] = PV.val (.string ⟨#[]⟩) := rfl
  simp only [nsP, itP, es, h0] at k2
  refine ans_V rfl rfl ?_
  simp [c7, resV, resP, nsP, lv, lvP, h0, q2, q3, hw, hh, q7, hs, k2]
end
end Go.Evl.Zone

namespace Go.Evl.Zone
open Go Go.Evl Go.Evl.Fl
abbrev id0 : Bytes := [48]
def kn0 : Nat → List KRow
  | 0 => []
  | n + 1 => [⟨id0, ((n + 1 : Nat) : Int), []⟩]
def vc0 : Nat → List At
  | 0 => []
  | n + 1 => [⟨id0, ((n + 1 : Nat) : Int)⟩]
def rw0 : Nat → List MRow
  | 0 => []
  | n + 1 => [⟨id0, [⟨id0, ((n + 1 : Nat) : Int)⟩]⟩]
def na (n : Nat) (l : List Item) : NS := ⟨id0, 0, 0, (n : Int), (n : Int), kn0 n, [], [], l, all1, [id0], [], rw0 n⟩
structure AI (n : Nat) (l : List Item) (tx : List Bytes) (th : List Bool) : Prop where
  srt : Srt cmpI Item.key l
  key : ∀ x ∈ l, 0 ≤ x.key ∧ x.key ≤ 31
  stamp : ∀ x ∈ l, x.stamp ≤ n
  near : ∀ x ∈ l, (-1000 ≤ x.x ∧ x.x ≤ 1000) ∧ (-1000 ≤ x.y ∧ x.y ≤ 1000)
  held : ∀ x ∈ l, x.dead = false → x.held = true
  len : l.length ≤ n
  ltx : tx.length = 32
  lth : th.length = 32
  is : ∀ k : Nat, k < 32 → tx[k]? = some (match getA Item.key l k with | some x => if x.dead = true then [] else x.text | none => []) ∧ th[k]? = some (match getA Item.key l k with | some x => !x.dead | none => false)
theorem AI.begin : AI 0 [] (List.replicate 32 []) (List.replicate 32 false) where
  srt := List.Pairwise.nil
  key := by simp
  stamp := by simp
  near := by simp
  held := by simp
  len := Nat.le_refl _
  ltx := by simp
  lth := by simp
  is := fun k hk => by
    rw [List.getElem?_replicate, List.getElem?_replicate, if_pos hk, if_pos hk]; exact ⟨rfl, rfl⟩
theorem len_put {α κ : Type} {cmp : κ → κ → Int} {key : α → κ} (x : α) : ∀ l : List α, (putA cmp key x l).length ≤ l.length + 1
  | [] => by simp [putA]
  | b :: l => by
    have := len_put (cmp := cmp) (key := key) x l
    unfold putA
    split
    · simp; omega
    · split <;> simp
theorem AI.put {n : Nat} {l : List Item} {tx : List Bytes} {th : List Bool} (h : AI n l tx th) {x : Item} (hs : x.stamp = n + 1) : putI l x = (putA cmpI Item.key x l, true) := by
  unfold putI
  cases hg : getA Item.key l x.key with
  | none => rfl
  | some o =>
    have ho := h.stamp o (get_mem hg).1
    have e1 : sameVer o x = false := by simp [sameVer]; omega
    have e2 : newer o x = false := by
      unfold newer
      rw [if_pos (by omega)]
      simp; omega
    simp [yieldsI, e1, e2]
theorem AI.step {n : Nat} {l : List Item} {tx : List Bytes} {th : List Bool} (h : AI n l tx th) {x : Item} {k : Nat} (hk : k < 32) (hx : x.key = k) (hs : x.stamp = n + 1) (hn : (-1000 ≤ x.x ∧ x.x ≤ 1000) ∧ (-1000 ≤ x.y ∧ x.y ≤ 1000)) (hd : x.dead = false → x.held = true) : AI (n + 1) (putA cmpI Item.key x l) (tx.set k (if x.dead = true then [] else x.text)) (th.set k (!x.dead)) where
  srt := srt_put cmpI_ok h.srt
  key := fun y hy => by
    rcases (mem_put cmpI_ok h.srt).1 hy with rfl | ⟨hy, _⟩
    · omega
    · exact h.key y hy
  stamp := fun y hy => by
    rcases (mem_put cmpI_ok h.srt).1 hy with rfl | ⟨hy, _⟩
    · omega
    · have := h.stamp y hy; omega
  near := fun y hy => by
    rcases (mem_put cmpI_ok h.srt).1 hy with rfl | ⟨hy, _⟩
    · exact hn
    · exact h.near y hy
  held := fun y hy => by
    rcases (mem_put cmpI_ok h.srt).1 hy with rfl | ⟨hy, _⟩
    · exact hd
    · exact h.held y hy
  len := by have := len_put (cmp := cmpI) (key := Item.key) x l; have := h.len; omega
  ltx := by simp [h.ltx]
  lth := by simp [h.lth]
  is := fun j hj => by
    have hi := h.is j hj
    rw [get_put cmpI_ok h.srt]
    by_cases e : k = j
    · subst e
      rw [if_pos hx]
      simp [h.ltx, h.lth, hk]
    · have e' : ¬ x.key = (j : Int) := by omega
      rw [if_neg e', List.getElem?_set_ne e, List.getElem?_set_ne e]
      exact hi
end Go.Evl.Zone

namespace Go.Evl.Zone
open Go Go.Evl Go.Evl.Fl
variable {P : Program}
structure NCA (P : Program) : Prop where
  told : ans (env P) 13 [] = some (bv true)
  pR : ans (env P) 5 [] = some (.agg (nsP rootN))
  pU : ∀ n, n ≤ 60 → ans (env P) 32 [lv (kn0 n), .im [] false] = some (lv (kn0 n))
  pM : ∀ n, n ≤ 60 → ans (env P) 74 [lv (rw0 n), .im [] false] = some (lv (rw0 n))
  pK : ans (env P) 33 [.im [] false] = some (.im [] false)
  pF : ∀ n, n ≤ 60 → ans (env P) 38 [lv (kn0 n)] = some (lv (vc0 n))
  pP : ∀ n, n ≤ 59 → ans (env P) 37 [lv (rw0 n), sv id0, lv (vc0 (n + 1))] = some (lv (rw0 (n + 1)))
  pA : ∀ n, n ≤ 59 → ans (env P) 65 [lv (kn0 n), sv id0, iv ((n : Int) + 1)] = some (lv (kn0 (n + 1)))
section
variable {n : Nat} {l : List Item} {tx : List Bytes} {th : List Bool}
theorem naCopied {s : Nat} (C : NCA P) {m r : Nat} (hl : l.length ≤ 61) (hm : m ≤ 60) (hr : r ≤ 60) : ans (env P) 35 [.agg (nsP ⟨id0, 0, 0, (s : Int), (s : Int), kn0 m, [], [], l, all1, [id0], [], rw0 r⟩)] = some (.agg (nsP ⟨id0, 0, 0, (s : Int), (s : Int), kn0 m, [], [], l, all1, [id0], [], rw0 r⟩)) :=
  copiedG ⟨by simp, by simp, by simp only; unfold most; omega, by simp [all1, most], by simp [most], by simp⟩ (C.pU m hm) (C.pM r hr)
theorem naAll (C : NCA P) (hn : n ≤ 60) {s r : Nat} : ans (env P) 12 [.agg (nsP ⟨id0, 0, 0, (s : Int), (s : Int), kn0 n, [], [], l, all1, [id0], [], rw0 r⟩)] = some (lv (kn0 n)) :=
  allG (s := ⟨id0, 0, 0, (s : Int), (s : Int), kn0 n, [], [], l, all1, [id0], [], rw0 r⟩) (G := []) (A := kn0 n) C.pK (C.pU n hn)
theorem naEvent (C : NCA P) (T : TB P) (h : AI n l tx th) (hn : n ≤ 59) {x : Item} : ans (env P) 28 [.agg (nsP (na n l)), .agg (itP x)] = some (.tup [.agg (nsP (na (n + 1) (putA cmpI Item.key (mine (na n l) x) l))), iv 0]) := by
  have ec : ((n + 1 : Nat) : Int) = (n : Int) + 1 := by omega
  have hlen := h.len
  have hp := storePut_ans (P := P) T (x := mine (na n l) x) h.srt (by unfold most; omega)
  rw [AI.put h (x := mine (na n l) x) rfl] at hp
  have hl1 := len_put (cmp := cmpI) (key := Item.key) (mine (na n l) x) l
  refine eventG (s := na n l) (K' := kn0 (n + 1)) (S' := putA cmpI Item.key (mine (na n l) x) l) (b := true) (by simp [na]; omega) (by simp [na]; omega) (by simp [na]) (by simp [na]) (naCopied C (by omega) (by omega) (by omega)) (C.pA n hn) hp ?_
  have hs := settleG (P := P) (s := ⟨id0, 0, 0, ((n + 1 : Nat) : Int), ((n + 1 : Nat) : Int), kn0 (n + 1), [], [], putA cmpI Item.key (mine (na n l) x) l, all1, [id0], [], rw0 n⟩) (A := kn0 (n + 1)) (F := vc0 (n + 1)) (R := rw0 (n + 1)) (naCopied C (by omega) (by omega) (by omega)) (naAll C (by omega)) (C.pF (n + 1) (by omega)) (C.pP n hn)
  simp only [na, ec] at hs ⊢
  exact hs
def wIt (n : Nat) (k : Nat) (x y : Int) (t : Bytes) : Item := ⟨k, id0, (n : Int) + 1, (n : Int) + 1, false, x, y, t, true⟩
def dIt (n : Nat) (k : Nat) : Item := ⟨k, id0, (n : Int) + 1, (n : Int) + 1, true, 0, 0, [], false⟩
theorem naDelete1 (C : NCA P) (T : TB P) (h : AI n l tx th) (hn : n ≤ 59) {k : Nat} (hk : k < 32) (ht : th[k]? = some true) : ans (env P) 6 [.agg (nsP (na n l)), iv k] = some (.tup [.agg (nsP (na (n + 1) (putA cmpI Item.key (dIt n k) l))), iv 0]) := by
  have hi := (h.is k hk).2
  rw [ht] at hi
  cases hg : getA Item.key l (k : Int) with
  | none => rw [hg] at hi; simp at hi
  | some x =>
    rw [hg] at hi
    have hd : x.dead = false := by simpa using hi
    have g := thereG (P := P) (s := na n l) T rfl (k := (k : Int)) (by omega) h.srt (by have := h.len; simp only [na]; unfold most; omega)
    simp only [na] at g
    rw [hg] at g
    simp only [hd, Bool.false_eq_true, if_false] at g
    exact deleteG (s := na n l) (x := x) g (naEvent C T h hn (x := ⟨k, [], 0, 0, true, 0, 0, [], false⟩)) rfl
theorem naDelete0 (T : TB P) (h : AI n l tx th) (hn : n ≤ 60) {k : Nat} (hk : k < 32) (ht : th[k]? = some false) : ans (env P) 6 [.agg (nsP (na n l)), iv k] = some (.tup [.agg (nsP (na n l)), iv 11]) := by
  have hi := (h.is k hk).2
  rw [ht] at hi
  have g := thereG (P := P) (s := na n l) T rfl (k := (k : Int)) (by omega) h.srt (by have := h.len; simp only [na]; unfold most; omega)
  refine deleteN (s := na n l) (by decide) rfl ?_
  rw [g]
  simp only [na]
  cases hg : getA Item.key l (k : Int) with
  | none => rfl
  | some x =>
    rw [hg] at hi
    have hd : x.dead = true := by simpa using hi
    simp [hd]
theorem all1_has {x y : Int} (h : (-1000 ≤ x ∧ x ≤ 1000) ∧ (-1000 ≤ y ∧ y ≤ 1000)) : zoneHas (toSI all1) x y = true := by
  have hx : near x = true := by simp [near]; omega
  have hy : near y = true := by simp [near]; omega
  simp only [zoneHas, hx, hy, Bool.and_self, Bool.and_true, Bool.and_eq_true]
  exact ⟨by decide, rfl⟩
theorem all1_ans (T : TB P) {x y : Int} (h : (-1000 ≤ x ∧ x ≤ 1000) ∧ (-1000 ≤ y ∧ y ≤ 1000)) : ans (env P) 30 [.im (stepsV (toSI all1)) false, cw x y] = some (bv true) ∧ ans (env P) 29 [cw x y] = some (bv true) := by
  have ha : Is (FloatKind.f64.nearest x) x := Is.nearest (lt53 (by omega))
  have hb : Is (FloatKind.f64.nearest y) y := Is.nearest (lt53 (by omega))
  have hin : ∀ q ∈ all1, q.inB := fun q hq => by simp [all1] at hq; subst hq; exact ⟨by decide, by decide, by decide, by decide⟩
  have hx : near x = true := by simp [near]; omega
  have hy : near y = true := by simp [near]; omega
  have z4 := zoneHas_ans (P := P) (si_ok hin) ha hb
  have z6 := whole_is (P := P) ha hb
  rw [all1_has h] at z4
  rw [hx, hy] at z6
  exact ⟨z4, z6⟩
theorem naWrite (C : NCA P) (T : TB P) (h : AI n l tx th) (hn : n ≤ 59) {k : Nat} (hk : k < 32) {x y : Int} {t : Bytes} (ht : t.length ≤ 16) (hx : (-1000 ≤ x ∧ x ≤ 1000) ∧ (-1000 ≤ y ∧ y ≤ 1000)) : ans (env P) 7 [.agg (nsP (na n l)), iv k, cw x y, sv t] = some (.tup [.agg (nsP (na (n + 1) (putA cmpI Item.key (wIt n k x y t) l))), iv 0]) := by
  obtain ⟨z1, z2⟩ := all1_ans (P := P) T hx
  exact writeG (s := na n l) rfl (by omega) ht z2 z1 (naEvent C T h hn (x := ⟨k, [], 0, 0, false, x, y, t, true⟩))
theorem naRead (T : TB P) (h : AI n l tx th) (hn : n ≤ 60) {k : Nat} (hk : k < 32) : ∃ (t : Bytes) (b : Bool), tx[k]? = some t ∧ th[k]? = some b ∧ ans (env P) 10 [.agg (nsP (na n l)), iv k] = some (.tup [sv t, iv (if b = true then 0 else 11)]) := by
  have g := readG (P := P) (s := na n l) T rfl (k := (k : Int)) (by omega) h.srt (by have := h.len; simp only [na]; unfold most; omega) (z := fun _ => true) (fun x hx => (all1_ans T (h.near x hx)).1)
  obtain ⟨i1, i2⟩ := h.is k hk
  simp only [na] at g
  cases hg : getA Item.key l (k : Int) with
  | none =>
    rw [hg] at g i1 i2
    exact ⟨[], false, i1, i2, g⟩
  | some x =>
    rw [hg] at g i1 i2
    cases hd : x.dead with
    | true =>
      simp only [hd, if_true, Bool.not_true] at g i1 i2
      exact ⟨[], false, i1, i2, g⟩
    | false =>
      have hh := h.held x (get_mem hg).1 hd
      simp only [hd, hh, Bool.false_eq_true, Bool.true_eq_false, if_false, Bool.not_false] at g i1 i2
      exact ⟨x.text, true, i1, i2, g⟩
theorem AI.same (h : AI n l tx th) {k : Nat} (hk : k < 32) (ht : th[k]? = some false) : AI n l (tx.set k []) (th.set k false) where
  srt := h.srt
  key := h.key
  stamp := h.stamp
  near := h.near
  held := h.held
  len := h.len
  ltx := by simp [h.ltx]
  lth := by simp [h.lth]
  is := fun j hj => by
    have hi := h.is j hj
    by_cases e : k = j
    · subst e
      rw [ht] at hi
      rw [List.getElem?_set_self (by rw [h.ltx]; exact hk), List.getElem?_set_self (by rw [h.lth]; exact hk)]
      cases hg : getA Item.key l (k : Int) with
      | none => simp
      | some x =>
        rw [hg] at hi
        have hd : x.dead = true := by simpa using hi.2
        simp [hd]
    · rw [List.getElem?_set_ne e, List.getElem?_set_ne e]
      exact hi
end
end Go.Evl.Zone

namespace Go.Evl.Zone
open Go Go.Evl Go.Evl.Fl
variable {P : Program}
def txV (l : List Bytes) : List PV := l.map fun t => sv t
def thV (l : List Bool) : List PV := l.map fun b => bv b
@[simp] theorem txV_len (l : List Bytes) : (txV l).length = l.length := by simp [txV]
@[simp] theorem thV_len (l : List Bool) : (thV l).length = l.length := by simp [thV]
def opsV (l : List NOp) : List (List PV) := l.map opC
@[simp] theorem opsV_len (l : List NOp) : (opsV l).length = l.length := by simp [opsV]
def kOf (q : NOp) : Nat := (q.key % 32).toNat
theorem kOf_lt (q : NOp) : kOf q < 32 := by unfold kOf; omega
theorem kOf_cast (q : NOp) : q.key % 32 = ((kOf q : Nat) : Int) := by unfold kOf; omega
@[simp] theorem allLen_opC : ∀ l : List NOp, allLen 8 (opsV l) = true
  | [] => rfl
  | q :: l => by
    have := allLen_opC l
    simp_all [allLen, opsV]
theorem take1_drop {α : Type} {l : List α} {i : Nat} {a : α} (h : l[i]? = some a) : List.take 1 (List.drop i l) = [a] := by
  obtain ⟨hi, rfl⟩ := List.getElem?_eq_some_iff.1 h
  rw [List.drop_eq_getElem_cons hi]; rfl
theorem txV_set {k : Nat} {l : List Bytes} {a : Bytes} (h : k < l.length) : List.take k (txV l) ++ sv a :: List.drop (k + 1) (txV l) = txV (l.set k a) := by
  unfold txV
  rw [List.map_set, List.set_eq_take_append_cons_drop, if_pos (by simpa using h)]
theorem thV_set {k : Nat} {l : List Bool} {a : Bool} (h : k < l.length) : List.take k (thV l) ++ bv a :: List.drop (k + 1) (thV l) = thV (l.set k a) := by
  unfold thV
  rw [List.map_set, List.set_eq_take_append_cons_drop, if_pos (by simpa using h)]
structure At13 (ops : List NOp) (n i : Nat) (l : List Item) (tx : List Bytes) (th : List Bool) (st : St) : Prop where
  s0 : st.σ 0 = .im (opsV ops) false
  s3 : st.σ 3 = .ptr 0 0
  s4 : st.σ 4 = .ptr 1 0
  s5 : st.σ 5 = .ptr 2 0
  s6 : st.σ 6 = iv n
  s7 : st.σ 7 = iv i
  h0 : st.h.at_ 0 = .box (nsP (na n l))
  h1 : st.h.at_ 1 = .box (txV tx)
  h2 : st.h.at_ 2 = .box (thV th)
  hn : 2 < st.h.n
theorem alone_loop (T : TB P) (C : NCA P) {ops : List NOp} {ks : List Fr'} {K : Ex → St → Prop} : ∀ (rest : List NOp) (i n : Nat) (l : List Item) (tx : List Bytes) (th : List Bool) (st : St), ops.drop i = rest → i ≤ ops.length → n ≤ i → i ≤ 60 → AI n l tx th → At13 ops n i l tx th st →
    (∀ st' n l tx th i', n ≤ 60 → AI n l tx th → At13 ops n i' l tx th st' → VN (env P) 3 st' ks K) → V (env P) 3 (.loop L3_0) st (.blk 0 :: ks) K
  | [], i, n, l, tx, th, st, hr, hile, hni, hi60, hA, hS, hend => by
    obtain ⟨hii, hlt, hd⟩ := drop_nil hr hile
    obtain ⟨s0, s3, s4, s5, s6, s7, h0, h1, h2, hn⟩ := hS
    rw [V_loop]
    simp [L3_0, s0, s7, hlt]
    exact hend _ n l tx th i (by omega) hA ⟨by simp [s0], by simp [s3], by simp [s4], by simp [s5], by simp [s6], by simp [s7], by simp [h0]; omega, by simp [h1]; omega, by simp [h2]; omega, by simpa using hn⟩
  | q :: rest, i, n, l, tx, th, st, hr, hile, hni, hi60, hA, hS, hend => by
    obtain ⟨hq, hlt, hr', _⟩ := drop_cons hr
    have hS' := hS
    obtain ⟨s0, s3, s4, s5, s6, s7, h0, h1, h2, hn⟩ := hS
    rw [V_loop]
    by_cases h60 : i < 60
    · have hc : ∀ h : i < (opsV ops).length, (opsV ops)[i]'h = opC q := fun h => Option.some.inj (by rw [← List.getElem?_eq_getElem h]; simp [opsV, hq])
      have hi60' : (i : Int) < 60 := by omega
      have n0 : 0 < st.h.n := by omega
      have n1 : 1 < st.h.n := by omega
      have q0 : ¬ st.h.n = 0 := by omega
      have q0' : ¬ 0 = st.h.n := by omega
      have q1 : ¬ st.h.n = 1 := by omega
      have q1' : ¬ 1 = st.h.n := by omega
      have q2 : ¬ st.h.n = 2 := by omega
      have q2' : ¬ 2 = st.h.n := by omega
      have m0 : 0 < st.h.n + 1 := by omega
      have m1 : 1 < st.h.n + 1 := by omega
      have m2 : 2 < st.h.n + 1 := by omega
      have hw := wrapS (i := i) (by omega)
      have hw2 := wrapS (i := n) (by omega)
      have hk := kOf_lt q
      have hk' : (kOf q : Int) < 32 := by omega
      have lth := hA.lth
      have ltx := hA.ltx
      have T0 : Typed P := T.toTI.toTyped3.toTyped2.toTyped
      have e3 : ∀ n : Int, scal P (Go.convert 3 40 (.int .i64 n)) = some (.val (.int .u64 (n % 18446744073709551616))) := fun n => by
        rw [cv_ii (k := .u64) (by show (P.underlying 3).isSome = true; rw [T0.t3]; rfl) T0.t53, wrapU64]
      have e4 : ∀ n : Nat, n < 32 → scal P (Go.convert 40 3 (.int .u64 (n : Int))) = some (.val (.int .i64 (n : Int))) := fun n h => by
        rw [cv_ii (k := .i64) (by show (P.underlying 40).isSome = true; rw [T0.t53]; rfl) T0.t3, wrap64_id (by omega)]
      have e5 : ∀ n : Int, (n % 18446744073709551616).tmod 32 = n % 32 := fun n => by rw [tmod_pos (by omega) (by omega)]; omega
      have e4' := e4 (kOf q) hk
      have hbn : ∀ a b : Bool, evBin P .neq 4 false false (bv a) (bv b) = some (bv (a != b)) := fun a b => evBin_bneq T.toTI.t4
      have e6 := kOf_cast q
      by_cases hk0 : q.kind.tmod 3 = 0
      · obtain ⟨b, hb⟩ : ∃ b, th[kOf q]? = some b := ⟨th[kOf q]'(by rw [hA.lth]; exact hk), List.getElem?_eq_getElem _⟩
        have hb' := take1_drop (l := thV th) (i := kOf q) (a := bv b) (by simp [thV, hb])
        have hk3 : kOf q ≤ 31 := by omega
        cases b with
        | true =>
          have kd := naDelete1 C T hA (by omega) hk hb
          simp [L3_0, s0, s3, s4, s5, s6, s7, h0, h1, h2, hn, hlt, hi60', hc, e3, e4', e5, e6, hk0, kd, hb', hbn, hw, hw2, hk, hk', hk3, lth, ltx, n0, n1, q0, q0', q1, q1', q2, q2', m0, m1, m2]
          refine alone_loop T C rest (i + 1) (n + 1) (putA cmpI Item.key (dIt n (kOf q)) l) (tx.set (kOf q) []) (th.set (kOf q) false) _ hr' (by omega) (by omega) (by omega) (AI.step hA (x := dIt n (kOf q)) hk rfl rfl (by simp [dIt]) (by simp [dIt])) ⟨by simp [s0], by simp [s3], by simp [s4], by simp [s5], by simp, by simp, ?_, ?_, ?_, by simp; omega⟩ hend
          · simp [q0, q0', n0, m0, h0]
          · simp [q1, q1', n1, m1, h1]; exact txV_set (a := []) (by omega)
          · simp [q2, q2', hn, m2, h2]; exact thV_set (a := false) (by omega)
        | false =>
          have kd := naDelete0 (P := P) T hA (by omega) hk hb
          simp [L3_0, s0, s3, s4, s5, s6, s7, h0, h1, h2, hn, hlt, hi60', hc, e3, e4', e5, e6, hk0, kd, hb', hbn, hw, hw2, hk, hk', hk3, lth, ltx, n0, n1, q0, q0', q1, q1', q2, q2', m0, m1, m2]
          refine alone_loop T C rest (i + 1) n l (tx.set (kOf q) []) (th.set (kOf q) false) _ hr' (by omega) (by omega) (by omega) (AI.same hA hk hb) ⟨by simp [s0], by simp [s3], by simp [s4], by simp [s5], by simp [s6], by simp, ?_, ?_, ?_, by simp; omega⟩ hend
          · simp [q0, q0', n0, m0, h0]
          · simp [q1, q1', n1, m1, h1]; exact txV_set (a := []) (by omega)
          · simp [q2, q2', hn, m2, h2]; exact thV_set (a := false) (by omega)
      · have k1 := refSpot_ans (P := P) T0 (x := q.x) (y := q.y)
        have k2 := spot_ans (P := P) T0 (x := spotN q.x) (y := spotN q.y)
        have b1 := spotN_near q.x
        have hk3 : kOf q ≤ 31 := by omega
        have b2 := spotN_near q.y
        have kw := naWrite C T hA (by omega) hk (x := spotN q.x) (y := spotN q.y) (t := q.text.take 16) (by simp; omega) (by simp [near] at b1 b2; omega)
        have hs := sv_size (l := q.text)
        have hmn : ∀ (ts : Array TypeId) (t : TypeId), evFun P .min ts t [.int .i64 q.text.length, .int .i64 16] = some (iv ((min q.text.length 16 : Nat) : Int)) := fun ts t => by
          have : evFun P .min ts t [.int .i64 q.text.length, .int .i64 16] = some (.val (.int .i64 (if (16 : Int) < q.text.length then 16 else q.text.length))) := rfl
          rw [this]
          congr 3
          split <;> omega
        have hsl : ∀ H, sliceP H 0 (sv q.text) none (some (min q.text.length 16)) none = some (sv (q.text.take 16), []) := fun H => by
          have h1 : min q.text.length 16 ≤ q.text.length := by omega
          have h2 : (⟨q.text.toArray⟩ : ByteArray).size = q.text.length := by simp [ByteArray.size]
          have h3 : (⟨q.text.toArray⟩ : ByteArray).extract 0 (min q.text.length 16) = ⟨(q.text.take 16).toArray⟩ := by
            apply ByteArray.ext
            simp
            omega
          simp only [sliceP, Option.getD_none, Option.getD_some, h2]
          rw [if_pos ⟨trivial, by omega, h1⟩, h3]
        simp only [placeV, cw, fw] at k1 k2 kw
        simp [L3_0, s0, s3, s4, s5, s6, s7, h0, h1, h2, hn, hlt, hi60', hc, e3, e4', e5, e6, hk0, k1, k2, kw, hs, hmn, hsl, hw, hw2, hk, hk', hk3, lth, ltx, n0, n1, q0, q0', q1, q1', q2, q2', m0, m1, m2]
        have hA2 := AI.step hA (x := wIt n (kOf q) (spotN q.x) (spotN q.y) (q.text.take 16)) hk rfl rfl (by simp [near] at b1 b2; simp [wIt]; omega) (by simp [wIt])
        generalize hX : putA cmpI Item.key (wIt n (kOf q) (spotN q.x) (spotN q.y) (q.text.take 16)) l = X at *
        refine alone_loop T C rest (i + 1) (n + 1) X (tx.set (kOf q) (q.text.take 16)) (th.set (kOf q) true) _ hr' (by omega) (by omega) (by omega) hA2 ⟨by simp [s0], by simp [s3], by simp [s4], by simp [s5], by simp, by simp, ?_, ?_, ?_, by simp; omega⟩ hend
        · simp [q0, q0', n0, m0, h0]
        · simp [q1, q1', n1, m1, h1]; exact txV_set (by omega)
        · simp [q2, q2', hn, m2, h2]; exact thV_set (a := true) (by omega)
    · have h60' : ¬ (i : Int) < 60 := by omega
      simp [L3_0, s0, s7, hlt, h60']
      exact hend _ n l tx th i (by omega) hA ⟨by simp [s0], by simp [s3], by simp [s4], by simp [s5], by simp [s6], by simp [s7], by simp [h0]; omega, by simp [h1]; omega, by simp [h2]; omega, by simpa using hn⟩
structure At13b (n i : Nat) (l : List Item) (tx : List Bytes) (th : List Bool) (st : St) : Prop where
  s3 : st.σ 3 = .ptr 0 0
  s4 : st.σ 4 = .ptr 1 0
  s5 : st.σ 5 = .ptr 2 0
  s6 : st.σ 6 = iv n
  s14 : st.σ 14 = iv i
  h0 : st.h.at_ 0 = .box (nsP (na n l))
  h1 : st.h.at_ 1 = .box (txV tx)
  h2 : st.h.at_ 2 = .box (thV th)
  hn : 2 < st.h.n
theorem alone_read (T : TB P) {n : Nat} {l : List Item} {tx : List Bytes} {th : List Bool} (hA : AI n l tx th) (hn60 : n ≤ 60) {ks : List Fr'} {K : Ex → St → Prop} : ∀ (m i : Nat) (st : St), i + m = 32 → At13b n i l tx th st →
    (∀ st', At13b n 32 l tx th st' → VN (env P) 3 st' ks K) → V (env P) 3 (.loop L3_1) st (.blk 2 :: ks) K
  | 0, i, st, hm, hS, hend => by
    obtain ⟨s3, s4, s5, s6, s14, h0, h1, h2, hn⟩ := hS
    have e : i = 32 := by omega
    subst e
    rw [V_loop]
    simp [L3_1, s14]
    exact hend _ ⟨by simp [s3], by simp [s4], by simp [s5], by simp [s6], by simp [s14], by simp [h0]; omega, by simp [h1]; omega, by simp [h2]; omega, by simpa using hn⟩
  | m + 1, i, st, hm, hS, hend => by
    obtain ⟨s3, s4, s5, s6, s14, h0, h1, h2, hn⟩ := hS
    have hi : i < 32 := by omega
    obtain ⟨t, b, ht, hb, kr⟩ := naRead T hA hn60 hi
    have hi' : (i : Int) < 32 := by omega
    have hi3 : i ≤ 31 := by omega
    have n0 : 0 < st.h.n := by omega
    have n1 : 1 < st.h.n := by omega
    have lth := hA.lth
    have ltx := hA.ltx
    have hw := wrapS (i := i) (by omega)
    have hb' := take1_drop (l := thV th) (i := i) (a := bv b) (by simp [thV, hb])
    have ht' := take1_drop (l := txV tx) (i := i) (a := sv t) (by simp [txV, ht])
    have hbn : ∀ a b : Bool, evBin P .neq 4 false false (bv a) (bv b) = some (bv (a != b)) := fun a b => evBin_bneq T.toTI.t4
    rw [V_loop]
    cases b with
    | true =>
      simp only [if_true] at kr
      simp [L3_1, s3, s4, s5, s6, s14, h0, h1, h2, hn, hi, hi', hi3, n0, n1, lth, ltx, hw, hb', ht', hbn, evBin_sneq, kr]
      refine alone_read T hA hn60 m (i + 1) _ (by omega) ⟨by simp [s3], by simp [s4], by simp [s5], by simp [s6], by simp, by simp [h0]; omega, by simp [h1]; omega, by simp [h2]; omega, by simpa using hn⟩ hend
    | false =>
      simp only [Bool.false_eq_true, if_false] at kr
      simp [L3_1, s3, s4, s5, s6, s14, h0, h1, h2, hn, hi, hi', hi3, n0, n1, lth, ltx, hw, hb', ht', hbn, evBin_sneq, kr]
      refine alone_read T hA hn60 m (i + 1) _ (by omega) ⟨by simp [s3], by simp [s4], by simp [s5], by simp [s6], by simp, by simp [h0]; omega, by simp [h1]; omega, by simp [h2]; omega, by simpa using hn⟩ hend
theorem alone_ans (T : TB P) (C : NCA P) {ops : List NOp} : ans (env P) 3 [.im (opsV ops) false] = some (bv true) := by
  have kR := C.pR
  have told := C.told
  have e0 : nsP rootN = nsP (na 0 []) := rfl
  rw [e0] at kR
  refine ans_V rfl rfl ?_
  simp [c3, kR]
  refine alone_loop T C ops 0 0 [] (List.replicate 32 []) (List.replicate 32 false) _ rfl (by omega) (by omega) (by omega) AI.begin ⟨by simp, by simp, by simp, by simp, by simp, by simp, by simp, by simp; rfl, by simp; rfl, by simp⟩ ?_
  intro st n l tx th i hn hA hS
  obtain ⟨s0, s3, s4, s5, s6, s7, h0, h1, h2, hn2⟩ := hS
  simp
  refine alone_read T hA hn 32 0 _ (by omega) ⟨by simp [s3], by simp [s4], by simp [s5], by simp [s6], by simp, by simp [h0]; omega, by simp [h1]; omega, by simp [h2]; omega, by simpa using hn2⟩ ?_
  intro st' hS
  obtain ⟨s3, s4, s5, s6, s14, h0, h1, h2, hn2⟩ := hS
  have n0 : 0 < st'.h.n := by omega
  have kA := naAll (l := l) C hn (s := n) (r := n)
  have kF := from4_ans (P := P) (v := kn0 n) (by cases n <;> simp [kn0]) (by cases n <;> simp [kn0, most])
  change ans (env P) _ [.agg (nsP (na n l))] = _ at kA
  cases n with
  | zero =>
    simp only [kn0, lv, En_nil] at kA kF
    simp [s3, s4, s5, s6, s14, h0, n0, kA, kF, told]
    simp [nsP, na, s3, s4, s5, s6, s14, h0, n0, kA, kF, told]
  | succ n =>
    have ec : ((n + 1 : Nat) : Int) = (n : Int) + 1 := by omega
    have u1 : ¬ (n : Int) + 1 = 0 := by omega
    have u2 : (0 : Int) < (n : Int) + 1 := by omega
    have u3 : evBin P .eql 9 false true (sv id0) (.val (.string ⟨#[48]⟩)) = some (bv true) := by
      rw [show evBin P .eql 9 false true (sv id0) (.val (.string ⟨#[48]⟩)) = some (.val (.bool (decide (id0 = id0)))) from evBin_seql id0 id0]
      simp
    simp only [kn0, lv, ec, En_one, Enc_KRow, En_nil] at kA kF
    simp [s3, s4, s5, s6, s14, h0, n0, kA, kF, told]
    simp [nsP, na, s3, s4, s5, s6, s14, h0, n0, kA, kF, told, u1, u2, u3, allLen]
end Go.Evl.Zone

namespace Go.Evl.Zone
open Go Go.Evl
set_option maxRecDepth 1000000
theorem of_map {α : Type} {f g : Nat → α} {m : Nat} (h : (List.range m).map f = (List.range m).map g) : ∀ n, n < m → f n = g n := fun n hn => List.map_inj_left.1 h n (List.mem_range.2 hn)
theorem a_told : runF 13 c13 [] = some (some (.val (.bool true))) := by kernel_rfl
theorem a_pR : runF 5 c5 [] = some (some (.agg (nsP rootN))) := by kernel_rfl
theorem a_pK : runF 33 c33 [.im [] false] = some (some (.im [] false)) := by kernel_rfl
theorem a_pU : (List.range 61).map (fun n => runF 32 c32 [lv (kn0 n), .im [] false]) = (List.range 61).map fun n => some (some (lv (kn0 n))) := by kernel_rfl
theorem a_pM : (List.range 61).map (fun n => runF 74 c74 [lv (rw0 n), .im [] false]) = (List.range 61).map fun n => some (some (lv (rw0 n))) := by kernel_rfl
theorem a_pF : (List.range 61).map (fun n => runF 38 c38 [lv (kn0 n)]) = (List.range 61).map fun n => some (some (lv (vc0 n))) := by kernel_rfl
theorem a_pP : (List.range 60).map (fun n => runF 37 c37 [lv (rw0 n), sv id0, lv (vc0 (n + 1))]) = (List.range 60).map fun n => some (some (lv (rw0 (n + 1)))) := by kernel_rfl
theorem a_pA : (List.range 60).map (fun n : Nat => runF 65 c65 [lv (kn0 n), sv id0, iv ((n : Int) + 1)]) = (List.range 60).map fun n => some (some (lv (kn0 (n + 1)))) := by kernel_rfl
theorem nCA : NCA Proofs.Tryz.prog where
  told := ans_run rfl a_told
  pR := ans_run rfl a_pR
  pK := ans_run rfl a_pK
  pU := fun n h => ans_run rfl (of_map a_pU n (by omega))
  pM := fun n h => ans_run rfl (of_map a_pM n (by omega))
  pF := fun n h => ans_run rfl (of_map a_pF n (by omega))
  pP := fun n h => ans_run rfl (of_map a_pP n (by omega))
  pA := fun n h => ans_run rfl (of_map a_pA n (by omega))
end Go.Evl.Zone

namespace Go.Evl.Zone
open Go Go.Evl Go.Evl.Zone Go.Proofs Go.RowKit Go.ChangeShapes Go.WideShapes Go.ChangeAt
set_option maxRecDepth 100000
theorem tB : TB P0 where
  toTI := tI
  tu := Tryz.underlying238
theorem fit_ops {n : Nat} {p : PV} (h : FitV P0 (n + 5) 22 p) : ∃ l : List NOp, p = .im (opsV l) false := by
  unfold FitV at h
  rw [Tryz.underlying22] at h
  obtain ⟨l, e, _⟩ := fit_sl (f := opC) (Q := fun _ => True) Tryz.underlying22 (fun ps h => let ⟨q, e⟩ := fit_opL h; ⟨q, e, trivial⟩) (show Fit P0 (n + 5) 22 [p] from h)
  exact ⟨l, by simpa [opsV] using e⟩
end Go.Evl.Zone
