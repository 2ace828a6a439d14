/- The evaluator's texts CEnc to CTake3, joined. -/
import Derived.Test.YtmhcmcpijmogfaaGreatDoorEv4
set_option linter.all false
set_option linter.deprecated false
set_option linter.unusedVariables false
set_option linter.unusedSimpArgs false
set_option linter.unnecessarySimpa false
namespace Go.Evl.Zone
open Go Go.Evl
variable {P : Program}
abbrev Bytes := List UInt8
abbrev iv (n : Int) : PV := .val (.int .i64 n)
abbrev bv (b : Bool) : PV := .val (.bool b)
class Enc (α : Type) where
  c : α → List PV
  k : Nat
  len : ∀ a, (c a).length = k
  pl : ∀ a, plains (c a) = some (c a)
def En {α : Type} [Enc α] (l : List α) : List (List PV) := l.map Enc.c
abbrev lv {α : Type} [Enc α] (l : List α) : PV := .im (En l) false
section
variable {α : Type} [Enc α]
@[simp] theorem En_length (l : List α) : (En l).length = l.length := by simp [En]
@[simp] theorem En_nil : En ([] : List α) = [] := rfl
theorem En_cons (a : α) (l : List α) : En (a :: l) = Enc.c a :: En l := rfl
theorem En_append (a b : List α) : En (a ++ b) = En a ++ En b := by simp [En]
theorem En_one (a : α) : En [a] = [Enc.c a] := rfl
@[simp] theorem allLen_En {k : Nat} (h : Enc.k α = k) (l : List α) : allLen k (En l) = true := by
  rw [allLen_iff]
  intro x hx
  simp only [En, List.mem_map] at hx
  obtain ⟨a, _, rfl⟩ := hx
  rw [Enc.len, h]
theorem plainss_En (l : List α) : plainss (En l) = some (En l) := plainss_ok fun y hy => by
  simp only [En, List.mem_map] at hy
  obtain ⟨a, _, rfl⟩ := hy
  exact Enc.pl a
theorem En_at {l : List α} {i : Nat} {q : α} (h : l[i]? = some q) : ∀ hi, (En l)[i]'hi = Enc.c q := fun hi => by
  have h2 := (List.getElem?_eq_some_iff.1 h).2
  simp only [En, List.getElem_map, h2]
theorem En_at? {l : List α} {i : Nat} {q : α} (h : l[i]? = some q) : (En l)[i]? = some (Enc.c q) := by simp [En, h]
theorem En_take (l : List α) (n : Nat) : (En l).take n = En (l.take n) := by simp [En, List.map_take]
theorem En_drop (l : List α) (n : Nat) : (En l).drop n = En (l.drop n) := by simp [En, List.map_drop]
end
instance : Enc Int := ⟨fun n => [iv n], 1, fun _ => rfl, fun _ => rfl⟩
instance : Enc UInt8 := ⟨fun b => [.val (.int .u8 (b.toNat : Int))], 1, fun _ => rfl, fun _ => rfl⟩
instance : Enc Bytes := ⟨fun s => [sv s], 1, fun _ => rfl, fun _ => rfl⟩
@[simp] theorem Enc_Int (n : Int) : Enc.c n = [iv n] := rfl
@[simp] theorem Enc_u8 (b : UInt8) : Enc.c b = [.val (.int .u8 (b.toNat : Int))] := rfl
@[simp] theorem Enc_Bytes (s : Bytes) : Enc.c s = [sv s] := rfl
@[simp] theorem Enc_kInt : Enc.k Int = 1 := rfl
@[simp] theorem Enc_ku8 : Enc.k UInt8 = 1 := rfl
@[simp] theorem Enc_kBytes : Enc.k Bytes = 1 := rfl
theorem bytesC_En (s : Bytes) : bytesC ⟨s.toArray⟩ = En s := by simp [bytesC, En]
theorem bytesOf_En : ∀ s : Bytes, bytesOf (En s) = some s
  | [] => rfl
  | b :: s => by
    rw [En_cons, bytesOf, bytesOf_En s]
    simp [byteOf?]
theorem get_at {α : Type} {l : List α} {i : Nat} {q : α} (h : l[i]? = some q) : ∀ hi, l[i]'hi = q := fun _ => (List.getElem?_eq_some_iff.1 h).2
end Go.Evl.Zone

namespace Go.Evl.Zone
open Go Go.Evl
variable {P : Program}
def dig19 (b : UInt8) : Bool := decide (49 ≤ b.toNat) && decide (b.toNat ≤ 57)
def idR : Bytes → Bool
  | [] => false
  | b :: r => decide (r.length ≤ 5) && decide (b.toNat = 48) && r.all dig19
theorem loop_r1Right {s : Bytes} {ks : List Fr'} {K : Ex → St → Prop} (hs : s.length ≤ 6) : ∀ (rest : Bytes) (i : Nat) (st : St), s.drop i = rest → i ≤ s.length → st.σ 0 = sv s → st.σ 3 = iv i →
    (∀ st', rest.all dig19 = false → st'.σ 2 = bv false → K .ret st') → (∀ st', rest.all dig19 = true → VN (env P) 111 st' ks K) → V (env P) 111 (.loop L111_0) st (.blk 0 :: ks) K
  | [], i, st, hr, hi, h0, h3, hret, hend => by
    obtain ⟨hii, hlt, ht⟩ := drop_nil hr hi
    rw [V_loop]
    simp [L111_0, h0, h3, sv_size, hlt]
    exact hend _ rfl
  | b :: rest, i, st, hr, hi, h0, h3, hret, hend => by
    obtain ⟨hq, hlt, hr', ht⟩ := drop_cons hr
    have hix := get_at hq
    have hw := wrapS (i := i) (by omega)
    rw [V_loop]
    by_cases lo : b.toNat < 49
    · have lo' : (b.toNat : Int) < 49 := by omega
      simp [L111_0, h0, h3, sv_size, hlt, hq, hix, lo, lo']
      exact hret _ (by simp [dig19]; omega) (by simp)
    · have lo' : ¬ (b.toNat : Int) < 49 := by omega
      by_cases up : 57 < b.toNat
      · have up' : (57 : Int) < (b.toNat : Int) := by omega
        simp [L111_0, h0, h3, sv_size, hlt, hq, hix, lo, lo', up, up']
        exact hret _ (by simp [dig19]; omega) (by simp)
      · have up' : ¬ (57 : Int) < (b.toNat : Int) := by omega
        have hd : dig19 b = true := by simp [dig19]; omega
        simp only [List.all_cons, hd, Bool.true_and] at hret hend
        simp [L111_0, h0, h3, sv_size, hlt, hq, hix, lo, lo', up, up', hw]
        exact loop_r1Right hs rest (i + 1) _ hr' (by omega) (by simp [h0]) (by simp) hret hend
theorem r1Right_ans {s : Bytes} : ans (env P) 111 [sv s] = some (bv (idR s)) := by
  refine ans_V rfl rfl ?_
  cases s with
  | nil => simp [c111, sv_size, idR]
  | cons b r =>
    have h1 : ¬ ((r.length : Int) + 1 < 1) := by omega
    by_cases h2 : 5 < r.length
    · have h2' : (6 : Int) < (r.length : Int) + 1 := by omega
      have h3 : ¬ r.length ≤ 5 := by omega
      simp [c111, sv_size, idR, h1, h2', h3]
    · have h2' : ¬ (6 : Int) < (r.length : Int) + 1 := by omega
      have h3 : r.length ≤ 5 := by omega
      by_cases h4 : b.toNat = 48
      · have h4' : (b.toNat : Int) = 48 := by omega
        simp [c111, sv_size, h1, h2', h4']
        refine loop_r1Right (s := b :: r) (by simp; omega) r 1 _ rfl (by simp) (by simp) (by simp) ?_ ?_
        · intro st' ha h; simp [h, idR, ha]
        · intro st' ha; simp [idR, ha, h3, h4]
      · have h4' : ¬ (b.toNat : Int) = 48 := by omega
        simp [c111, sv_size, h1, h2', h4', idR, h4]
theorem hasPrefix_ans {a b : Bytes} : ans (env P) 128 [sv a, sv b] = some (bv (decide (b <+: a))) := by
  have h : ans (env P) 163 [sv a, sv b] = some (bv (decide (b <+: a))) := by
    refine ans_V rfl rfl ?_
    have he := fun t cx cy => evBin_seql (P := P) (t := t) (cx := cx) (cy := cy) (a.take b.length) b
    by_cases hl : b.length ≤ a.length
    · have hl' : (b.length : Int) ≤ (a.length : Int) := by omega
      have hsl : ∀ H, sliceP H 0 (sv a) none (some b.length) none = some (sv (a.take b.length), []) := fun H => sv_slice (H := H) (a := 0) (b := b.length) (by omega) hl
      have hp : b <+: a ↔ a.take b.length = b := ⟨fun h => (List.prefix_iff_eq_take.1 h).symm, fun h => List.prefix_iff_eq_take.2 h.symm⟩
      simp [c163, sv_size, hl', hl, hsl, he, hp]
    · have hl' : ¬ (b.length : Int) ≤ (a.length : Int) := by omega
      have hp : ¬ b <+: a := fun h => hl h.length_le
      simp [c163, sv_size, hl', hl, hp]
  refine ans_V rfl rfl ?_
  simp [c128, h]
theorem loop_idRight {s : Bytes} {ks : List Fr'} {K : Ex → St → Prop} (hs : s.length ≤ 6) : ∀ (rest : Bytes) (i : Nat) (st : St), s.drop i = rest → i ≤ s.length → st.σ 15 = .im (En s) false → st.σ 16 = iv s.length → st.σ 17 = iv i →
    (∀ st', rest.all dig19 = false → st'.σ 2 = bv false → K .ret st') → (∀ st', rest.all dig19 = true → VN (env P) 72 st' ks K) → V (env P) 72 (.loop L72_0) st (.blk 0 :: ks) K
  | [], i, st, hr, hi, h0, h16, h3, hret, hend => by
    obtain ⟨hii, hlt, ht⟩ := drop_nil hr hi
    rw [V_loop]
    simp [L72_0, h0, h16, h3, hlt]
    exact hend _ rfl
  | b :: rest, i, st, hr, hi, h0, h16, h3, hret, hend => by
    obtain ⟨hq, hlt, hr', ht⟩ := drop_cons hr
    have hix := En_at hq
    have hw := wrapS (i := i) (by omega)
    rw [V_loop]
    by_cases lo : b.toNat ≤ 48
    · have lo' : (b.toNat : Int) ≤ 48 := by omega
      simp [L72_0, h0, h16, h3, hlt, hix, lo, lo']
      exact hret _ (by simp [dig19]; omega) (by simp)
    · have lo' : ¬ (b.toNat : Int) ≤ 48 := by omega
      by_cases up : 57 < b.toNat
      · have up' : (57 : Int) < (b.toNat : Int) := by omega
        simp [L72_0, h0, h16, h3, hlt, hix, lo, lo', up, up']
        exact hret _ (by simp [dig19]; omega) (by simp)
      · have up' : ¬ (57 : Int) < (b.toNat : Int) := by omega
        have hd : dig19 b = true := by simp [dig19]; omega
        simp only [List.all_cons, hd, Bool.true_and] at hret hend
        simp [L72_0, h0, h16, h3, hlt, hix, lo, lo', up, up', hw]
        exact loop_idRight hs rest (i + 1) _ hr' (by omega) (by simp [h0]) (by simp [h16]) (by simp) hret hend
theorem idRight_ans {s : Bytes} : ans (env P) 72 [sv s] = some (bv (idR s)) := by
  refine ans_V rfl rfl ?_
  have hp := hasPrefix_ans (P := P) (a := s) (b := [48])
  cases s with
  | nil => simp at hp; simp [c72, sv_size, idR, hp]
  | cons b r =>
    by_cases h4 : b = 48
    · subst h4
      simp at hp
      by_cases h2 : 5 < r.length
      · have h2' : (6 : Int) < (r.length : Int) + 1 := by omega
        have h3 : ¬ r.length ≤ 5 := by omega
        simp [c72, sv_size, idR, hp, h2', h3]
      · have h2' : ¬ (6 : Int) < (r.length : Int) + 1 := by omega
        have h3 : r.length ≤ 5 := by omega
        have hsl : ∀ H, sliceP H 0 (sv (48 :: r)) (some 1) none none = some (sv r, []) := by
          intro H
          have e := sv_slice (H := H) (l := 48 :: r) (a := 1) (b := r.length + 1) (by omega) (by simp)
          simp only [List.drop_succ_cons, List.drop_zero, Nat.add_sub_cancel, List.take_length] at e
          exact e
        simp [c72, sv_size, hp, h2', hsl, bytesC_En]
        refine loop_idRight (s := r) (by omega) r 0 _ rfl (by simp) (by simp [bytesC_En]) (by simp) (by simp) ?_ ?_
        · intro st' ha h; simp [h, idR, ha]
        · intro st' ha; simp [idR, ha, h3]
    · have h4' : ¬ b.toNat = 48 := fun e => h4 (UInt8.toNat_inj.1 e)
      have hp' : ¬ 48 = b := fun e => h4 e.symm
      simp [hp'] at hp
      simp [c72, sv_size, idR, hp, h4']
abbrev cmpB (a b : Bytes) : Int := Lib.compareBytes a b
theorem idCompare_ans {a b : Bytes} : ans (env P) 167 [sv a, sv b] = some (iv (cmpB a b)) := by
  refine ans_V rfl rfl ?_
  have hp := fun {dst : Option Nat} {rest : List CI} {i slot slot' : Nat} {log : Log} {d : Option (Nat × List (Nat × Nat))} {K : Ex → St → Prop} {st : St} {ks : List Fr'} {xs : List O} => VA_prim (E := env P) (f := 167) (g := 186) (p := pCompare) (dst := dst) (rest := rest) (i := i) (slot := slot) (slot' := slot') (log := log) (d := d) (K := K) (st := st) (ks := ks) (xs := xs) rfl
  simp [c167, hp, pCompare]
def big : Nat := 9223372036854775807
theorem loop_cmp {s t : Bytes} {ks : List Fr'} {K : Ex → St → Prop} (hs : s.length ≤ big) (ht : t.length ≤ big) : ∀ (rest : Bytes) (i : Nat) (st : St), s.drop i = rest → i ≤ s.length → i ≤ t.length → st.σ 0 = sv s → st.σ 1 = sv t → st.σ 5 = iv i →
    (∀ st', st'.σ 4 = iv (cmpB rest (t.drop i)) → K .ret st') → (∀ st', st'.σ 0 = sv s → st'.σ 1 = sv t → cmpB rest (t.drop i) = (if s.length < t.length then -1 else if t.length < s.length then 1 else 0) → VN (env P) 87 st' ks K) → V (env P) 87 (.loop L87_0) st (.blk 0 :: ks) K
  | [], i, st, hr, hi, hj, h0, h1, h5, hret, hend => by
    obtain ⟨hii, hlt, hd⟩ := drop_nil hr hi
    rw [V_loop]
    simp [L87_0, h0, h1, h5, sv_size, hlt]
    refine hend _ (by simp [h0]) (by simp [h1]) ?_
    by_cases h : i = t.length
    · rw [List.drop_eq_nil_of_le (by omega), if_neg (by omega), if_neg (by omega)]; rfl
    · rw [if_pos (by omega), List.drop_eq_getElem_cons (by omega)]; rfl
  | b :: rest, i, st, hr, hi, hj, h0, h1, h5, hret, hend => by
    obtain ⟨hq, hlt, hr', _⟩ := drop_cons hr
    have hix := get_at hq
    have hw := wrapS (i := i) (by unfold big at hs; omega)
    rw [V_loop]
    by_cases h : i = t.length
    · have hlt' : ¬ i < t.length := by omega
      simp [L87_0, h0, h1, h5, sv_size, hlt, hlt']
      refine hend _ (by simp [h0]) (by simp [h1]) ?_
      rw [List.drop_eq_nil_of_le (by omega), if_neg (by omega), if_pos (by omega)]; rfl
    · have hlt' : i < t.length := by omega
      have hdr : t.drop i = t[i] :: t.drop (i + 1) := List.drop_eq_getElem_cons hlt'
      have htq : t[i]? = some t[i] := List.getElem?_eq_getElem hlt'
      rw [hdr] at hret hend
      generalize t[i] = c at *
      have hix' := get_at htq
      by_cases lo : b.toNat < c.toNat
      · have lo' : (b.toNat : Int) < (c.toNat : Int) := by omega
        have lo2 : b < c := UInt8.lt_iff_toNat_lt.2 lo
        simp [L87_0, h0, h1, h5, sv_size, hlt, hlt', hq, htq, hix, hix', lo, lo']
        exact hret _ (by simp [cmpB, Lib.compareBytes, lo2])
      · have lo' : ¬ (b.toNat : Int) < (c.toNat : Int) := by omega
        have lo2 : ¬ b < c := fun x => lo (UInt8.lt_iff_toNat_lt.1 x)
        by_cases up : c.toNat < b.toNat
        · have up' : (c.toNat : Int) < (b.toNat : Int) := by omega
          have up2 : c < b := UInt8.lt_iff_toNat_lt.2 up
          simp [L87_0, h0, h1, h5, sv_size, hlt, hlt', hq, htq, hix, hix', lo, lo', up, up']
          exact hret _ (by simp [cmpB, Lib.compareBytes, lo2, up2])
        · have up' : ¬ (c.toNat : Int) < (b.toNat : Int) := by omega
          have up2 : ¬ c < b := fun x => up (UInt8.lt_iff_toNat_lt.1 x)
          have e : cmpB (b :: rest) (c :: t.drop (i + 1)) = cmpB rest (t.drop (i + 1)) := by simp [cmpB, Lib.compareBytes, lo2, up2]
          rw [e] at hret hend
          simp [L87_0, h0, h1, h5, sv_size, hlt, hlt', hq, htq, hix, hix', lo, lo', up, up', hw]
          exact loop_cmp hs ht rest (i + 1) _ hr' (by omega) (by omega) (by simp [h0]) (by simp [h1]) (by simp) hret hend
theorem r1Compare_ans {s t : Bytes} (hs : s.length ≤ big) (ht : t.length ≤ big) : ans (env P) 87 [sv s, sv t] = some (iv (cmpB s t)) := by
  refine ans_V rfl rfl ?_
  simp [c87]
  refine loop_cmp hs ht s 0 _ rfl (by omega) (by omega) (by simp) (by simp) (by simp) ?_ ?_
  · intro st' h; simp at h; simp [h]
  · intro st' h0 h1 h
    simp only [List.drop_zero] at h
    rw [h]
    by_cases a : s.length < t.length
    · simp [h0, h1, sv_size, a]
    · by_cases b : t.length < s.length
      · simp [h0, h1, sv_size, a, b]
      · simp [h0, h1, sv_size, a, b]
end Go.Evl.Zone

namespace Go.Evl.Zone
open Go Go.Evl
variable {P : Program}
structure At where
  id : Bytes
  n : Int
  deriving DecidableEq
structure KRow where
  id : Bytes
  upto : Int
  extra : List Int
  deriving DecidableEq
structure MRow where
  id : Bytes
  vec : List At
  deriving DecidableEq
instance : Enc At := ⟨fun a => [sv a.id, iv a.n], 2, fun _ => rfl, fun _ => rfl⟩
instance : Enc KRow := ⟨fun a => [sv a.id, iv a.upto, lv a.extra], 3, fun _ => rfl, fun _ => rfl⟩
instance : Enc MRow := ⟨fun a => [sv a.id, lv a.vec], 2, fun _ => rfl, fun _ => rfl⟩
@[simp] theorem Enc_At (a : At) : Enc.c a = [sv a.id, iv a.n] := rfl
@[simp] theorem Enc_KRow (a : KRow) : Enc.c a = [sv a.id, iv a.upto, lv a.extra] := rfl
@[simp] theorem Enc_MRow (a : MRow) : Enc.c a = [sv a.id, lv a.vec] := rfl
@[simp] theorem Enc_kAt : Enc.k At = 2 := rfl
@[simp] theorem Enc_kKRow : Enc.k KRow = 3 := rfl
@[simp] theorem Enc_kMRow : Enc.k MRow = 2 := rfl
def chk {α : Type} (ok : α → Bool) (id : α → Bytes) : Option α → List α → Bool
  | _, [] => true
  | p, a :: r => ok a && (match p with
    | none => true
    | some p => decide (cmpB (id p) (id a) < 0)) && chk ok id (some a) r
def prevAt {α : Type} (L : List α) : Nat → Option α → Prop
  | 0, p => p = none
  | j + 1, p => ∃ q, L[j]? = some q ∧ p = some q
theorem prevAt_succ {α : Type} {L : List α} {i : Nat} {q : α} (h : L[i]? = some q) : prevAt L (i + 1) (some q) := ⟨q, h, rfl⟩
theorem prevAt_pos {α : Type} {L : List α} {i : Nat} {p : Option α} (hi : 0 < i) (h : prevAt L i p) : ∃ q, L[i - 1]? = some q ∧ p = some q := by
  cases i with
  | zero => omega
  | succ j => exact h
theorem wrapP {i : Nat} (h0 : 0 < i) (h : i < 9223372036854775807) : IntKind.i64.wrap ((i : Int) - 1) = ((i - 1 : Nat) : Int) := by rw [wrap64_id (by omega)]; omega
def atR (a : At) : Bool := idR a.id && decide (1 ≤ a.n) && decide (a.n ≤ 1048576)
def vecR (v : List At) : Bool := chk atR At.id none v
end Go.Evl.Zone

namespace Go.Evl.Zone
open Go Go.Evl
variable {P : Program}
theorem vecOrder_ans {a b : At} : ans (env P) 174 [.agg (Enc.c a), .agg (Enc.c b)] = some (iv (cmpB a.id b.id)) := by
  refine ans_V rfl rfl ?_
  have h := idCompare_ans (P := P) (a := a.id) (b := b.id)
  simp [c174, h]
theorem rVec_loop {v : List At} (hb : ∀ a ∈ v, a.id.length ≤ big) {ks : List Fr'} {K : Ex → St → Prop} (hL : v.length ≤ most) : ∀ (rest : List At) (i : Nat) (prev : Option At) (st : St), v.drop i = rest → i ≤ v.length → prevAt v i prev → st.σ 0 = lv v → st.σ 3 = iv i →
    (∀ st', chk atR At.id prev rest = false → st'.σ 2 = bv false → K .ret st') → (∀ st', st'.σ 0 = lv v → chk atR At.id prev rest = true → VN (env P) 161 st' ks K) → V (env P) 161 (.loop L161_0) st (.blk 0 :: ks) K
  | [], i, prev, st, hr, hile, hp, h0, hi, hret, hend => by
    obtain ⟨hii, hlt, hd⟩ := drop_nil hr hile
    rw [V_loop]
    simp [L161_0, h0, hi, hlt]
    exact hend _ (by simp [h0]) rfl
  | q :: rest, i, prev, st, hr, hile, hp, h0, hi, hret, hend => by
    obtain ⟨hq, hlt, hr', _⟩ := drop_cons hr
    have hm := List.mem_of_getElem? hq
    have hc := En_at hq
    have hw := wrapS (i := i) (by unfold most at hL; omega)
    have hR := r1Right_ans (P := P) (s := q.id)
    rw [V_loop]
    rcases Nat.eq_zero_or_pos i with rfl | hpos
    · obtain rfl : prev = none := hp
      simp at hw
      simp [L161_0, h0, hi, hlt, hc, hw, hR]
      repeat' (first
        | (refine VG_sp (fun h => ?_) (fun h => ?_) <;> simp [h, h0, hi, hlt, hc, hw, hR])
        | (refine VB_sp (fun h => ?_) (fun h => ?_) <;> simp [h, h0, hi, hlt, hc, hw, hR]))
      all_goals first
        | exact hret _ (by simp_all [chk, atR, vecR] <;> (intros; first | omega | (exfalso; simp_all; done) | (exfalso; simp_all; omega))) (by simp)
        | exact rVec_loop hb hL rest 1 (some q) _ hr' (by omega) (prevAt_succ hq) (by simp [h0]) (by simp [hw]) (fun st' x y => hret st' (by simp_all [chk, atR, vecR]) y) (fun st' x0 x => hend st' x0 (by simp_all [chk, atR, vecR] <;> omega))
    · obtain ⟨p, hpj, rfl⟩ := prevAt_pos hpos hp
      have hcp := En_at hpj
      have hmp := List.mem_of_getElem? hpj
      have hw1 := wrapP hpos (by unfold most at hL; omega)
      have hjl : i - 1 < v.length := by omega
      have hcmp := r1Compare_ans (P := P) (hb p hmp) (hb q hm)
      try simp at hcmp
      simp [L161_0, h0, hi, hlt, hc, hw, hR, hcp, hw1, hjl, hcmp, hpos]
      repeat' (first
        | (refine VG_sp (fun h => ?_) (fun h => ?_) <;> simp [h, h0, hi, hlt, hc, hw, hR, hcp, hw1, hjl, hcmp, hpos])
        | (refine VB_sp (fun h => ?_) (fun h => ?_) <;> simp [h, h0, hi, hlt, hc, hw, hR, hcp, hw1, hjl, hcmp, hpos]))
      all_goals first
        | exact hret _ (by simp_all [chk, atR, vecR] <;> (intros; first | omega | (exfalso; simp_all; done) | (exfalso; simp_all; omega))) (by simp)
        | exact rVec_loop hb hL rest (i + 1) (some q) _ hr' (by omega) (prevAt_succ hq) (by simp [h0]) (by simp [hw]) (fun st' x y => hret st' (by simp_all [chk, atR, vecR]) y) (fun st' x0 x => hend st' x0 (by simp_all [chk, atR, vecR] <;> omega))
theorem rVec_ans {v : List At} (hb : ∀ a ∈ v, a.id.length ≤ big) (hL : v.length ≤ most) : ans (env P) 161 [lv v] = some (bv (chk atR At.id none v)) := by
  refine ans_V rfl rfl ?_
  simp [c161]
  refine rVec_loop hb hL v 0 none _ rfl (by omega) rfl (by simp) (by simp) ?_ ?_
  · intro st' h h2; simp [h, h2]
  · intro st' _ h; simp [h]
theorem pVec_loop {v : List At} {ks : List Fr'} {K : Ex → St → Prop} (hL : v.length ≤ most) : ∀ (rest : List At) (i : Nat) (prev : Option At) (st : St), v.drop i = rest → i ≤ v.length → prevAt v i prev → st.σ 0 = lv v → st.σ 5 = lv v → st.σ 6 = iv v.length → st.σ 7 = iv i →
    (∀ st', chk atR At.id prev rest = false → st'.σ 2 = bv false → K .ret st') → (∀ st', st'.σ 0 = lv v → chk atR At.id prev rest = true → VN (env P) 135 st' ks K) → V (env P) 135 (.loop L135_0) st (.blk 0 :: ks) K
  | [], i, prev, st, hr, hile, hp, h0, h5, h6, hi, hret, hend => by
    obtain ⟨hii, hlt, hd⟩ := drop_nil hr hile
    rw [V_loop]
    simp [L135_0, h0, h5, h6, hi, hlt]
    exact hend _ (by simp [h0]) rfl
  | q :: rest, i, prev, st, hr, hile, hp, h0, h5, h6, hi, hret, hend => by
    obtain ⟨hq, hlt, hr', _⟩ := drop_cons hr
    have hm := List.mem_of_getElem? hq
    have hc := En_at hq
    have hw := wrapS (i := i) (by unfold most at hL; omega)
    have hR := idRight_ans (P := P) (s := q.id)
    rw [V_loop]
    rcases Nat.eq_zero_or_pos i with rfl | hpos
    · obtain rfl : prev = none := hp
      simp at hw
      simp [L135_0, h0, h5, h6, hi, hlt, hc, hw, hR]
      repeat' (first
        | (refine VG_sp (fun h => ?_) (fun h => ?_) <;> simp [h, h0, h5, h6, hi, hlt, hc, hw, hR])
        | (refine VB_sp (fun h => ?_) (fun h => ?_) <;> simp [h, h0, h5, h6, hi, hlt, hc, hw, hR]))
      all_goals first
        | exact hret _ (by simp_all [chk, atR, vecR] <;> (intros; first | omega | (exfalso; simp_all; done) | (exfalso; simp_all; omega))) (by simp)
        | exact pVec_loop  hL rest 1 (some q) _ hr' (by omega) (prevAt_succ hq) (by simp [h0]) (by simp [h5]) (by simp [h6]) (by simp [hw]) (fun st' x y => hret st' (by simp_all [chk, atR, vecR]) y) (fun st' x0 x => hend st' x0 (by simp_all [chk, atR, vecR] <;> omega))
    · obtain ⟨p, hpj, rfl⟩ := prevAt_pos hpos hp
      have hcp := En_at hpj
      have hmp := List.mem_of_getElem? hpj
      have hw1 := wrapP hpos (by unfold most at hL; omega)
      have hjl : i - 1 < v.length := by omega
      have hcmp := vecOrder_ans (P := P) (a := p) (b := q)
      try simp at hcmp
      simp [L135_0, h0, h5, h6, hi, hlt, hc, hw, hR, hcp, hw1, hjl, hcmp, hpos]
      repeat' (first
        | (refine VG_sp (fun h => ?_) (fun h => ?_) <;> simp [h, h0, h5, h6, hi, hlt, hc, hw, hR, hcp, hw1, hjl, hcmp, hpos])
        | (refine VB_sp (fun h => ?_) (fun h => ?_) <;> simp [h, h0, h5, h6, hi, hlt, hc, hw, hR, hcp, hw1, hjl, hcmp, hpos]))
      all_goals first
        | exact hret _ (by simp_all [chk, atR, vecR] <;> (intros; first | omega | (exfalso; simp_all; done) | (exfalso; simp_all; omega))) (by simp)
        | exact pVec_loop  hL rest (i + 1) (some q) _ hr' (by omega) (prevAt_succ hq) (by simp [h0]) (by simp [h5]) (by simp [h6]) (by simp [hw]) (fun st' x y => hret st' (by simp_all [chk, atR, vecR]) y) (fun st' x0 x => hend st' x0 (by simp_all [chk, atR, vecR] <;> omega))
theorem pVec_ans {v : List At} (hL : v.length ≤ most) : ans (env P) 135 [lv v] = some (bv (chk atR At.id none v)) := by
  refine ans_V rfl rfl ?_
  simp [c135]
  refine pVec_loop  hL v 0 none _ rfl (by omega) rfl (by simp) (by simp) (by simp) (by simp) ?_ ?_
  · intro st' h h2; simp [h, h2]
  · intro st' _ h; simp [h]
end Go.Evl.Zone

namespace Go.Evl.Zone
open Go Go.Evl
variable {P : Program}
def spanR (u : Int) (l : List Int) : Bool := decide (0 ≤ u) && decide (u ≤ 1048576) && decide (l.length ≤ 4096) && go (u + 1) l
where go : Int → List Int → Bool
  | _, [] => true
  | last, n :: r => decide (last < n) && decide (n ≤ 1048576) && go n r
def spanC (u : Int) (l : List Int) : Int := IntKind.i64.wrap (u + l.length)
def krowR (r : KRow) : Bool := idR r.id && spanR r.upto r.extra && decide (1 ≤ spanC r.upto r.extra)
def knowR (k : List KRow) : Bool := chk krowR KRow.id none k
def mrowR (r : MRow) : Bool := idR r.id && vecR r.vec && decide (1 ≤ r.vec.length)
def matR (m : List MRow) : Bool := chk mrowR MRow.id none m
theorem r2Count_ans {u : Int} {l : List Int} : ans (env P) 141 [.agg [iv u, lv l]] = some (iv (spanC u l)) := by
  refine ans_V rfl rfl ?_
  simp [c141, spanC]
theorem spanCount_ans {u : Int} {l : List Int} : ans (env P) 165 [.agg [iv u, lv l]] = some (iv (spanC u l)) := by
  refine ans_V rfl rfl ?_
  simp [c165, spanC]
theorem r2Right_loop {u : Int} {l : List Int} {ks : List Fr'} {K : Ex → St → Prop} (hu : 0 ≤ u ∧ u ≤ 1048576) (hL : l.length ≤ most) : ∀ (rest : List Int) (i : Nat) (last : Int) (st : St), l.drop i = rest → i ≤ l.length → (i = 0 → last = u + 1) → (0 < i → u + 1 < last) → last ≤ 1048577 → (∃ p, st.σ 1 = .ptr p 0 ∧ st.h.at_ p = .box [iv u, lv l] ∧ p < st.h.n) → st.σ 4 = iv i → st.σ 3 = iv last →
    (∀ st', spanR.go last rest = false → st'.σ 2 = bv false → K .ret st') → (∀ st', spanR.go last rest = true → VN (env P) 185 st' ks K) → V (env P) 185 (.loop L185_0) st (.blk 0 :: ks) K
  | [], i, last, st, hr, hile, hz, hp0, hl, ⟨p, h1, hp, hpn⟩, hi, h3, hret, hend => by
    obtain ⟨hii, hlt, hd⟩ := drop_nil hr hile
    rw [V_loop]
    simp [L185_0, h1, hp, hpn, hi, h3, hlt]
    exact hend _ rfl
  | q :: rest, i, last, st, hr, hile, hz, hp0, hl, ⟨p, h1, hp, hpn⟩, hi, h3, hret, hend => by
    obtain ⟨hq, hlt, hr', _⟩ := drop_cons hr
    have hc := En_at hq
    have hw := wrapS (i := i) (by unfold most at hL; omega)
    have hwu : IntKind.i64.wrap (u + 1) = u + 1 := wrap64_id (by omega)
    rw [V_loop]
    simp [L185_0, h1, hp, hpn, hi, h3, hlt, hc, hw, hwu]
    repeat' (first
      | (refine VG_sp (fun h => ?_) (fun h => ?_) <;> simp [h, h1, hp, hpn, hi, h3, hlt, hc, hw, hwu])
      | (refine VB_sp (fun h => ?_) (fun h => ?_) <;> simp [h, h1, hp, hpn, hi, h3, hlt, hc, hw, hwu]))
    all_goals simp only [decide_eq_true_eq, decide_eq_false_iff_not, Bool.or_eq_false_iff, Bool.or_eq_true, Bool.and_eq_true, Bool.and_eq_false_iff] at *
    all_goals first
      | exact hret _ (by simp [spanR.go]; omega) (by simp)
      | exact r2Right_loop hu hL rest (i + 1) q _ hr' (by omega) (by omega) (by intro _; by_cases hi0 : i = 0; (have := hz hi0; omega); (have := hp0 (by omega); omega)) (by omega) ⟨p, by simp [h1], by simp [hp, hpn], by simp; omega⟩  (by simp [hw]) (by simp) (fun st' x y => hret st' (by simp only [spanR.go, Bool.and_eq_false_iff]; exact .inr x) y) (fun st' x => hend st' (by simp only [spanR.go, x, Bool.and_true, Bool.and_eq_true, decide_eq_true_eq]; omega))
theorem spanRight_loop {u : Int} {l : List Int} {ks : List Fr'} {K : Ex → St → Prop} (hu : 0 ≤ u ∧ u ≤ 1048576) (hL : l.length ≤ most) : ∀ (rest : List Int) (i : Nat) (last : Int) (st : St), l.drop i = rest → i ≤ l.length → (i = 0 → last = u + 1) → (0 < i → u + 1 < last) → last ≤ 1048577 → st.σ 24 = lv l → st.σ 25 = iv l.length → st.σ 26 = iv i → st.σ 3 = iv last →
    (∀ st', spanR.go last rest = false → st'.σ 2 = bv false → K .ret st') → (∀ st', spanR.go last rest = true → VN (env P) 164 st' ks K) → V (env P) 164 (.loop L164_0) st (.blk 0 :: ks) K
  | [], i, last, st, hr, hile, hz, hp0, hl, h24, h25, hi, h3, hret, hend => by
    obtain ⟨hii, hlt, hd⟩ := drop_nil hr hile
    rw [V_loop]
    simp [L164_0, h24, h25, hi, h3, hlt]
    exact hend _ rfl
  | q :: rest, i, last, st, hr, hile, hz, hp0, hl, h24, h25, hi, h3, hret, hend => by
    obtain ⟨hq, hlt, hr', _⟩ := drop_cons hr
    have hc := En_at hq
    have hw := wrapS (i := i) (by unfold most at hL; omega)
    have hwu : IntKind.i64.wrap (u + 1) = u + 1 := wrap64_id (by omega)
    rw [V_loop]
    simp [L164_0, h24, h25, hi, h3, hlt, hc, hw, hwu]
    repeat' (first
      | (refine VG_sp (fun h => ?_) (fun h => ?_) <;> simp [h, h24, h25, hi, h3, hlt, hc, hw, hwu])
      | (refine VB_sp (fun h => ?_) (fun h => ?_) <;> simp [h, h24, h25, hi, h3, hlt, hc, hw, hwu]))
    all_goals simp only [decide_eq_true_eq, decide_eq_false_iff_not, Bool.or_eq_false_iff, Bool.or_eq_true, Bool.and_eq_true, Bool.and_eq_false_iff] at *
    all_goals first
      | exact hret _ (by simp [spanR.go]; omega) (by simp)
      | exact spanRight_loop hu hL rest (i + 1) q _ hr' (by omega) (by omega) (by intro _; by_cases hi0 : i = 0; (have := hz hi0; omega); (have := hp0 (by omega); omega)) (by omega) (by simp [h24]) (by simp [h25]) (by simp [hw]) (by simp) (fun st' x y => hret st' (by simp only [spanR.go, Bool.and_eq_false_iff]; exact .inr x) y) (fun st' x => hend st' (by simp only [spanR.go, x, Bool.and_true, Bool.and_eq_true, decide_eq_true_eq]; omega))
theorem r2Right_ans {u : Int} {l : List Int} (hL : l.length ≤ most) : ans (env P) 185 [.agg [iv u, lv l]] = some (bv (spanR u l)) := by
  refine ans_V rfl rfl ?_
  by_cases hu : 0 ≤ u ∧ u ≤ 1048576
  · have hw : IntKind.i64.wrap (u + 1) = u + 1 := wrap64_id (by omega)
    have a1 : ¬ u < 0 := by omega
    have a2 : ¬ (1048576 : Int) < u := by omega
    by_cases a3 : (4096 : Int) < l.length
    · have a4 : ¬ l.length ≤ 4096 := by omega
      simp [c185, a1, a2, a3, spanR, a4]
    · have a4 : l.length ≤ 4096 := by omega
      simp [c185, a1, a2, a3, hw]
      refine r2Right_loop hu hL l 0 (u + 1) _ rfl (by omega) (fun _ => rfl) (by omega) (by omega) ⟨_, rfl, by simp, by simp⟩ (by simp) (by simp [hw]) ?_ ?_
      · intro st' h h2; simp [h2, spanR, h]
      · intro st' h; simp [spanR, h, hu.1, hu.2, a4]
  · by_cases a1 : u < 0
    · have a2 : ¬ 0 ≤ u := by omega
      simp [c185, a1, spanR, a2]
    · have a2 : (1048576 : Int) < u := by omega
      have a3 : ¬ u ≤ 1048576 := by omega
      simp [c185, a1, a2, spanR, a3]
theorem spanRight_ans {u : Int} {l : List Int} (hL : l.length ≤ most) : ans (env P) 164 [.agg [iv u, lv l]] = some (bv (spanR u l)) := by
  refine ans_V rfl rfl ?_
  by_cases hu : 0 ≤ u ∧ u ≤ 1048576
  · have hw : IntKind.i64.wrap (u + 1) = u + 1 := wrap64_id (by omega)
    have a1 : ¬ u < 0 := by omega
    have a2 : ¬ (1048576 : Int) < u := by omega
    by_cases a3 : (4096 : Int) < l.length
    · have a4 : ¬ l.length ≤ 4096 := by omega
      simp [c164, a1, a2, a3, spanR, a4]
    · have a4 : l.length ≤ 4096 := by omega
      simp [c164, a1, a2, a3, hw]
      refine spanRight_loop hu hL l 0 (u + 1) _ rfl (by omega) (fun _ => rfl) (by omega) (by omega) (by simp) (by simp) (by simp) (by simp [hw]) ?_ ?_
      · intro st' h h2; simp [h2, spanR, h]
      · intro st' h; simp [spanR, h, hu.1, hu.2, a4]
  · by_cases a1 : u < 0
    · have a2 : ¬ 0 ≤ u := by omega
      simp [c164, a1, spanR, a2]
    · have a2 : (1048576 : Int) < u := by omega
      have a3 : ¬ u ≤ 1048576 := by omega
      simp [c164, a1, a2, spanR, a3]
end Go.Evl.Zone

namespace Go.Evl.Zone
open Go Go.Evl
variable {P : Program}
theorem knowOrder_ans {a b : KRow} : ans (env P) 166 [.agg (Enc.c a), .agg (Enc.c b)] = some (iv (cmpB a.id b.id)) := by
  refine ans_V rfl rfl ?_
  have h := idCompare_ans (P := P) (a := a.id) (b := b.id)
  simp [c166, h]
theorem matOrder_ans {a b : MRow} : ans (env P) 187 [.agg (Enc.c a), .agg (Enc.c b)] = some (iv (cmpB a.id b.id)) := by
  refine ans_V rfl rfl ?_
  have h := idCompare_ans (P := P) (a := a.id) (b := b.id)
  simp [c187, h]
theorem spanC_nn {u : Int} {l : List Int} (h : spanR u l = true) : 0 ≤ spanC u l := by
  simp [spanR] at h
  unfold spanC
  rw [wrap64_id (by omega)]; omega
theorem rKnow_loop {v : List KRow} (hb : ∀ a ∈ v, a.id.length ≤ big) (he : ∀ a ∈ v, a.extra.length ≤ most) {ks : List Fr'} {K : Ex → St → Prop} (hL : v.length ≤ most) : ∀ (rest : List KRow) (i : Nat) (prev : Option KRow) (st : St), v.drop i = rest → i ≤ v.length → prevAt v i prev → st.σ 0 = lv v → st.σ 3 = iv i →
    (∀ st', chk krowR KRow.id prev rest = false → st'.σ 2 = bv false → K .ret st') → (∀ st', st'.σ 0 = lv v → chk krowR KRow.id prev rest = true → VN (env P) 157 st' ks K) → V (env P) 157 (.loop L157_0) st (.blk 0 :: ks) K
  | [], i, prev, st, hr, hile, hp, h0, hi, hret, hend => by
    obtain ⟨hii, hlt, hd⟩ := drop_nil hr hile
    rw [V_loop]
    simp [L157_0, h0, hi, hlt]
    exact hend _ (by simp [h0]) rfl
  | q :: rest, i, prev, st, hr, hile, hp, h0, hi, hret, hend => by
    obtain ⟨hq, hlt, hr', _⟩ := drop_cons hr
    have hm := List.mem_of_getElem? hq
    have hc := En_at hq
    have hw := wrapS (i := i) (by unfold most at hL; omega)
    have hR := r1Right_ans (P := P) (s := q.id)
    have hS := r2Right_ans (P := P) (u := q.upto) (l := q.extra) (he q hm)
    have hC := r2Count_ans (P := P) (u := q.upto) (l := q.extra)
    rw [V_loop]
    rcases Nat.eq_zero_or_pos i with rfl | hpos
    · obtain rfl : prev = none := hp
      simp at hw
      simp [L157_0, h0, hi, hlt, hc, hw, hR, hS, hC]
      repeat' (first
        | (refine VG_sp (fun h => ?_) (fun h => ?_) <;> simp [h, h0, hi, hlt, hc, hw, hR, hS, hC])
        | (refine VB_sp (fun h => ?_) (fun h => ?_) <;> simp [h, h0, hi, hlt, hc, hw, hR, hS, hC]))
      all_goals first
        | exact hret _ (by simp_all [chk, krowR, vecR] <;> (intros; first | omega | (exfalso; simp_all; done) | (exfalso; simp_all; omega))) (by simp)
        | exact rKnow_loop hb he hL rest 1 (some q) _ hr' (by omega) (prevAt_succ hq) (by simp [h0]) (by simp [hw]) (fun st' x y => hret st' (by simp_all [chk, krowR, vecR]) y) (fun st' x0 x => hend st' x0 (by simp_all [chk, krowR, vecR] <;> omega))
    · obtain ⟨p, hpj, rfl⟩ := prevAt_pos hpos hp
      have hcp := En_at hpj
      have hmp := List.mem_of_getElem? hpj
      have hw1 := wrapP hpos (by unfold most at hL; omega)
      have hjl : i - 1 < v.length := by omega
      have hcmp := r1Compare_ans (P := P) (hb p hmp) (hb q hm)
      try simp at hcmp
      simp [L157_0, h0, hi, hlt, hc, hw, hR, hS, hC, hcp, hw1, hjl, hcmp, hpos]
      repeat' (first
        | (refine VG_sp (fun h => ?_) (fun h => ?_) <;> simp [h, h0, hi, hlt, hc, hw, hR, hS, hC, hcp, hw1, hjl, hcmp, hpos])
        | (refine VB_sp (fun h => ?_) (fun h => ?_) <;> simp [h, h0, hi, hlt, hc, hw, hR, hS, hC, hcp, hw1, hjl, hcmp, hpos]))
      all_goals first
        | exact hret _ (by simp_all [chk, krowR, vecR] <;> (intros; first | omega | (exfalso; simp_all; done) | (exfalso; simp_all; omega))) (by simp)
        | exact rKnow_loop hb he hL rest (i + 1) (some q) _ hr' (by omega) (prevAt_succ hq) (by simp [h0]) (by simp [hw]) (fun st' x y => hret st' (by simp_all [chk, krowR, vecR]) y) (fun st' x0 x => hend st' x0 (by simp_all [chk, krowR, vecR] <;> omega))
theorem rKnow_ans {v : List KRow} (hb : ∀ a ∈ v, a.id.length ≤ big) (he : ∀ a ∈ v, a.extra.length ≤ most) (hL : v.length ≤ most) : ans (env P) 157 [lv v] = some (bv (chk krowR KRow.id none v)) := by
  refine ans_V rfl rfl ?_
  simp [c157]
  refine rKnow_loop hb he hL v 0 none _ rfl (by omega) rfl (by simp) (by simp) ?_ ?_
  · intro st' h h2; simp [h, h2]
  · intro st' _ h; simp [h]
theorem pKnow_loop {v : List KRow} (he : ∀ a ∈ v, a.extra.length ≤ most) {ks : List Fr'} {K : Ex → St → Prop} (hL : v.length ≤ most) : ∀ (rest : List KRow) (i : Nat) (prev : Option KRow) (st : St), v.drop i = rest → i ≤ v.length → prevAt v i prev → st.σ 0 = lv v → st.σ 5 = lv v → st.σ 6 = iv v.length → st.σ 7 = iv i →
    (∀ st', chk krowR KRow.id prev rest = false → st'.σ 2 = bv false → K .ret st') → (∀ st', st'.σ 0 = lv v → chk krowR KRow.id prev rest = true → VN (env P) 129 st' ks K) → V (env P) 129 (.loop L129_0) st (.blk 0 :: ks) K
  | [], i, prev, st, hr, hile, hp, h0, h5, h6, hi, hret, hend => by
    obtain ⟨hii, hlt, hd⟩ := drop_nil hr hile
    rw [V_loop]
    simp [L129_0, h0, h5, h6, hi, hlt]
    exact hend _ (by simp [h0]) rfl
  | q :: rest, i, prev, st, hr, hile, hp, h0, h5, h6, hi, hret, hend => by
    obtain ⟨hq, hlt, hr', _⟩ := drop_cons hr
    have hm := List.mem_of_getElem? hq
    have hc := En_at hq
    have hw := wrapS (i := i) (by unfold most at hL; omega)
    have hR := idRight_ans (P := P) (s := q.id)
    have hS := spanRight_ans (P := P) (u := q.upto) (l := q.extra) (he q hm)
    have hC := spanCount_ans (P := P) (u := q.upto) (l := q.extra)
    have hC0 := @spanC_nn q.upto q.extra
    rw [V_loop]
    rcases Nat.eq_zero_or_pos i with rfl | hpos
    · obtain rfl : prev = none := hp
      simp at hw
      simp [L129_0, h0, h5, h6, hi, hlt, hc, hw, hR, hS, hC]
      repeat' (first
        | (refine VG_sp (fun h => ?_) (fun h => ?_) <;> simp [h, h0, h5, h6, hi, hlt, hc, hw, hR, hS, hC])
        | (refine VB_sp (fun h => ?_) (fun h => ?_) <;> simp [h, h0, h5, h6, hi, hlt, hc, hw, hR, hS, hC]))
      all_goals first
        | exact hret _ (by simp_all [chk, krowR, vecR] <;> (intros; first | omega | (exfalso; simp_all; done) | (exfalso; simp_all; omega))) (by simp)
        | exact pKnow_loop he hL rest 1 (some q) _ hr' (by omega) (prevAt_succ hq) (by simp [h0]) (by simp [h5]) (by simp [h6]) (by simp [hw]) (fun st' x y => hret st' (by simp_all [chk, krowR, vecR]) y) (fun st' x0 x => hend st' x0 (by simp_all [chk, krowR, vecR] <;> omega))
    · obtain ⟨p, hpj, rfl⟩ := prevAt_pos hpos hp
      have hcp := En_at hpj
      have hmp := List.mem_of_getElem? hpj
      have hw1 := wrapP hpos (by unfold most at hL; omega)
      have hjl : i - 1 < v.length := by omega
      have hcmp := knowOrder_ans (P := P) (a := p) (b := q)
      try simp at hcmp
      simp [L129_0, h0, h5, h6, hi, hlt, hc, hw, hR, hS, hC, hcp, hw1, hjl, hcmp, hpos]
      repeat' (first
        | (refine VG_sp (fun h => ?_) (fun h => ?_) <;> simp [h, h0, h5, h6, hi, hlt, hc, hw, hR, hS, hC, hcp, hw1, hjl, hcmp, hpos])
        | (refine VB_sp (fun h => ?_) (fun h => ?_) <;> simp [h, h0, h5, h6, hi, hlt, hc, hw, hR, hS, hC, hcp, hw1, hjl, hcmp, hpos]))
      all_goals first
        | exact hret _ (by simp_all [chk, krowR, vecR] <;> (intros; first | omega | (exfalso; simp_all; done) | (exfalso; simp_all; omega))) (by simp)
        | exact pKnow_loop he hL rest (i + 1) (some q) _ hr' (by omega) (prevAt_succ hq) (by simp [h0]) (by simp [h5]) (by simp [h6]) (by simp [hw]) (fun st' x y => hret st' (by simp_all [chk, krowR, vecR]) y) (fun st' x0 x => hend st' x0 (by simp_all [chk, krowR, vecR] <;> omega))
theorem pKnow_ans {v : List KRow} (he : ∀ a ∈ v, a.extra.length ≤ most) (hL : v.length ≤ most) : ans (env P) 129 [lv v] = some (bv (chk krowR KRow.id none v)) := by
  refine ans_V rfl rfl ?_
  simp [c129]
  refine pKnow_loop he hL v 0 none _ rfl (by omega) rfl (by simp) (by simp) (by simp) (by simp) ?_ ?_
  · intro st' h h2; simp [h, h2]
  · intro st' _ h; simp [h]
theorem rMat_loop {v : List MRow} (hb : ∀ a ∈ v, a.id.length ≤ big) (he : ∀ a ∈ v, a.vec.length ≤ most) (hv : ∀ a ∈ v, ∀ x ∈ a.vec, x.id.length ≤ big) {ks : List Fr'} {K : Ex → St → Prop} (hL : v.length ≤ most) : ∀ (rest : List MRow) (i : Nat) (prev : Option MRow) (st : St), v.drop i = rest → i ≤ v.length → prevAt v i prev → st.σ 0 = lv v → st.σ 3 = iv i →
    (∀ st', chk mrowR MRow.id prev rest = false → st'.σ 2 = bv false → K .ret st') → (∀ st', st'.σ 0 = lv v → chk mrowR MRow.id prev rest = true → VN (env P) 158 st' ks K) → V (env P) 158 (.loop L158_0) st (.blk 0 :: ks) K
  | [], i, prev, st, hr, hile, hp, h0, hi, hret, hend => by
    obtain ⟨hii, hlt, hd⟩ := drop_nil hr hile
    rw [V_loop]
    simp [L158_0, h0, hi, hlt]
    exact hend _ (by simp [h0]) rfl
  | q :: rest, i, prev, st, hr, hile, hp, h0, hi, hret, hend => by
    obtain ⟨hq, hlt, hr', _⟩ := drop_cons hr
    have hm := List.mem_of_getElem? hq
    have hc := En_at hq
    have hw := wrapS (i := i) (by unfold most at hL; omega)
    have hR := r1Right_ans (P := P) (s := q.id)
    have hS := rVec_ans (P := P) (v := q.vec) (hv q hm) (he q hm)
    rw [V_loop]
    rcases Nat.eq_zero_or_pos i with rfl | hpos
    · obtain rfl : prev = none := hp
      simp at hw
      simp [L158_0, h0, hi, hlt, hc, hw, hR, hS]
      repeat' (first
        | (refine VG_sp (fun h => ?_) (fun h => ?_) <;> simp [h, h0, hi, hlt, hc, hw, hR, hS])
        | (refine VB_sp (fun h => ?_) (fun h => ?_) <;> simp [h, h0, hi, hlt, hc, hw, hR, hS]))
      all_goals first
        | exact hret _ (by simp_all [chk, mrowR, vecR] <;> (intros; first | omega | (exfalso; simp_all; done) | (exfalso; simp_all; omega))) (by simp)
        | exact rMat_loop hb he hv hL rest 1 (some q) _ hr' (by omega) (prevAt_succ hq) (by simp [h0]) (by simp [hw]) (fun st' x y => hret st' (by simp_all [chk, mrowR, vecR]) y) (fun st' x0 x => hend st' x0 (by simp_all [chk, mrowR, vecR] <;> omega))
    · obtain ⟨p, hpj, rfl⟩ := prevAt_pos hpos hp
      have hcp := En_at hpj
      have hmp := List.mem_of_getElem? hpj
      have hw1 := wrapP hpos (by unfold most at hL; omega)
      have hjl : i - 1 < v.length := by omega
      have hcmp := r1Compare_ans (P := P) (hb p hmp) (hb q hm)
      try simp at hcmp
      simp [L158_0, h0, hi, hlt, hc, hw, hR, hS, hcp, hw1, hjl, hcmp, hpos]
      repeat' (first
        | (refine VG_sp (fun h => ?_) (fun h => ?_) <;> simp [h, h0, hi, hlt, hc, hw, hR, hS, hcp, hw1, hjl, hcmp, hpos])
        | (refine VB_sp (fun h => ?_) (fun h => ?_) <;> simp [h, h0, hi, hlt, hc, hw, hR, hS, hcp, hw1, hjl, hcmp, hpos]))
      all_goals first
        | exact hret _ (by simp_all [chk, mrowR, vecR] <;> (intros; first | omega | (exfalso; simp_all; done) | (exfalso; simp_all; omega))) (by simp)
        | exact rMat_loop hb he hv hL rest (i + 1) (some q) _ hr' (by omega) (prevAt_succ hq) (by simp [h0]) (by simp [hw]) (fun st' x y => hret st' (by simp_all [chk, mrowR, vecR]) y) (fun st' x0 x => hend st' x0 (by simp_all [chk, mrowR, vecR] <;> omega))
theorem rMat_ans {v : List MRow} (hb : ∀ a ∈ v, a.id.length ≤ big) (he : ∀ a ∈ v, a.vec.length ≤ most) (hv : ∀ a ∈ v, ∀ x ∈ a.vec, x.id.length ≤ big) (hL : v.length ≤ most) : ans (env P) 158 [lv v] = some (bv (chk mrowR MRow.id none v)) := by
  refine ans_V rfl rfl ?_
  simp [c158]
  refine rMat_loop hb he hv hL v 0 none _ rfl (by omega) rfl (by simp) (by simp) ?_ ?_
  · intro st' h h2; simp [h, h2]
  · intro st' _ h; simp [h]
theorem pMat_loop {v : List MRow} (he : ∀ a ∈ v, a.vec.length ≤ most) {ks : List Fr'} {K : Ex → St → Prop} (hL : v.length ≤ most) : ∀ (rest : List MRow) (i : Nat) (prev : Option MRow) (st : St), v.drop i = rest → i ≤ v.length → prevAt v i prev → st.σ 0 = lv v → st.σ 5 = lv v → st.σ 6 = iv v.length → st.σ 7 = iv i →
    (∀ st', chk mrowR MRow.id prev rest = false → st'.σ 2 = bv false → K .ret st') → (∀ st', st'.σ 0 = lv v → chk mrowR MRow.id prev rest = true → VN (env P) 168 st' ks K) → V (env P) 168 (.loop L168_0) st (.blk 0 :: ks) K
  | [], i, prev, st, hr, hile, hp, h0, h5, h6, hi, hret, hend => by
    obtain ⟨hii, hlt, hd⟩ := drop_nil hr hile
    rw [V_loop]
    simp [L168_0, h0, h5, h6, hi, hlt]
    exact hend _ (by simp [h0]) rfl
  | q :: rest, i, prev, st, hr, hile, hp, h0, h5, h6, hi, hret, hend => by
    obtain ⟨hq, hlt, hr', _⟩ := drop_cons hr
    have hm := List.mem_of_getElem? hq
    have hc := En_at hq
    have hw := wrapS (i := i) (by unfold most at hL; omega)
    have hR := idRight_ans (P := P) (s := q.id)
    have hS := pVec_ans (P := P) (v := q.vec) (he q hm)
    have hne : ¬ q.vec = [] → 1 ≤ q.vec.length := fun h => List.length_pos_iff.2 h
    rw [V_loop]
    rcases Nat.eq_zero_or_pos i with rfl | hpos
    · obtain rfl : prev = none := hp
      simp at hw
      simp [L168_0, h0, h5, h6, hi, hlt, hc, hw, hR, hS]
      repeat' (first
        | (refine VG_sp (fun h => ?_) (fun h => ?_) <;> simp [h, h0, h5, h6, hi, hlt, hc, hw, hR, hS])
        | (refine VB_sp (fun h => ?_) (fun h => ?_) <;> simp [h, h0, h5, h6, hi, hlt, hc, hw, hR, hS]))
      all_goals first
        | exact hret _ (by simp_all [chk, mrowR, vecR] <;> (intros; first | omega | (exfalso; simp_all; done) | (exfalso; simp_all; omega))) (by simp)
        | exact pMat_loop he hL rest 1 (some q) _ hr' (by omega) (prevAt_succ hq) (by simp [h0]) (by simp [h5]) (by simp [h6]) (by simp [hw]) (fun st' x y => hret st' (by simp_all [chk, mrowR, vecR]) y) (fun st' x0 x => hend st' x0 (by simp_all [chk, mrowR, vecR] <;> omega))
    · obtain ⟨p, hpj, rfl⟩ := prevAt_pos hpos hp
      have hcp := En_at hpj
      have hmp := List.mem_of_getElem? hpj
      have hw1 := wrapP hpos (by unfold most at hL; omega)
      have hjl : i - 1 < v.length := by omega
      have hcmp := matOrder_ans (P := P) (a := p) (b := q)
      try simp at hcmp
      simp [L168_0, h0, h5, h6, hi, hlt, hc, hw, hR, hS, hcp, hw1, hjl, hcmp, hpos]
      repeat' (first
        | (refine VG_sp (fun h => ?_) (fun h => ?_) <;> simp [h, h0, h5, h6, hi, hlt, hc, hw, hR, hS, hcp, hw1, hjl, hcmp, hpos])
        | (refine VB_sp (fun h => ?_) (fun h => ?_) <;> simp [h, h0, h5, h6, hi, hlt, hc, hw, hR, hS, hcp, hw1, hjl, hcmp, hpos]))
      all_goals first
        | exact hret _ (by simp_all [chk, mrowR, vecR] <;> (intros; first | omega | (exfalso; simp_all; done) | (exfalso; simp_all; omega))) (by simp)
        | exact pMat_loop he hL rest (i + 1) (some q) _ hr' (by omega) (prevAt_succ hq) (by simp [h0]) (by simp [h5]) (by simp [h6]) (by simp [hw]) (fun st' x y => hret st' (by simp_all [chk, mrowR, vecR]) y) (fun st' x0 x => hend st' x0 (by simp_all [chk, mrowR, vecR] <;> omega))
theorem pMat_ans {v : List MRow} (he : ∀ a ∈ v, a.vec.length ≤ most) (hL : v.length ≤ most) : ans (env P) 168 [lv v] = some (bv (chk mrowR MRow.id none v)) := by
  refine ans_V rfl rfl ?_
  simp [c168]
  refine pMat_loop he hL v 0 none _ rfl (by omega) rfl (by simp) (by simp) (by simp) (by simp) ?_ ?_
  · intro st' h h2; simp [h, h2]
  · intro st' _ h; simp [h]
end Go.Evl.Zone

namespace Go.Evl.Zone
open Go Go.Evl Go.Evl.Fl
variable {P : Program}
structure Sty (P : Program) (t : TypeId) (L : List (TypeId × Nat)) : Prop where
  fs : ∃ fs : Array Field, P.underlying t = some (.struct fs) ∧ fs.toList.map (fun f => (f.type, f.offset)) = L ∧ (fs.toList.all fun f => f.name != "_") = true
  held : P.stoodInHeld t = false
  guard : P.eqGuardType P.depth t = false
theorem eqFields_all {d : Nat} {xs ys : Array Value} (r : TypeId × Nat → Bool) : ∀ (fs : List Field), (fs.all fun f => f.name != "_") = true →
    (∀ f ∈ fs, ∃ a b, pureRun P (part f.type xs f.offset) = some a ∧ pureRun P (part f.type ys f.offset) = some b ∧ pureRun P (Op.equalIn d f.type a b) = some (r (f.type, f.offset))) →
    pureRun P (Op.eqFields d xs ys fs) = some ((fs.map fun f => (f.type, f.offset)).all r)
  | [], _, _ => rfl
  | f :: fs, hn, h => by
    simp only [List.all_cons, Bool.and_eq_true, bne, Bool.not_eq_true'] at hn
    obtain ⟨a, b, h1, h2, h3⟩ := h f (by simp)
    exact pureRun_eqCons hn.1 h1 h2 h3 (eqFields_all r fs hn.2 fun g hg => h g (by simp [hg]))
theorem sty_part {t : TypeId} {L : List (TypeId × Nat)} {n : Nat} {cs : Array Value} {o : Nat} (S : Sty P t L) (hn : szOf P t = some n) : pureRun P (part t cs o) = some (.agg (cs.extract o (o + n))) := by
  obtain ⟨fs, ht, _⟩ := S.fs
  obtain ⟨i, hi, rfl⟩ := Option.map_eq_some_iff.1 hn
  unfold part isAgg sizeOf
  simp only [pureRun_bind, pureRun_under, ht, Option.bind_some, pureRun_pure]
  simp [typeInfo, pureRun_bind, pureRun_prog, hi, pureRun_pure]
theorem sty_equal {d : Nat} {t : TypeId} {L : List (TypeId × Nat)} {xs ys : Array Value} (S : Sty P t L) (r : TypeId × Nat → Bool)
    (h : ∀ p ∈ L, ∃ a b, pureRun P (part p.1 xs p.2) = some a ∧ pureRun P (part p.1 ys p.2) = some b ∧ pureRun P (Op.equalIn d p.1 a b) = some (r p)) : pureRun P (Op.equalIn (d + 1) t (.agg xs) (.agg ys)) = some (L.all r) := by
  obtain ⟨fs, ht, hf, hn⟩ := S.fs
  rw [pureRun_equal_struct ht S.held, eqFields_all r fs.toList hn, hf]
  intro f hfm
  exact h (f.type, f.offset) (by rw [← hf]; exact List.mem_map.2 ⟨f, hfm, rfl⟩)
theorem sty_eql {t : TypeId} {L : List (TypeId × Nat)} {cx cy : Bool} {xs ys : List PV} {vs us : List Value} (S : Sty P t L) (r : TypeId × Nat → Bool) (hx : toVs xs = some vs) (hy : toVs ys = some us)
    (h : ∀ p ∈ L, ∃ a b, pureRun P (part p.1 vs.toArray p.2) = some a ∧ pureRun P (part p.1 us.toArray p.2) = some b ∧ pureRun P (Op.equalIn 9999 p.1 a b) = some (r p)) :
    evBin P .eql t cx cy (.agg xs) (.agg ys) = some (bv (L.all r)) ∧ evBin P .neq t cx cy (.agg xs) (.agg ys) = some (bv (!L.all r)) := by
  obtain ⟨fs, ht, hf, hn⟩ := S.fs
  refine evBin_struct_eql ht S.held S.guard hx hy ?_
  rw [eqFields_all r fs.toList hn, hf]
  intro f hfm
  exact h (f.type, f.offset) (by rw [← hf]; exact List.mem_map.2 ⟨f, hfm, rfl⟩)
theorem evBin_bb {t : TypeId} {cx cy : Bool} {a b : Bool} (h : P.underlying t = some .bool) : evBin P .eql t cx cy (.val (.bool a)) (.val (.bool b)) = some (.val (.bool (a == b))) := by
  simp only [evBin, toV, scal, pureRun_bind]
  have h1 : pureRun P (eqGuard .eql t (if cx then .const (.bool a) else .tmp 0) (if cy then .const (.bool b) else .tmp 0) (.bool a) (.bool b)) = some () := by
    unfold eqGuard
    cases cx <;> cases cy <;> rfl
  rw [h1]
  simp only [Option.bind_some]
  simp only [binOp, pureRun_bind]
  have h2 : pureRun P (Op.equal t (.bool a) (.bool b)) = some (a == b) := by
    unfold Op.equal
    rw [show Op.maxDepth = (Op.maxDepth - 1) + 1 from rfl, Op.equalIn]
    simp only [pureRun_bind, pureRun_under, h, Option.bind_some]
    rfl
  rw [h2]
  simp only [Option.bind_some]
  rfl
end Go.Evl.Zone

namespace Go.Evl.Zone
open Go Go.Evl
variable {P : Program}
open Go.Evl.Fl
structure Item where
  key : Int
  id : Bytes
  seq : Int
  stamp : Int
  dead : Bool
  x : Int
  y : Int
  text : Bytes
  held : Bool
  deriving DecidableEq
abbrev fw (n : Int) : Nat := FloatKind.f64.nearest n
abbrev cw (x y : Int) : PV := .val (.complex .f64 (fw x) (fw y))
abbrev itP (q : Item) : List PV := [iv q.key, sv q.id, iv q.seq, iv q.stamp, bv q.dead, cw q.x q.y, sv q.text, bv q.held]
abbrev itR (q : Item) : List PV := [iv q.key, sv q.id, iv q.seq, iv q.stamp, bv q.dead, iv q.x, iv q.y, sv q.text, bv q.held]
def EnP (l : List Item) : List (List PV) := l.map itP
abbrev lvP (l : List Item) : PV := .im (EnP l) false
@[simp] theorem EnP_length (l : List Item) : (EnP l).length = l.length := by simp [EnP]
@[simp] theorem EnP_nil : EnP [] = [] := rfl
theorem EnP_append (a b : List Item) : EnP (a ++ b) = EnP a ++ EnP b := by simp [EnP]
@[simp] theorem allLen_EnP (l : List Item) : allLen 8 (EnP l) = true := by
  rw [allLen_iff]
  intro x hx
  simp only [EnP, List.mem_map] at hx
  obtain ⟨a, _, rfl⟩ := hx
  rfl
theorem plainss_EnP (l : List Item) : plainss (EnP l) = some (EnP l) := plainss_ok fun y hy => by
  simp only [EnP, List.mem_map] at hy
  obtain ⟨a, _, rfl⟩ := hy
  rfl
theorem EnP_at {l : List Item} {i : Nat} {q : Item} (h : l[i]? = some q) : ∀ hi, (EnP l)[i]'hi = itP q := fun hi => by
  have h2 := (List.getElem?_eq_some_iff.1 h).2
  simp only [EnP, List.getElem_map, h2]
def EnR (l : List Item) : List (List PV) := l.map itR
abbrev lvR (l : List Item) : PV := .im (EnR l) false
@[simp] theorem EnR_length (l : List Item) : (EnR l).length = l.length := by simp [EnR]
@[simp] theorem EnR_nil : EnR [] = [] := rfl
theorem EnR_append (a b : List Item) : EnR (a ++ b) = EnR a ++ EnR b := by simp [EnR]
theorem EnR_one (a : Item) : EnR [a] = [itR a] := rfl
@[simp] theorem allLen_EnR (l : List Item) : allLen 9 (EnR l) = true := by
  rw [allLen_iff]
  intro x hx
  simp only [EnR, List.mem_map] at hx
  obtain ⟨a, _, rfl⟩ := hx
  rfl
theorem plainss_EnR (l : List Item) : plainss (EnR l) = some (EnR l) := plainss_ok fun y hy => by
  simp only [EnR, List.mem_map] at hy
  obtain ⟨a, _, rfl⟩ := hy
  rfl
theorem EnR_at {l : List Item} {i : Nat} {q : Item} (h : l[i]? = some q) : ∀ hi, (EnR l)[i]'hi = itR q := fun hi => by
  have h2 := (List.getElem?_eq_some_iff.1 h).2
  simp only [EnR, List.getElem_map, h2]
def smI (n : Int) : Prop := -1099511627776 ≤ n ∧ n ≤ 1099511627776
def Item.sm (q : Item) : Prop := smI q.x ∧ smI q.y
theorem sm_is {n : Int} (h : smI n) : Is (fw n) n := Is.nearest (by unfold smI at h; omega)
theorem is00 : Is 0 0 := is_const (n := 0) (by decide +kernel) (by decide)
def verR (q : Item) : Bool := idR q.id && decide (1 ≤ q.seq) && decide (q.seq ≤ 1048576) && decide (1 ≤ q.stamp) && decide (q.stamp ≤ 1048576)
def itemR (q : Item) : Bool := decide (0 ≤ q.key) && decide (q.key ≤ 31) && verR q && near q.x && near q.y && decide (q.text.length ≤ 16) && !(q.dead && (decide (¬ (q.x = 0 ∧ q.y = 0)) || q.held)) && (q.held || decide (q.text = []))
theorem order_is {a b : Nat} {m n : Int} (ha : Is a m) (hb : Is b n) : (FloatKind.f64.format.order a b == some .eq) = decide (m = n) := by
  have ho : FloatKind.f64.format.order a b = some (compare m n) := ha.order hb
  rw [ho]
  simp only [compare, compareOfLessAndEq]
  rcases Int.lt_trichotomy m n with h | h | h
  · have h3 : ¬ m = n := by omega
    simp [h, h3]
  · subst h; simp
  · have h0 : ¬ m < n := by omega
    have h3 : ¬ m = n := by omega
    simp [h0, h3]
theorem evBin_cneq {t : TypeId} {cx cy : Bool} {a b c d : Nat} {p q r s : Int} (ha : Is a p) (hb : Is b q) (hc : Is c r) (hd : Is d s) : evBin P .neq t cx cy (.val (.complex .f64 a b)) (.val (.complex .f64 c d)) = some (bv (!(decide (p = r) && decide (q = s)))) := by
  have : evBin P .neq t cx cy (.val (.complex .f64 a b)) (.val (.complex .f64 c d)) = some (bv (!(FloatKind.f64.format.order a c == some .eq && FloatKind.f64.format.order b d == some .eq))) := rfl
  rw [this, order_is ha hc, order_is hb hd]
structure TI (P : Program) : Prop extends Typed3 P where
  t4 : P.underlying 4 = some .bool
  t9 : P.underlying 9 = some .string
  place : Sty P 71 [(3, 0), (3, 1)]
  tid : P.underlying 31 = some .string
  at_ : Sty P 161 [(31, 0), (3, 1)]
  rat : Sty P 147 [(9, 0), (3, 1)]
  ver : Sty P 90 [(31, 0), (3, 1), (3, 2)]
  verS : szOf P 90 = some 3
  item : Sty P 93 [(3, 0), (90, 1), (4, 4), (91, 5), (9, 6), (4, 7)]
  rver : Sty P 69 [(9, 0), (3, 1), (3, 2)]
  rverS : szOf P 69 = some 3
  placeS : szOf P 71 = some 2
  ritem : Sty P 73 [(3, 0), (69, 1), (4, 4), (71, 5), (9, 7), (4, 8)]
theorem place_neq (T : TI P) {cx cy : Bool} {a b c d : Int} : evBin P .neq 71 cx cy (.agg [iv a, iv b]) (.agg [iv c, iv d]) = some (bv (!(decide (a = c) && decide (b = d)))) := by
  have h := (sty_eql (cx := cx) (cy := cy) (xs := [iv a, iv b]) (ys := [iv c, iv d]) (vs := [.int .i64 a, .int .i64 b]) (us := [.int .i64 c, .int .i64 d]) T.place (fun p => if p.2 = 0 then a == c else b == d) rfl rfl (by
    intro p hp
    simp only [List.mem_cons, List.not_mem_nil, or_false] at hp
    rcases hp with rfl | rfl
    · exact ⟨_, _, pureRun_part T.t3 rfl rfl, pureRun_part T.t3 rfl rfl, pureRun_equal_int T.t3⟩
    · exact ⟨_, _, pureRun_part T.t3 rfl rfl, pureRun_part T.t3 rfl rfl, pureRun_equal_int T.t3⟩)).2
  rw [h]
  congr 3
  simp [beq_iff_eq, Bool.beq_eq_decide_eq]
theorem verRight_ans {q : Item} : ans (env P) 151 [.agg [sv q.id, iv q.seq, iv q.stamp]] = some (bv (verR q)) := by
  refine ans_V rfl rfl ?_
  have hR := idRight_ans (P := P) (s := q.id)
  simp [c151, hR]
  repeat' (first
    | (refine VG_sp (fun h => ?_) (fun h => ?_) <;> simp [h, hR])
    | (refine VB_sp (fun h => ?_) (fun h => ?_) <;> simp [h, hR]))
  all_goals first
    | (simp_all [verR]; done)
    | (simp_all [verR] <;> intros <;> first | omega | (exfalso; omega) | (simp_all; done) | (simp_all; omega) | (exfalso; simp_all; done))
theorem itemRight_ans {q : Item} (hs : q.sm) : ans (env P) 96 [.agg (itP q)] = some (bv (itemR q)) := by
  refine ans_V rfl rfl ?_
  have hV := verRight_ans (P := P) (q := q)
  have hW := whole_is (P := P) (sm_is hs.1) (sm_is hs.2)
  have hN := fun t cx cy => evBin_cneq (P := P) (t := t) (cx := cx) (cy := cy) (sm_is hs.1) (sm_is hs.2) is00 is00
  have hE := fun t cx cy => evBin_seql (P := P) (t := t) (cx := cx) (cy := cy) q.text []
  have hk : (32 ≤ q.key) = ¬ (q.key ≤ 31) := by simp; omega
  simp [c96, hV, hW, hN, hE, hk, sv_size]
  repeat' (first
    | (refine VG_sp (fun h => ?_) (fun h => ?_) <;> simp [h, hV, hW, hN, hE, hk, sv_size])
    | (refine VB_sp (fun h => ?_) (fun h => ?_) <;> simp [h, hV, hW, hN, hE, hk, sv_size]))
  all_goals first
    | (simp_all [itemR]; done)
    | (simp_all [itemR] <;> intros <;> first | omega | (exfalso; omega) | (simp_all; done) | (simp_all; omega) | (exfalso; simp_all; done))
theorem r7Right_ans (T : TI P) {q : Item} : ans (env P) 116 [.agg (itR q)] = some (bv (itemR q)) := by
  refine ans_V rfl rfl ?_
  have hR := r1Right_ans (P := P) (s := q.id)
  have hW := refWhole_ans (P := P) (x := q.x) (y := q.y)
  have hN := fun cx cy => place_neq (P := P) (cx := cx) (cy := cy) T (a := q.x) (b := q.y) (c := 0) (d := 0)
  simp [c116, hR, hW, hN, sv_size]
  repeat' (first
    | (refine VG_sp (fun h => ?_) (fun h => ?_) <;> simp [h, hR, hW, hN, sv_size])
    | (refine VB_sp (fun h => ?_) (fun h => ?_) <;> simp [h, hR, hW, hN, sv_size]))
  all_goals first
    | (simp_all [itemR, verR]; done)
    | (simp_all [itemR, verR] <;> intros <;> first | omega | (exfalso; omega) | (simp_all; done) | (simp_all; omega) | (exfalso; simp_all; done))
end Go.Evl.Zone

namespace Go.Evl.Zone
open Go Go.Evl
variable {P : Program}
structure LN (N : Nat) (H : Heap) (k : Nat) (v : PV) (ys : List (List PV)) : Prop where
  l : Lst H k v ys
  b : ∀ r k' g off len, v = .sl r k' g off len → N ≤ r
theorem LN.nil {N : Nat} {H : Heap} {k : Nat} : LN N H k (.im [] true) [] := ⟨Lst.nil, by intros; simp_all⟩
theorem LN.ext {N : Nat} {H H' : Heap} {k : Nat} {v : PV} {ys : List (List PV)} (h : LN N H k v ys) (e : Gr H H') : LN N H' k v ys := ⟨h.l.ext e, h.b⟩
theorem LN.grow {N m : Nat} {H : Heap} {k : Nat} {v : PV} {ys : List (List PV)} (h : LN N H k v ys) : LN N (H.grow m) k v ys := ⟨h.l.grow, h.b⟩
theorem LN.putN {N s : Nat} {H : Heap} {k : Nat} {v : PV} {ys : List (List PV)} {b : Blk} (h : LN N H k v ys) (hs : H.at_ s = .dead ∨ ∃ cs, H.at_ s = .box cs) : LN N (H.put s b) k v ys := ⟨h.l.putN hs, h.b⟩
theorem LN.app {N : Nat} {H : Heap} {slot k : Nat} {v : PV} {ys zs : List (List PV)} (h : LN N H k v ys) (hd : H.at_ slot = .dead) (hs : slot < H.n) (hN : N ≤ slot) (hz : allLen k zs = true) (hm : ys.length + zs.length ≤ most) :
    ∃ (v' : PV) (H' : Heap) (wr rd : List Nat), appendP H slot k v zs = some (v', H', wr, rd) ∧ LN N H' k v' (ys ++ zs) ∧ H'.n = H.n ∧ (∀ i cs, H.at_ i = .box cs → H'.at_ i = .box cs) ∧ (∀ i, i < N → H'.at_ i = H.at_ i) ∧ (∀ i ∈ wr, N ≤ i) := by
  have hl := h.l
  obtain ⟨v', H', wr, rd, e, e1, e2, e3, _, _⟩ := hl.app hd hs hz hm
  have key : (∀ r k' g off len, v' = .sl r k' g off len → N ≤ r) ∧ (∀ i, i < N → H'.at_ i = H.at_ i) ∧ (∀ i ∈ wr, N ≤ i) := by
    unfold appendP at e
    split at e
    · split at e <;> simp at e
      · obtain ⟨rfl, rfl, rfl, _⟩ := e; exact ⟨h.b, fun _ _ => rfl, by simp⟩
      · obtain ⟨rfl, rfl, rfl, _⟩ := e; exact ⟨h.b, fun _ _ => rfl, by simp⟩
    · split at e
      · split at e
        · simp at e
          obtain ⟨rfl, rfl, rfl, _⟩ := e
          refine ⟨?_, ?_, ?_⟩
          · intro r k' g off len q; simp at q; omega
          · intro i hi; simp only [at_put]; rw [if_neg (by omega)]
          · intro i hi; simp at hi; omega
        · simp at e
      · rename_i r k' g off len
        have hr := h.b r k' g off len rfl
        split at e
        · split at e
          · split at e
            · simp at e
              obtain ⟨rfl, rfl, rfl, _⟩ := e
              refine ⟨?_, ?_, ?_⟩
              · intro r2 k2 g2 o2 l2 q; simp at q; omega
              · intro i hi; simp only [at_put]; rw [if_neg (by omega)]
              · intro i hi; simp at hi; omega
            · split at e
              · simp at e
                obtain ⟨rfl, rfl, rfl, _⟩ := e
                refine ⟨?_, ?_, ?_⟩
                · intro r2 k2 g2 o2 l2 q; simp at q; omega
                · intro i hi; simp only [at_put]; rw [if_neg (by omega)]
                · intro i hi; simp at hi; omega
              · simp at e
          · simp at e
        · simp at e
      · simp at e
  exact ⟨v', H', wr, rd, e, ⟨e1, key.1⟩, e2, e3, key.2.1, key.2.2⟩
theorem VP_appN {E : Env} {f : FuncId} {N : Nat} {H : Heap} {slot k : Nat} {v : PV} {ys zs : List (List PV)} {G : PV × Heap × List Nat × List Nat → Option ORes} {dst : Option Nat} {rest : List CI} {i slot' : Nat} {st : St} {log : Log} {d : Option (Nat × List (Nat × Nat))} {ks : List Fr'} {K : Ex → St → Prop}
    (hl : LN N H k v ys) (hd : H.at_ slot = .dead) (hs : slot < H.n) (hN : N ≤ slot) (hz : allLen k zs = true) (hm : ys.length + zs.length ≤ most)
    (h : ∀ v' H' wr rd, LN N H' k v' (ys ++ zs) → H'.n = H.n → (∀ i cs, H.at_ i = .box cs → H'.at_ i = .box cs) → (∀ i, i < N → H'.at_ i = H.at_ i) → (∀ i ∈ wr, N ≤ i) → VP E f (G (v', H', wr, rd)) dst rest i slot' st log d ks K) : VP E f (ob (appendP H slot k v zs) G) dst rest i slot' st log d ks K := by
  obtain ⟨v', H', wr, rd, e1, e2, e3, e4, e5, e6⟩ := hl.app hd hs hN hz hm
  rw [e1]
  exact h v' H' wr rd e2 e3 e4 e5 e6
def Rd (res : List CR) (H : Heap) (K : PV → Heap → List Nat → Prop) (s : St) : Prop := ∃ v, (∃ is, (resV s res).bind (expV s.h) = some (v, is)) ∧ flatV v = true ∧ (∀ i, i < H.n → s.h.at_ i = H.at_ i) ∧ (∀ i ∈ s.wl, H.n ≤ i) ∧ K v H []
theorem Rd.mk {res : List CR} {H : Heap} {K : PV → Heap → List Nat → Prop} {s : St} (v : PV) (h : ∃ is, (resV s res).bind (expV s.h) = some (v, is)) (hf : flatV v = true) (hh : ∀ i, i < H.n → s.h.at_ i = H.at_ i) (hw : ∀ i ∈ s.wl, H.n ≤ i) (hk : K v H []) : Rd res H K s := ⟨v, h, hf, hh, hw, hk⟩
theorem IC_rd {E : Env} {g : FuncId} {cf : CF} {as : List PV} {H : Heap} {K : PV → Heap → List Nat → Prop} (hp : E.prim g = none) (hc : E.tab g = some cf) (h : V E g cf.body ⟨start as, H, []⟩ [] fun _ s => Rd cf.res H K s) : IC E g as H K := IC_read hp hc h
end Go.Evl.Zone

namespace Go.Evl.Zone
open Go Go.Evl
variable {P : Program}
def vint (n : Nat) : Bytes := if n < 128 then [UInt8.ofNat n] else UInt8.ofNat (n % 128 + 128) :: vint (n / 128)
termination_by n
decreasing_by omega
def ptext (s : Bytes) : Bytes := vint s.length ++ s
theorem vint_len : ∀ (k n : Nat), n < 128 ^ (k + 1) → (vint n).length ≤ k + 1
  | 0, n, h => by rw [vint, if_pos (by simpa using h)]; simp
  | k + 1, n, h => by
    rw [vint]
    split
    · simp
    · simp only [List.length_cons]
      have := vint_len k (n / 128) (by rw [Nat.pow_succ] at h; omega)
      omega
theorem vint_len9 {n : Nat} (h : n < 9223372036854775808) : (vint n).length ≤ 9 := vint_len 8 n (by simpa using h)
theorem wrapU {n : Int} : IntKind.u8.wrap n = n % 256 := rfl
theorem or128 {n : Int} (h : 0 ≤ n ∧ n < 256) : ∀ {t : TypeId} {cx cy : Bool}, evBin P .or t cx cy (.val (.int .u8 n)) (.val (.int .u8 128)) = some (.val (.int .u8 (n % 128 + 128))) := by
  intro t cx cy
  have e : evBin P .or t cx cy (.val (.int .u8 n)) (.val (.int .u8 128)) = some (.val (.int .u8 (IntKind.u8.wrap ((BitVec.ofInt 8 n ||| BitVec.ofInt 8 128).toNat : Int)))) := rfl
  rw [e]
  obtain ⟨m, rfl⟩ : ∃ m : Nat, n = m := ⟨n.toNat, by omega⟩
  have key : ∀ m : Fin 256, IntKind.u8.wrap ((BitVec.ofInt 8 (m.val : Int) ||| BitVec.ofInt 8 128).toNat : Int) = (m.val : Int) % 128 + 128 := by decide +kernel
  rw [key ⟨m, by omega⟩]
theorem shr7 {n : Int} (h : 0 ≤ n) : ∀ {t : TypeId} {cx cy : Bool}, evBin P .shr t cx cy (.val (.int .i64 n)) (.val (.int .u64 7)) = some (.val (.int .i64 (n / 128))) := by
  intro t cx cy
  have e : evBin P .shr t cx cy (.val (.int .i64 n)) (.val (.int .u64 7)) = some (.val (.int .i64 (n.fdiv (2 ^ 7)))) := rfl
  rw [e, Int.fdiv_eq_ediv_of_nonneg _ (by decide)]
  rfl
theorem u8_of {m : Nat} (h : m < 256) : ((UInt8.ofNat m).toNat : Int) = m := by
  rw [UInt8.toNat_ofNat_of_lt' (by simpa using h)]
theorem max0 {t : TypeId} {ts : Array TypeId} {n : Int} : evFun P .max ts t [.int .i64 n, .int .i64 0] = some (iv (max n 0)) := by
  have : evFun P .max ts t [.int .i64 n, .int .i64 0] = some (.val (.int .i64 (if 0 > n then 0 else n))) := rfl
  rw [this]
  congr 3
  split <;> omega
theorem cvU8 (T : Typed P) {n : Int} : scal P (Go.convert 3 5 (.int .i64 n)) = some (.val (.int .u8 (n % 256))) := by
  rw [cv_ii (by rw [T.t3]; rfl) T.t5, wrapU]
theorem En_u8 {m : Nat} (h : m < 256) : En [UInt8.ofNat m] = [[.val (.int .u8 (m : Int))]] := by
  rw [En_one, Enc_u8, u8_of h]
theorem loop_wput (T : Typed P) {H : Heap} {ks : List Fr'} {K : Ex → St → Prop} (n : Nat) (D : Bytes) (st : St) (v : PV) (hn : n < 9223372036854775808) (h1 : st.σ 1 = iv n) (h5 : st.σ 5 = v) (hl : LN H.n st.h 1 v (En D)) (hm : D.length + (vint n).length ≤ most) (hg : Gr H st.h)
    (hend : ∀ st' v m D', st'.σ 1 = iv (m : Nat) → m < 128 → st'.σ 5 = v → LN H.n st'.h 1 v (En D') → D' ++ [UInt8.ofNat m] = D ++ vint n → Gr H st'.h → VN (env P) 34 st' ks K) : V (env P) 34 (.loop L34_0) st (.blk 0 :: ks) K := by
  rw [V_loop]
  by_cases h : n < 128
  · have h' : ¬ (128 : Int) ≤ n := by omega
    simp [L34_0, h1, h5, h']
    refine hend _ v n D (by simp [h1]) h (by simp [h5]) (by simpa using hl.grow) ?_ hg.grow
    rw [vint, if_pos h]
  · have h' : (128 : Int) ≤ n := by omega
    have hc := cvU8 (P := P) T (n := (n : Int))
    have ho := fun t cx cy => @or128 P ((n : Int) % 256) (by omega) t cx cy
    have hs := fun t cx cy => @shr7 P (n : Int) (by omega) t cx cy
    have he : (n : Int) % 256 % 128 + 128 = ((n % 128 + 128 : Nat) : Int) := by omega
    have hd : (n : Int) / 128 = ((n / 128 : Nat) : Int) := by omega
    rw [he] at ho
    rw [hd] at hs
    have hv : vint n = UInt8.ofNat (n % 128 + 128) :: vint (n / 128) := by rw [vint, if_neg h]
    rw [hv] at hm hend
    simp only [List.length_cons] at hm
    have hE : [[PV.val (.int .u8 ((n % 128 + 128 : Nat) : Int))]] = En [UInt8.ofNat (n % 128 + 128)] := (En_u8 (by omega)).symm
    obtain ⟨q, hq⟩ : ∃ q, q = n % 128 + 128 := ⟨_, rfl⟩
    obtain ⟨r, hr⟩ : ∃ r, r = n / 128 := ⟨_, rfl⟩
    rw [← hq] at ho hend hE
    rw [← hr] at hs hm hend
    simp [L34_0, h1, h5, h', hc, ho, hs, chunks, elems, allLen]
    have hgn := hg.n
    refine VP_appN (ys := En D) (N := H.n) (by repeat (first | exact hl | refine LN.grow ?_)) (by simp) (by simp) (by simpa using hgn) rfl (by simp; omega) fun v' H' wr rd e2 e3 _ e5 _ => ?_
    simp [h1, hs]
    refine loop_wput T r (D ++ [UInt8.ofNat q]) _ v' (by omega) (by simp) (by simp) ?_ (by simp; omega) (Gr.grow ⟨by simp [e3]; omega, fun i hi => by rw [e5 i hi]; simp only [at_grow]; rw [if_pos (by omega), hg.at_ i hi]⟩) (fun st' v m D' a b c d e f => hend st' v m D' a b c d (by rw [e]; simp) f)
    rw [En_append, ← hE]
    simpa using e2.grow
termination_by n
decreasing_by omega
theorem pClone_ok {H : Heap} {k : Nat} {x : PV} {ys : List (List PV)} {is : List Nat} (h : elems H k x = some (ys, is)) (hk : allLen k ys = true) (hm : ys.length ≤ most) (hs : isStr x = false) :
    ∃ v H' wl, pClone k [x] H = some ⟨v, H', wl, some is⟩ ∧ LN H.n H' k v ys ∧ Gr H H' := by
  by_cases h0 : ys.length = 0
  · have : ys = [] := List.length_eq_zero_iff.1 h0
    subst this
    exact ⟨.im [] true, H.grow 1, [], by simp [pClone, h, hs], LN.nil, Gr.refl.grow⟩
  · refine ⟨_, _, _, by unfold pClone; simp only [h, hs]; rw [if_neg (by simp), if_neg h0, if_pos hm], ?_, (Gr.refl.grow).put (Nat.le_refl _)⟩
    exact ⟨.row H.n ys rfl (by simp) (Nat.le_refl _) List.take_length (by simp) hk, by intro r k' g off len q; simp at q; omega⟩
theorem clP {f : FuncId} {dst : Option Nat} {rest : List CI} {i slot slot' : Nat} {log : Log} {d : Option (Nat × List (Nat × Nat))} {K : Ex → St → Prop} {st : St} {ks : List Fr'} {xs : List O} :
    VA (env P) f (.call (.c (.fn 92 [])) xs) dst rest i slot slot' st log d ks K ↔ VP (env P) f (pClone 1 (xs.map (evO st.σ)) st.h) dst rest i slot' st log d ks K := VA_prim rfl
theorem wput_V (T : Typed P) {H : Heap} {b : Bytes} {fl : Bool} {n : Int} {K : Ex → St → Prop} (hn : n < 9223372036854775808) (hm : b.length + 12 ≤ most)
    (hend : ∀ st' v, st'.σ 4 = v → LN H.n st'.h 1 v (En (b ++ vint n.toNat)) → H.n < st'.h.n → Gr H st'.h → K .ret st') : V (env P) 34 c34.body ⟨start [.im (En b) fl, iv n], H, []⟩ [] K := by
  have he : elems (H.grow 0) 1 (.im (En b) fl) = some (En b, []) := by simp [elems]
  obtain ⟨v, H', wl, e1, e2, e3⟩ := pClone_ok he (by simp) (by simp; omega) rfl
  have hx := fun ts t => max0 (P := P) (t := t) (ts := ts) (n := n)
  have hmx : max n 0 = ((n.toNat : Nat) : Int) := by omega
  have hg := e3.n
  simp at hg
  rw [hmx] at hx
  have hn' : n.toNat < 9223372036854775808 := by omega
  have h9 := vint_len9 hn'
  simp [c34, clP, e1, hx]
  have hgr : Gr H H' := ⟨by simpa using e3.n, fun i hi => by rw [e3.at_ i (by simpa using hi)]; simp [hi]⟩
  simp at e2
  refine loop_wput T (H := H) n.toNat b _ v (by omega) (by simp) (by simp) (by repeat (first | exact e2 | refine LN.grow ?_)) (by omega) (by repeat (first | exact hgr | refine Gr.grow ?_)) ?_
  intro st' v2 m D' h1 hm2 h5 hl hD hG
  have hGn := hG.n
  have hc := cvU8 (P := P) T (n := (m : Int))
  have hmod : (m : Int) % 256 = m := by omega
  rw [hmod] at hc
  have hDl : D'.length + 1 ≤ most := by
    have := congrArg List.length hD
    simp at this
    omega
  simp [h1, h5, hc, chunks, elems, allLen]
  refine VP_appN (ys := En D') (N := H.n) (by repeat (first | exact hl | refine LN.grow ?_)) (by simp) (by simp) (by simpa using hGn) rfl (by simp; omega) fun v' H2 wr rd a2 a3 _ a5 _ => ?_
  simp
  refine hend _ v' (by simp) ?_ (by simp [a3]; omega) ⟨by simp [a3]; omega, fun i hi => by rw [a5 i hi]; simp only [at_grow]; rw [if_pos (by omega), hG.at_ i hi]⟩
  rw [← hD, En_append, En_u8 (by omega)]
  exact a2
theorem wput_ans (T : Typed P) {b : Bytes} {n : Int} (hn : n < 9223372036854775808) (hm : b.length + 12 ≤ most) : ans (env P) 34 [lv b, iv n] = some (lv (b ++ vint n.toNat)) := by
  refine ans_V rfl rfl ?_
  refine wput_V T hn hm fun st' v h4 hl _ _ => ?_
  simp [c34, h4]
  exact hl.l.expV (plainss_En _)
theorem wput_KC (T : Typed P) {H : Heap} {b : Bytes} {fl : Bool} {n : Int} {K : PV → Heap → List Nat → Prop} (hn : n < 9223372036854775808) (hm : b.length + 12 ≤ most)
    (h : ∀ v H' wl, LN H.n H' 1 v (En (b ++ vint n.toNat)) → Gr H H' → K v H' wl) : KC (env P) 34 [.im (En b) fl, iv n] H K := by
  refine KC_of rfl rfl (wput_V T hn hm fun st' v h4 hl hg hG => ⟨v, by simp [c34, h4], ?_⟩)
  rw [if_neg (by omega)]
  exact h _ _ _ hl hG
theorem wputText_ans (T : Typed P) {b s : Bytes} (hm : b.length + s.length + 12 ≤ most) : ans (env P) 38 [lv b, sv s] = some (lv (b ++ ptext s)) := by
  refine ans_V rfl rfl ?_
  have hs : ((s.length : Nat) : Int) < 9223372036854775808 := by unfold most at hm; omega
  have h9 := vint_len9 (n := s.length) (by omega)
  simp [c38, sv_size]
  refine VA_keep (g := 34) (caps := []) rfl rfl ?_
  simp
  refine wput_KC T hs (by omega) fun v H' wl hl hG => ?_
  have h0 := hG.at_ 0 (by simp)
  have h1 := hG.n
  simp at h0 h1
  simp [elems, bytesC_En]
  refine VP_app (ys := En (b ++ vint s.length)) (by simpa using hl.l) h0 (by omega) (by simp) (by simp; omega) fun v' H2 wr rd a2 a3 _ => ?_
  simp
  rw [← En_append, List.append_assoc] at a2
  exact a2.expV (plainss_En _)
end Go.Evl.Zone

namespace Go.Evl.Zone
open Go Go.Evl
variable {P : Program}
end Go.Evl.Zone

namespace Go.Evl.Zone
open Go Go.Evl
variable {P : Program}
def pAt (a : At) : Bytes := ptext a.id ++ vint a.n.toNat
def pVec (v : List At) : Bytes := vint v.length ++ (v.map pAt).flatten
def vI (n : Int) : Bytes := vint n.toNat
def pKRow (r : KRow) : Bytes := ptext r.id ++ vI r.upto ++ vint r.extra.length ++ (r.extra.map vI).flatten
def pKnow (k : List KRow) : Bytes := vint k.length ++ (k.map pKRow).flatten
def pMRow (r : MRow) : Bytes := ptext r.id ++ pVec r.vec
def okN (n : Int) : Prop := 0 ≤ n ∧ n < 9223372036854775808
theorem wputI (T : Typed P) {b : Bytes} {n : Int} (hn : okN n) (hm : b.length + 12 ≤ most) : ans (env P) 34 [lv b, iv n] = some (lv (b ++ vI n)) := wput_ans T hn.2 hm
theorem wputL (T : Typed P) {b : Bytes} {n : Nat} (hn : n ≤ most) (hm : b.length + 12 ≤ most) : ans (env P) 34 [lv b, iv n] = some (lv (b ++ vint n)) := by
  have := wput_ans (P := P) T (b := b) (n := (n : Int)) (by unfold most at hn; omega) hm
  simpa using this
theorem vI_len {n : Int} (h : okN n) : (vI n).length ≤ 9 := vint_len9 (by have := h.1; have := h.2; omega)
theorem vL_len {n : Nat} (h : n ≤ most) : (vint n).length ≤ 9 := vint_len9 (by unfold most at h; omega)
theorem putId_ans (T : Typed P) {b s : Bytes} (hm : b.length + s.length + 12 ≤ most) : ans (env P) 33 [lv b, sv s] = some (lv (b ++ ptext s)) := by
  have h := wputText_ans (P := P) T hm
  refine ans_V rfl rfl ?_
  simp [c33, h]
theorem ptext_len {s : Bytes} : (ptext s).length = (vint s.length).length + s.length := by simp [ptext]
theorem pputVec_loop  {v : List At} (T : Typed P) (hn : ∀ a ∈ v, okN a.n) {ks : List Fr'} {K : Ex → St → Prop} (hL : v.length ≤ most) : ∀ (rest : List At) (i : Nat) (D : Bytes) (st : St), v.drop i = rest → i ≤ v.length → st.σ 11 = lv v → st.σ 12 = iv v.length → st.σ 13 = iv i → st.σ 0 = lv D → D.length + (rest.map pAt).flatten.length + 240 ≤ most →
    (∀ st', st'.σ 0 = lv (D ++ (rest.map pAt).flatten) → VN (env P) 35 st' ks K) → V (env P) 35 (.loop L35_0) st (.blk 0 :: ks) K
  | [], i, D, st, hr, hile, h11, h12, hi, ha, hm, hend => by
    obtain ⟨hii, hlt, hd⟩ := drop_nil hr hile
    rw [V_loop]
    simp [L35_0, h11, h12, hi, hlt]
    exact hend _ (by simp [ha])
  | q :: rest, i, D, st, hr, hile, h11, h12, hi, ha, hm, hend => by
    obtain ⟨hq, hlt, hr', _⟩ := drop_cons hr
    have hmq := List.mem_of_getElem? hq
    have hc := En_at hq
    have hw := wrapS (i := i) (by unfold most at hL; omega)
    simp only [List.map_cons, List.flatten_cons, List.length_append] at hm
    obtain ⟨D1, hD1⟩ : ∃ x, x = D ++ ptext q.id := ⟨_, rfl⟩
    have hl1 := congrArg List.length hD1
    simp only [List.length_append] at hl1
    have hk1 := putId_ans (P := P) T (b := D) (s := q.id) (by simp only [pAt, ptext_len, List.length_append] at hm; omega)
    rw [← hD1] at hk1
    obtain ⟨D2, hD2⟩ : ∃ x, x = D1 ++ vI q.n := ⟨_, rfl⟩
    have hl2 := congrArg List.length hD2
    simp only [List.length_append] at hl2
    have hk2 := wputI (P := P) T (b := D1) (hn q hmq) (by simp only [pAt, ptext_len, List.length_append] at hm hl1; omega)
    rw [← hD2] at hk2
    rw [V_loop]
    simp [L35_0, h11, h12, hi, ha, hlt, hc, hw, hk1, hk2]
    refine pputVec_loop T hn hL rest (i + 1) D2 _ hr' (by omega) (by simp [h11]) (by simp [h12]) (by simp) (by simp) (by simp only [pAt, List.length_append] at hm hl1 hl2; simp only [vI] at hl2; omega) (fun st' a => hend st' (by rw [a]; simp [hD1, hD2, pAt, vI]))
theorem pputVec_ans (T : Typed P) {b : Bytes} {v : List At} (hn : ∀ a ∈ v, okN a.n) (hL : v.length ≤ most) (hm : b.length + (pVec v).length + 260 ≤ most) : ans (env P) 35 [lv b, lv v] = some (lv (b ++ pVec v)) := by
  refine ans_V rfl rfl ?_
  simp only [pVec, List.length_append] at hm
  have h := wputL (P := P) T (b := b) (n := v.length) hL (by omega)
  simp [c35, h]
  refine pputVec_loop T hn hL v 0 (b ++ vint v.length) _ rfl (by omega) (by simp) (by simp) (by simp) (by simp) (by simp only [List.length_append]; omega) ?_
  intro st' ha
  simp [ha, pVec, plainss_En]
end Go.Evl.Zone

namespace Go.Evl.Zone
open Go Go.Evl Go.Evl.Fl
variable {P : Program}
def pItem (q : Item) : Bytes := vI q.key ++ ptext q.id ++ vI q.seq ++ vI q.stamp ++
  (if q.dead then vI 0 else (if q.held then vI 2 else vI 1) ++ vI (q.x + 1000) ++ vI (q.y + 1000) ++ (if q.held then ptext q.text else []))
theorem kind_ans {q : Item} : ans (env P) 97 [.agg (itP q)] = some (iv (if q.dead then 0 else if q.held then 2 else 1)) := by
  refine ans_V rfl rfl ?_
  simp [c97]
  repeat' (first
    | (refine VG_sp (fun h => ?_) (fun h => ?_) <;> simp [h])
    | (refine VB_sp (fun h => ?_) (fun h => ?_) <;> simp [h]))
theorem itemR_facts {q : Item} (h : itemR q = true) : okN q.key ∧ okN q.seq ∧ okN q.stamp ∧ okN (q.x + 1000) ∧ okN (q.y + 1000) ∧ q.id.length ≤ 6 ∧ q.text.length ≤ 16 ∧ q.sm ∧ IntKind.i64.wrap (q.x + 1000) = q.x + 1000 ∧ IntKind.i64.wrap (q.y + 1000) = q.y + 1000 ∧ (q.dead = true → q.held = false) := by
  simp [itemR, verR, near] at h
  obtain ⟨⟨⟨⟨⟨⟨⟨a1, a2⟩, a3⟩, a4⟩, a5⟩, a6⟩, a7⟩, a8⟩ := h
  have hid : q.id.length ≤ 6 := by
    have := a3.1.1.1.1
    cases hq : q.id with
    | nil => simp
    | cons x r => rw [hq] at this; simp [idR] at this; simp; omega
  unfold okN Item.sm smI
  refine ⟨by omega, by omega, by omega, by omega, by omega, hid, a6, ⟨by omega, by omega⟩, wrap64_id (by omega), wrap64_id (by omega), ?_⟩
  intro hd
  simp [hd] at a7
  exact a7.2
theorem item_len {q : Item} (h : itemR q = true) : (pItem q).length ≤ 120 := by
  obtain ⟨h1, h2, h3, h4, h5, h6, h7, _⟩ := itemR_facts h
  have a1 := vI_len h1
  have a2 := vI_len h2
  have a3 := vI_len h3
  have a4 := vI_len h4
  have a5 := vI_len h5
  have a6 := vL_len (n := q.id.length) (by unfold most; omega)
  have a7 := vL_len (n := q.text.length) (by unfold most; omega)
  have b0 := vI_len (n := 0) ⟨by omega, by omega⟩
  have b1 := vI_len (n := 1) ⟨by omega, by omega⟩
  have b2 := vI_len (n := 2) ⟨by omega, by omega⟩
  unfold pItem
  simp only [List.length_append, ptext_len]
  split
  · omega
  · simp only [List.length_append]
    split <;> (simp only [ptext_len, List.length_nil]; omega)
end Go.Evl.Zone

namespace Go.Evl.Zone
open Go Go.Evl Go.Evl.Fl
variable {P : Program}
set_option maxHeartbeats 1000000 in
theorem itemPut_ans (T : TI P) {b : Bytes} {q : Item} (hr : itemR q = true) (hm : b.length + 200 ≤ most) : ans (env P) 40 [lv b, .agg (itP q)] = some (lv (b ++ pItem q)) := by
  obtain ⟨h1, h2, h3, h4, h5, h6, h7, h8, w1, w2, h9⟩ := itemR_facts hr
  have T1 := T.toTyped3.toTyped2.toTyped
  have hR := itemRight_ans (P := P) (q := q) h8
  rw [hr] at hR
  have hK := kind_ans (P := P) (q := q)
  have cx : scal P (Go.convert 165 3 (.float .f64 (fw q.x))) = some (iv q.x) := cv_fi (by rw [T1.t41]; rfl) T1.t3 (sm_is h8.1).toInt (by have := h8.1; unfold smI at this; show -9223372036854775808 ≤ q.x ∧ q.x ≤ 9223372036854775807; omega)
  have cy : scal P (Go.convert 165 3 (.float .f64 (fw q.y))) = some (iv q.y) := cv_fi (by rw [T1.t41]; rfl) T1.t3 (sm_is h8.2).toInt (by have := h8.2; unfold smI at this; show -9223372036854775808 ≤ q.y ∧ q.y ≤ 9223372036854775807; omega)
  obtain ⟨D1, e1⟩ : ∃ x, x = b ++ vI q.key := ⟨_, rfl⟩
  have l1 := congrArg List.length e1
  obtain ⟨D2, e2⟩ : ∃ x, x = D1 ++ ptext q.id := ⟨_, rfl⟩
  have l2 := congrArg List.length e2
  obtain ⟨D3, e3⟩ : ∃ x, x = D2 ++ vI q.seq := ⟨_, rfl⟩
  have l3 := congrArg List.length e3
  obtain ⟨D4, e4⟩ : ∃ x, x = D3 ++ vI q.stamp := ⟨_, rfl⟩
  have l4 := congrArg List.length e4
  have a1 := vI_len h1
  have a2 := vI_len h2
  have a3 := vI_len h3
  have a4 := vI_len h4
  have a5 := vI_len h5
  have a6 := vL_len (n := q.id.length) (by unfold most; omega)
  have b0 := vI_len (n := 0) ⟨by omega, by omega⟩
  have b1 := vI_len (n := 1) ⟨by omega, by omega⟩
  have b2 := vI_len (n := 2) ⟨by omega, by omega⟩
  simp only [List.length_append, ptext_len] at l1 l2 l3 l4
  have k1 := wputI (P := P) T1 (b := b) h1 (by omega)
  have k2 := wputText_ans (P := P) T1 (b := D1) (s := q.id) (by omega)
  have k3 := wputI (P := P) T1 (b := D2) h2 (by omega)
  have k4 := wputI (P := P) T1 (b := D3) h3 (by omega)
  rw [← e1] at k1
  rw [← e2] at k2
  rw [← e3] at k3
  rw [← e4] at k4
  have u1 : IntKind.i64.wrap 1 = 1 := rfl
  have u2 : IntKind.i64.wrap 2 = 2 := rfl
  have u3 : IntKind.i64.wrap 3 = 3 := rfl
  refine ans_V rfl rfl ?_
  by_cases hd : q.dead = true
  · have hh := h9 hd
    have k5 := wputI (P := P) T1 (b := D4) (n := 0) ⟨by omega, by omega⟩ (by omega)
    simp only [itP, hd, hh] at hR hK
    simp [c40, hR, hK, k1, k2, k3, k4, k5, hd, hh]
    rw [V_loop]
    simp [L40_0, k3, u1]
    rw [V_loop]
    simp [k4, u2]
    rw [V_loop]
    simp [k5, u3]
    rw [V_loop]
    simp
    simp [pItem, hd, e1, e2, e3, e4, plainss_En]
  · simp only [Bool.not_eq_true] at hd
    by_cases hh : q.held = true
    · have k5 := wputI (P := P) T1 (b := D4) (n := 2) ⟨by omega, by omega⟩ (by omega)
      obtain ⟨D5, e5⟩ : ∃ x, x = D4 ++ vI 2 := ⟨_, rfl⟩
      have l5 := congrArg List.length e5
      obtain ⟨D6, e6⟩ : ∃ x, x = D5 ++ vI (q.x + 1000) := ⟨_, rfl⟩
      have l6 := congrArg List.length e6
      obtain ⟨D7, e7⟩ : ∃ x, x = D6 ++ vI (q.y + 1000) := ⟨_, rfl⟩
      have l7 := congrArg List.length e7
      simp only [List.length_append] at l5 l6 l7
      have k6 := wputI (P := P) T1 (b := D5) h4 (by omega)
      have k7 := wputI (P := P) T1 (b := D6) h5 (by omega)
      have k8 := wputText_ans (P := P) T1 (b := D7) (s := q.text) (by omega)
      rw [← e5] at k5
      rw [← e6] at k6
      rw [← e7] at k7
      simp only [itP, hd, hh] at hR hK
      simp [c40, hR, hK, k1, k2, k3, k4, k5, hd, hh]
      rw [V_loop]
      simp [L40_0, k3, u1]
      rw [V_loop]
      simp [k4, u2]
      rw [V_loop]
      simp [k5, u3]
      rw [V_loop]
      simp [k6, k7, k8, hd, hh, w1, w2, cx, cy, fun_real, fun_imag]
      simp [pItem, hd, hh, e1, e2, e3, e4, e5, e6, e7, plainss_En]
    · simp only [Bool.not_eq_true] at hh
      have k5 := wputI (P := P) T1 (b := D4) (n := 1) ⟨by omega, by omega⟩ (by omega)
      obtain ⟨D5, e5⟩ : ∃ x, x = D4 ++ vI 1 := ⟨_, rfl⟩
      have l5 := congrArg List.length e5
      obtain ⟨D6, e6⟩ : ∃ x, x = D5 ++ vI (q.x + 1000) := ⟨_, rfl⟩
      have l6 := congrArg List.length e6
      simp only [List.length_append] at l5 l6
      have k6 := wputI (P := P) T1 (b := D5) h4 (by omega)
      have k7 := wputI (P := P) T1 (b := D6) h5 (by omega)
      rw [← e5] at k5
      rw [← e6] at k6
      simp only [itP, hd, hh] at hR hK
      simp [c40, hR, hK, k1, k2, k3, k4, k5, hd, hh]
      rw [V_loop]
      simp [L40_0, k3, u1]
      rw [V_loop]
      simp [k4, u2]
      rw [V_loop]
      simp [k5, u3]
      rw [V_loop]
      simp [k6, k7, hd, hh, w1, w2, cx, cy, fun_real, fun_imag]
      simp [pItem, hd, hh, e1, e2, e3, e4, e5, e6, plainss_En]
end Go.Evl.Zone

namespace Go.Evl.Zone
open Go Go.Evl
variable {P : Program}
structure Frame where
  kind : Int
  from_ : Bytes
  to : Bytes
  know : List KRow
  clock : Int
  members : List Bytes
  certs : List At
  rows : List MRow
  zone : List RS
  items : List Item
  whole : Bool
  floor : List At
noncomputable abbrev fP (f : Frame) : List PV := [iv f.kind, sv f.from_, sv f.to, lv f.know, iv f.clock, lv f.members, lv f.certs, lv f.rows, .im (stepsV (toSI f.zone)) false, lvP f.items, bv f.whole, lv f.floor]
abbrev fR (f : Frame) : List PV := [iv f.kind, sv f.from_, sv f.to, lv f.know, iv f.clock, lv f.members, lv f.certs, lv f.rows, .im (rsV f.zone) false, lvR f.items, bv f.whole, lv f.floor]
def pRows (m : List MRow) : Bytes := vint m.length ++ (m.map pMRow).flatten
def pMem (l : List Bytes) : Bytes := vint l.length ++ (l.map ptext).flatten
theorem pkI_loop  {v : List Int} (T : Typed P) (hn : ∀ n ∈ v, okN n) {ks : List Fr'} {K : Ex → St → Prop} (hL : v.length ≤ most) : ∀ (rest : List Int) (i : Nat) (D : Bytes) (st : St), v.drop i = rest → i ≤ v.length → st.σ 35 = lv v → st.σ 36 = iv v.length → st.σ 37 = iv i → st.σ 0 = lv D → D.length + (rest.map vI).flatten.length + 240 ≤ most →
    (∀ st', st'.σ 0 = lv (D ++ (rest.map vI).flatten) → st'.σ 13 = st.σ 13 → st'.σ 14 = st.σ 14 → st'.σ 15 = st.σ 15 → VN (env P) 37 st' ks K) → V (env P) 37 (.loop L37_0) st (.blk 2 :: ks) K
  | [], i, D, st, hr, hile, h35, h36, hi, ha, hm, hend => by
    obtain ⟨hii, hlt, hd⟩ := drop_nil hr hile
    rw [V_loop]
    simp [L37_0, h35, h36, hi, hlt]
    exact hend _ (by simp [ha]) (by simp) (by simp) (by simp)
  | q :: rest, i, D, st, hr, hile, h35, h36, hi, ha, hm, hend => by
    obtain ⟨hq, hlt, hr', _⟩ := drop_cons hr
    have hmq := List.mem_of_getElem? hq
    have hc := En_at hq
    have hw := wrapS (i := i) (by unfold most at hL; omega)
    simp only [List.map_cons, List.flatten_cons, List.length_append] at hm
    obtain ⟨D1, hD1⟩ : ∃ x, x = D ++ vI q := ⟨_, rfl⟩
    have hl1 := congrArg List.length hD1
    simp only [List.length_append] at hl1
    have hk1 := wputI (P := P) T (b := D) (hn q hmq) (by omega)
    rw [← hD1] at hk1
    rw [V_loop]
    simp [L37_0, h35, h36, hi, ha, hlt, hc, hw, hk1]
    refine pkI_loop T hn hL rest (i + 1) D1 _ hr' (by omega) (by simp [h35]) (by simp [h36]) (by simp) (by simp) (by simp only [vI, List.length_append] at hm hl1; omega) (fun st' a k13 k14 k15 => hend st' (by rw [a]; simp [hD1, vI]) (by rw [k13]; simp) (by rw [k14]; simp) (by rw [k15]; simp))
theorem pKRow_len (r : KRow) : (pKRow r).length = (vint r.id.length).length + r.id.length + (vI r.upto).length + (vint r.extra.length).length + (r.extra.map vI).flatten.length := by
  simp only [pKRow, ptext_len, List.length_append]
theorem pputKnow_loop {v : List KRow} (T : Typed P) (hn : ∀ r ∈ v, okN r.upto ∧ (∀ n ∈ r.extra, okN n) ∧ r.extra.length ≤ most) {ks : List Fr'} {K : Ex → St → Prop} (hL : v.length ≤ most) : ∀ (rest : List KRow) (i : Nat) (D : Bytes) (st : St), v.drop i = rest → i ≤ v.length → st.σ 13 = lv v → st.σ 14 = iv v.length → st.σ 15 = iv i → st.σ 0 = lv D → D.length + (rest.map pKRow).flatten.length + 240 ≤ most →
    (∀ st', st'.σ 0 = lv (D ++ (rest.map pKRow).flatten) → VN (env P) 37 st' ks K) → V (env P) 37 (.loop L37_1) st (.blk 0 :: ks) K
  | [], i, D, st, hr, hile, h13, h14, hi, ha, hm, hend => by
    obtain ⟨hii, hlt, hd⟩ := drop_nil hr hile
    rw [V_loop]
    simp [L37_1, h13, h14, hi, hlt]
    exact hend _ (by simp [ha])
  | q :: rest, i, D, st, hr, hile, h13, h14, hi, ha, hm, hend => by
    obtain ⟨hq, hlt, hr', _⟩ := drop_cons hr
    obtain ⟨n1, n2, n3⟩ := hn q (List.mem_of_getElem? hq)
    have hc := En_at hq
    have hw := wrapS (i := i) (by unfold most at hL; omega)
    simp only [List.map_cons, List.flatten_cons, List.length_append, pKRow_len] at hm
    obtain ⟨D1, e1⟩ : ∃ x, x = D ++ ptext q.id := ⟨_, rfl⟩
    have l1 := congrArg List.length e1
    obtain ⟨D2, e2⟩ : ∃ x, x = D1 ++ vI q.upto := ⟨_, rfl⟩
    have l2 := congrArg List.length e2
    obtain ⟨D3, e3⟩ : ∃ x, x = D2 ++ vint q.extra.length := ⟨_, rfl⟩
    have l3 := congrArg List.length e3
    simp only [List.length_append, ptext_len] at l1 l2 l3
    have k1 := putId_ans (P := P) T (b := D) (s := q.id) (by omega)
    have k2 := wputI (P := P) T (b := D1) n1 (by omega)
    have k3 := wputL (P := P) T (b := D2) n3 (by omega)
    rw [← e1] at k1
    rw [← e2] at k2
    rw [← e3] at k3
    rw [V_loop]
    simp [L37_1, h13, h14, hi, ha, hlt, hc, hw, k1, k2, k3]
    refine pkI_loop T n2 n3 q.extra 0 D3 _ rfl (by omega) (by simp) (by simp) (by simp) (by simp) (by omega) ?_
    intro st' a k13 k14 k15
    simp at k13 k14 k15
    simp [k15, hi, hw]
    refine pputKnow_loop T hn hL rest (i + 1) (D3 ++ (q.extra.map vI).flatten) _ hr' (by omega) (by simp [k13, h13]) (by simp [k14, h14]) (by simp) (by simp [a]) (by simp only [List.length_append]; omega) (fun st' a => hend st' (by rw [a]; simp [e1, e2, e3, pKRow]))
theorem pputKnow_ans (T : Typed P) {b : Bytes} {v : List KRow} (hn : ∀ r ∈ v, okN r.upto ∧ (∀ n ∈ r.extra, okN n) ∧ r.extra.length ≤ most) (hL : v.length ≤ most) (hm : b.length + (pKnow v).length + 260 ≤ most) : ans (env P) 37 [lv b, lv v] = some (lv (b ++ pKnow v)) := by
  refine ans_V rfl rfl ?_
  simp only [pKnow, List.length_append] at hm
  have h := wputL (P := P) T (b := b) (n := v.length) hL (by omega)
  simp [c37, h]
  refine pputKnow_loop T hn hL v 0 (b ++ vint v.length) _ rfl (by omega) (by simp) (by simp) (by simp) (by simp) (by simp only [List.length_append]; omega) ?_
  intro st' ha
  simp [ha, pKnow, plainss_En]
theorem pmem_loop  {v : List Bytes} {f : Frame} (T : Typed P) {ks : List Fr'} {K : Ex → St → Prop} (hL : v.length ≤ most) : ∀ (rest : List Bytes) (i : Nat) (D : Bytes) (st : St), v.drop i = rest → i ≤ v.length → (∃ p, st.σ 3 = .ptr p 0 ∧ st.h.at_ p = .box (fP f) ∧ p < st.h.n) → st.σ 15 = lv v → st.σ 16 = iv v.length → st.σ 17 = iv i → st.σ 0 = lv D → D.length + (rest.map ptext).flatten.length + 240 ≤ most →
    (∀ st', (∃ p, st'.σ 3 = .ptr p 0 ∧ st'.h.at_ p = .box (fP f) ∧ p < st'.h.n) → st'.σ 0 = lv (D ++ (rest.map ptext).flatten) → VN (env P) 36 st' ks K) → V (env P) 36 (.loop L36_0) st (.blk 0 :: ks) K
  | [], i, D, st, hr, hile, ⟨p, hb, hp, hpn⟩, h15, h16, hi, ha, hm, hend => by
    obtain ⟨hii, hlt, hd⟩ := drop_nil hr hile
    rw [V_loop]
    simp [L36_0, hb, hp, hpn, h15, h16, hi, hlt]
    exact hend _ ⟨p, by simp [hb], by simp [hp, hpn], by simp; omega⟩ (by simp [ha])
  | q :: rest, i, D, st, hr, hile, ⟨p, hb, hp, hpn⟩, h15, h16, hi, ha, hm, hend => by
    obtain ⟨hq, hlt, hr', _⟩ := drop_cons hr
    have hmq := List.mem_of_getElem? hq
    have hc := En_at hq
    have hw := wrapS (i := i) (by unfold most at hL; omega)
    simp only [List.map_cons, List.flatten_cons, List.length_append] at hm
    have hne : ¬ p = st.h.n := by omega
    obtain ⟨D1, hD1⟩ : ∃ x, x = D ++ ptext q := ⟨_, rfl⟩
    have hl1 := congrArg List.length hD1
    simp only [List.length_append] at hl1
    have hk1 := putId_ans (P := P) T (b := D) (s := q) (by simp only [ptext_len] at hm; omega)
    rw [← hD1] at hk1
    rw [V_loop]
    simp [L36_0, hb, hp, hpn, h15, h16, hi, ha, hlt, hc, hw, hk1]
    refine pmem_loop (f := f) T hL rest (i + 1) D1 _ hr' (by omega) ⟨p, by simp [hb], by simp [hp, hpn, hne], by simp; omega⟩ (by simp [h15]) (by simp [h16]) (by simp) (by simp) (by simp only [ptext_len, List.length_append] at hm hl1; omega) (fun st' x a => hend st' x (by rw [a]; simp [hD1, ptext_len]))
theorem prow_loop  {v : List MRow} (T : Typed P) (hn : ∀ r ∈ v, (∀ a ∈ r.vec, okN a.n) ∧ r.vec.length ≤ most) {ks : List Fr'} {K : Ex → St → Prop} (hL : v.length ≤ most) : ∀ (rest : List MRow) (i : Nat) (D : Bytes) (st : St), v.drop i = rest → i ≤ v.length → st.σ 34 = lv v → st.σ 35 = iv v.length → st.σ 36 = iv i → st.σ 0 = lv D → D.length + (rest.map pMRow).flatten.length + 300 ≤ most →
    (∀ st', st'.σ 0 = lv (D ++ (rest.map pMRow).flatten) → VN (env P) 36 st' ks K) → V (env P) 36 (.loop L36_1) st (.blk 2 :: ks) K
  | [], i, D, st, hr, hile, h34, h35, hi, ha, hm, hend => by
    obtain ⟨hii, hlt, hd⟩ := drop_nil hr hile
    rw [V_loop]
    simp [L36_1, h34, h35, hi, hlt]
    exact hend _ (by simp [ha])
  | q :: rest, i, D, st, hr, hile, h34, h35, hi, ha, hm, hend => by
    obtain ⟨hq, hlt, hr', _⟩ := drop_cons hr
    have hmq := List.mem_of_getElem? hq
    have hc := En_at hq
    have hw := wrapS (i := i) (by unfold most at hL; omega)
    simp only [List.map_cons, List.flatten_cons, List.length_append] at hm
    obtain ⟨D1, hD1⟩ : ∃ x, x = D ++ ptext q.id := ⟨_, rfl⟩
    have hl1 := congrArg List.length hD1
    simp only [List.length_append] at hl1
    have hk1 := putId_ans (P := P) T (b := D) (s := q.id) (by simp only [pMRow, ptext_len, List.length_append] at hm; omega)
    rw [← hD1] at hk1
    obtain ⟨D2, hD2⟩ : ∃ x, x = D1 ++ pVec q.vec := ⟨_, rfl⟩
    have hl2 := congrArg List.length hD2
    simp only [List.length_append] at hl2
    have hk2 := pputVec_ans (P := P) T (b := D1) (v := q.vec) (hn q hmq).1 (hn q hmq).2 (by simp only [pMRow, List.length_append] at hm hl1; omega)
    rw [← hD2] at hk2
    rw [V_loop]
    simp [L36_1, h34, h35, hi, ha, hlt, hc, hw, hk1, hk2]
    refine prow_loop T hn hL rest (i + 1) D2 _ hr' (by omega) (by simp [h34]) (by simp [h35]) (by simp) (by simp) (by simp only [pMRow, List.length_append] at hm hl1 hl2; omega) (fun st' a => hend st' (by rw [a]; simp [hD1, hD2, pMRow]))
theorem pputRows_ans (T : Typed P) {b : Bytes} {f : Frame} (hc : ∀ a ∈ f.certs, okN a.n) (hr : ∀ r ∈ f.rows, (∀ a ∈ r.vec, okN a.n) ∧ r.vec.length ≤ most) (h1 : f.members.length ≤ most) (h2 : f.certs.length ≤ most) (h3 : f.rows.length ≤ most) (hm : b.length + (pMem f.members).length + (pVec f.certs).length + (pRows f.rows).length + 400 ≤ most) : ans (env P) 36 [lv b, .agg (fP f)] = some (lv (b ++ pMem f.members ++ pVec f.certs ++ pRows f.rows)) := by
  refine ans_V rfl rfl ?_
  obtain ⟨D1, e1⟩ : ∃ x, x = b ++ vint f.members.length := ⟨_, rfl⟩
  have l1 := congrArg List.length e1
  obtain ⟨D2, e2⟩ : ∃ x, x = D1 ++ (f.members.map ptext).flatten := ⟨_, rfl⟩
  have l2 := congrArg List.length e2
  obtain ⟨D3, e3⟩ : ∃ x, x = D2 ++ pVec f.certs := ⟨_, rfl⟩
  have l3 := congrArg List.length e3
  obtain ⟨D4, e4⟩ : ∃ x, x = D3 ++ vint f.rows.length := ⟨_, rfl⟩
  have l4 := congrArg List.length e4
  simp only [List.length_append] at l1 l2 l3 l4
  simp only [pMem, pRows, List.length_append] at hm
  have k1 := wputL (P := P) T (b := b) (n := f.members.length) h1 (by omega)
  have k3 := pputVec_ans (P := P) T (b := D2) (v := f.certs) hc h2 (by omega)
  have k4 := wputL (P := P) T (b := D3) (n := f.rows.length) h3 (by omega)
  rw [← e1] at k1
  rw [← e3] at k3
  rw [← e4] at k4
  simp [c36, k1]
  refine pmem_loop (f := f) T h1 f.members 0 D1 _ rfl (by omega) ⟨0, by simp, by simp, by simp⟩ (by simp) (by simp) (by simp) (by simp) (by omega) ?_
  rintro st' ⟨p, hb, hp, hpn⟩ a
  rw [← e2] at a
  simp [hb, hp, hpn, a, k3, k4]
  refine prow_loop T hr h3 f.rows 0 D4 _ rfl (by omega) (by simp) (by simp) (by simp) (by simp) (by omega) ?_
  intro st2 a2
  simp [a2, plainss_En, pMem, pRows, e1, e2, e3, e4]
end Go.Evl.Zone

namespace Go.Evl.Zone
open Go Go.Evl
variable {P : Program}
theorem idR_len {s : Bytes} (h : idR s = true) : s.length ≤ 6 := by
  cases s with
  | nil => simp
  | cons b r => simp [idR] at h; simp; omega
abbrev idB (s : Bytes) : Bytes := s
def idOK (s : Bytes) : Bool := idR s
def memR (l : List Bytes) : Bool := chk idOK idB none l && decide (l.length ≤ 64)
def vecOK (v : List At) : Bool := decide (v.length ≤ 64) && vecR v
def rowsOK (m : List MRow) : Bool := decide (m.length ≤ 64) && matR m && m.all fun r => decide (r.vec.length ≤ 64)
def itOK (kind : Int) (q : Item) : Bool := itemR q && !(decide (kind = 1) && (q.dead || q.held))
def itemsOK (kind : Int) (l : List Item) : Bool := decide (l.length ≤ 32) && l.all (itOK kind)
def listsR (f : Frame) : Bool := decide (f.know.length ≤ 64) && knowR f.know && decide (0 ≤ f.clock) && decide (f.clock ≤ 1048576) && memR f.members && vecOK f.certs && rowsOK f.rows && itemsOK f.kind f.items && decide (f.floor = [])
def bareR (f : Frame) : Bool := decide (f.know = []) && decide (f.clock = 0) && decide (f.members = []) && decide (f.certs = []) && decide (f.rows = []) && decide (f.zone = []) && decide (f.items = []) && !f.whole
noncomputable def frameR (f : Frame) : Bool := idR f.from_ && idR f.to && (if f.kind = 1 then listsR f && zoneRight (toSI f.zone) && !f.whole else if f.kind = 2 then listsR f && decide (f.zone = []) else if f.kind = 3 then bareR f && vecOK f.floor else false)
theorem pMem_loop {v : List Bytes} {ks : List Fr'} {K : Ex → St → Prop} (hL : v.length ≤ most) : ∀ (rest : List Bytes) (i : Nat) (prev : Option Bytes) (st : St), v.drop i = rest → i ≤ v.length → prevAt v i prev → st.σ 0 = lv v → st.σ 5 = lv v → st.σ 6 = iv v.length → st.σ 7 = iv i →
    (∀ st', chk idOK idB prev rest = false → st'.σ 2 = bv false → K .ret st') → (∀ st', st'.σ 0 = lv v → chk idOK idB prev rest = true → VN (env P) 130 st' ks K) → V (env P) 130 (.loop L130_0) st (.blk 0 :: ks) K
  | [], i, prev, st, hr, hile, hp, h0, h5, h6, hi, hret, hend => by
    obtain ⟨hii, hlt, hd⟩ := drop_nil hr hile
    rw [V_loop]
    simp [L130_0, h0, h5, h6, hi, hlt]
    exact hend _ (by simp [h0]) rfl
  | q :: rest, i, prev, st, hr, hile, hp, h0, h5, h6, hi, hret, hend => by
    obtain ⟨hq, hlt, hr', _⟩ := drop_cons hr
    have hm := List.mem_of_getElem? hq
    have hc := En_at hq
    have hw := wrapS (i := i) (by unfold most at hL; omega)
    have hR := idRight_ans (P := P) (s := q)
    rw [V_loop]
    rcases Nat.eq_zero_or_pos i with rfl | hpos
    · obtain rfl : prev = none := hp
      simp at hw
      simp [L130_0, h0, h5, h6, hi, hlt, hc, hw, hR]
      repeat' (first
        | (refine VG_sp (fun h => ?_) (fun h => ?_) <;> simp [h, h0, h5, h6, hi, hlt, hc, hw, hR])
        | (refine VB_sp (fun h => ?_) (fun h => ?_) <;> simp [h, h0, h5, h6, hi, hlt, hc, hw, hR]))
      all_goals first
        | exact hret _ (by simp_all [chk, idOK, vecR] <;> (intros; (try simp only [idB] at *); first | omega | (exfalso; simp_all; done) | (exfalso; simp_all; omega))) (by simp)
        | exact pMem_loop  hL rest 1 (some q) _ hr' (by omega) (prevAt_succ hq) (by simp [h0]) (by simp [h5]) (by simp [h6]) (by simp [hw]) (fun st' x y => hret st' (by simp_all [chk, idOK, vecR]) y) (fun st' x0 x => hend st' x0 (by simp_all [chk, idOK, vecR] <;> omega))
    · obtain ⟨p, hpj, rfl⟩ := prevAt_pos hpos hp
      have hcp := En_at hpj
      have hmp := List.mem_of_getElem? hpj
      have hw1 := wrapP hpos (by unfold most at hL; omega)
      have hjl : i - 1 < v.length := by omega
      have hcmp := idCompare_ans (P := P) (a := p) (b := q)
      try simp at hcmp
      simp [L130_0, h0, h5, h6, hi, hlt, hc, hw, hR, hcp, hw1, hjl, hcmp, hpos]
      repeat' (first
        | (refine VG_sp (fun h => ?_) (fun h => ?_) <;> simp [h, h0, h5, h6, hi, hlt, hc, hw, hR, hcp, hw1, hjl, hcmp, hpos])
        | (refine VB_sp (fun h => ?_) (fun h => ?_) <;> simp [h, h0, h5, h6, hi, hlt, hc, hw, hR, hcp, hw1, hjl, hcmp, hpos]))
      all_goals first
        | exact hret _ (by simp_all [chk, idOK, vecR] <;> (intros; (try simp only [idB] at *); first | omega | (exfalso; simp_all; done) | (exfalso; simp_all; omega))) (by simp)
        | exact pMem_loop  hL rest (i + 1) (some q) _ hr' (by omega) (prevAt_succ hq) (by simp [h0]) (by simp [h5]) (by simp [h6]) (by simp [hw]) (fun st' x y => hret st' (by simp_all [chk, idOK, vecR]) y) (fun st' x0 x => hend st' x0 (by simp_all [chk, idOK, vecR] <;> omega))
theorem pMem_ans {v : List Bytes} (hL : v.length ≤ most) : ans (env P) 130 [lv v] = some (bv (memR v)) := by
  refine ans_V rfl rfl ?_
  simp [c130]
  refine pMem_loop hL v 0 none _ rfl (by omega) rfl (by simp) (by simp) (by simp) (by simp) ?_ ?_
  · intro st' h h2; simp [h2, memR, h]
  · intro st' h0 h; simp [memR, h, h0]; omega
theorem pvecOK_ans {v : List At} (hL : v.length ≤ most) : ans (env P) 76 [lv v] = some (bv (vecOK v)) := by
  refine ans_V rfl rfl ?_
  have hV := pVec_ans (P := P) (v := v) hL
  simp [c76, hV]
  repeat' (first
    | (refine VG_sp (fun h => ?_) (fun h => ?_) <;> simp [h, hV])
    | (refine VB_sp (fun h => ?_) (fun h => ?_) <;> simp [h, hV]))
  all_goals first
    | (simp_all [vecOK, vecR]; done)
    | (simp_all [vecOK, vecR] <;> intros <;> first | omega | (exfalso; omega) | (simp_all; done) | (simp_all; omega) | (exfalso; simp_all; done))
theorem rvecOK_ans {v : List At} (hb : ∀ a ∈ v, a.id.length ≤ big) (hL : v.length ≤ most) : ans (env P) 114 [lv v] = some (bv (vecOK v)) := by
  refine ans_V rfl rfl ?_
  have hV := rVec_ans (P := P) (v := v) hb hL
  simp [c114, hV]
  repeat' (first
    | (refine VG_sp (fun h => ?_) (fun h => ?_) <;> simp [h, hV])
    | (refine VB_sp (fun h => ?_) (fun h => ?_) <;> simp [h, hV]))
  all_goals first
    | (simp_all [vecOK, vecR]; done)
    | (simp_all [vecOK, vecR] <;> intros <;> first | omega | (exfalso; omega) | (simp_all; done) | (simp_all; omega) | (exfalso; simp_all; done))
theorem rows1_ans {r : MRow} : ans (env P) 170 [.agg [sv r.id, lv r.vec]] = some (bv (decide (64 < r.vec.length))) := by
  refine ans_V rfl rfl ?_
  simp [c170]
  omega
theorem idxMat_loop {v : List MRow} {g : FuncId} {pr : MRow → Bool} (hg : ∀ q ∈ v, ans (env P) g [.agg [sv q.id, lv q.vec]] = some (bv (pr q))) (hp : (prim g).isNone = true) (hh : (inlF g || keepF 188 g) = false) {ks : List Fr'} {K : Ex → St → Prop} (hL : v.length ≤ most) : ∀ (rest : List MRow) (i : Nat) (st : St), v.drop i = rest → i ≤ v.length → st.σ 0 = lv v → st.σ 1 = .fn g [] → st.σ 7 = iv v.length → st.σ 8 = iv i →
    (∀ st' (j : Nat), rest.any pr = true → st'.σ 4 = iv j → K .ret st') → (∀ st', rest.any pr = false → VN (env P) 188 st' ks K) → V (env P) 188 (.loop L188_0) st (.blk 0 :: ks) K
  | [], i, st, hr, hile, h0, h1, h7, hi, hret, hend => by
    obtain ⟨hii, hlt, hd⟩ := drop_nil hr hile
    rw [V_loop]
    simp [L188_0, h0, h1, h7, hi, hlt]
    exact hend _ rfl
  | q :: rest, i, st, hr, hile, h0, h1, h7, hi, hret, hend => by
    obtain ⟨hq, hlt, hr', _⟩ := drop_cons hr
    have hc := En_at hq
    have hk := hg q (List.mem_of_getElem? hq)
    have hw := wrapS (i := i) (by unfold most at hL; omega)
    rw [V_loop]
    simp [L188_0, h0, h1, h7, hi, hlt, hc, hw]
    rw [VA_ownT (g := g) (by simp [h1]) hp (by simp only [Bool.or_eq_false_iff] at hh; show howF _ g = .own; unfold howF; rw [hh.1, hh.2]; rfl)]
    simp [hk, h0, h1, h7, hi, hw]
    refine VB_sp (fun h => ?_) (fun h => ?_)
    · simp
      exact hret _ i (by simp [h]) (by simp)
    · simp [hi, hw]
      exact idxMat_loop hg hp hh hL rest (i + 1) _ hr' (by omega) (by simp [h0]) (by simp [h1]) (by simp [h7]) (by simp) (fun st' j a b => hret st' j (by simp [a]) b) (fun st' a => hend st' (by simp [a, h]))
theorem conMat_ans {v : List MRow} {g : FuncId} {pr : MRow → Bool} (hg : ∀ q ∈ v, ans (env P) g [.agg [sv q.id, lv q.vec]] = some (bv (pr q))) (hp : (prim g).isNone = true) (hh : (inlF g || keepF 188 g) = false) (hL : v.length ≤ most) : ans (env P) 169 [lv v, .fn g []] = some (bv (v.any pr)) := by
  have hi : ∃ j : Int, ans (env P) 188 [lv v, .fn g []] = some (iv j) ∧ (0 ≤ j ↔ v.any pr = true) := by
    by_cases h : v.any pr = true
    · have : ∃ j : Nat, ans (env P) 188 [lv v, .fn g []] = some (iv j) := by
        have key : ∃ j : Nat, V (env P) 188 c188.body ⟨start [lv v, .fn g []], Heap.empty, []⟩ [] fun _ st => ∃ j' : Nat, st.σ 4 = iv j' := by
          refine ⟨0, ?_⟩
          simp [c188]
          refine idxMat_loop hg hp hh hL v 0 _ rfl (by omega) (by simp) (by simp) (by simp) (by simp) ?_ ?_
          · intro st' j _ h4; exact ⟨j, h4⟩
          · intro st' hn; rw [h] at hn; cases hn
        obtain ⟨_, n, e, st, hev, j, hj⟩ := key
        exact ⟨j, ans_of ⟨_, rfl, rfl, n, e, st, [], hev, by simp [c188, hj]⟩⟩
      obtain ⟨j, hj⟩ := this
      exact ⟨j, hj, by simp [h]⟩
    · refine ⟨-1, ?_, by simp [h]⟩
      refine ans_V rfl rfl ?_
      simp [c188]
      refine idxMat_loop hg hp hh hL v 0 _ rfl (by omega) (by simp) (by simp) (by simp) (by simp) ?_ ?_
      · intro st' j hn _; exact (h hn).elim
      · intro st' _; simp
  obtain ⟨j, h1, h2⟩ := hi
  refine ans_V rfl rfl ?_
  by_cases h : v.any pr = true
  · have := h2.2 h
    rw [h]
    simp [c169, h1, this]
  · have : ¬ 0 ≤ j := fun x => h (h2.1 x)
    simp only [Bool.not_eq_true] at h
    rw [h]
    simp [c169, h1, this]
theorem rowsRight_ans {m : List MRow} (he : ∀ a ∈ m, a.vec.length ≤ most) (hL : m.length ≤ most) : ans (env P) 131 [lv m] = some (bv (rowsOK m)) := by
  refine ans_V rfl rfl ?_
  have hM := pMat_ans (P := P) (v := m) he hL
  have hC := conMat_ans (P := P) (v := m) (g := 170) (pr := fun r => decide (64 < r.vec.length)) (fun q _ => rows1_ans) rfl rfl hL
  have hx : (m.all fun r => decide (r.vec.length ≤ 64)) = !(m.any fun r => decide (64 < r.vec.length)) := by
    rw [List.not_any_eq_all_not]
    congr 1
    funext r
    by_cases h : 64 < r.vec.length
    · simp [h]
    · simp [h]; omega
  simp [c131, hM, hC]
  repeat' (first
    | (refine VG_sp (fun h => ?_) (fun h => ?_) <;> simp [h, hM, hC])
    | (refine VB_sp (fun h => ?_) (fun h => ?_) <;> simp [h, hM, hC]))
  all_goals first
    | (simp_all [rowsOK, matR]; done)
    | (simp_all [rowsOK, matR] <;> intros <;> first | omega | (exfalso; omega) | (simp_all; done))
end Go.Evl.Zone

namespace Go.Evl.Zone
open Go Go.Evl
variable {P : Program}
theorem items1_IC {q : Item} (hs : q.sm) {kind : Int} {p : Nat} {H : Heap} (hp : H.at_ p = .box [iv kind]) (hpn : p < H.n) {K : PV → Heap → List Nat → Prop} (hk : K (bv (!itOK kind q)) H []) : IC (env P) 172 [.agg (itP q), .ptr p 0] H K := by
  refine IC_rd rfl rfl ?_
  have hR := itemRight_ans (P := P) hs
  have hne : ¬ p = H.n := by omega
  have hp1 : p < H.n + 1 := by omega
  simp [c172, hR, hp, hpn, hne, hp1]
  repeat' (first
    | (refine VG_sp (fun h => ?_) (fun h => ?_) <;> simp [h, hR, hp, hpn, hne, hp1])
    | (refine VB_sp (fun h => ?_) (fun h => ?_) <;> simp [h, hR, hp, hpn, hne, hp1]))
  all_goals
    refine Rd.mk (bv (!itOK kind q)) ?_ rfl ?_ ?_ hk
    · simp_all [itOK]
    · intro i hi
      have hi2 : ¬ i = H.n := by omega
      simp [hi2, hi]
      try omega
    · simp
theorem idxItems_loop {l : List Item} {g : FuncId} {caps : List PV} {pr : Item → Bool} {H : Heap} (hh : inlF g = true) (hg : ∀ q ∈ l, ∀ H', Gr H H' → ∀ K : PV → Heap → List Nat → Prop, K (bv (pr q)) H' [] → IC (env P) g (.agg (itP q) :: caps) H' K) {ks : List Fr'} {K : Ex → St → Prop} (hL : l.length ≤ most) : ∀ (rest : List Item) (i : Nat) (st : St), l.drop i = rest → i ≤ l.length → st.σ 0 = lvP l → st.σ 1 = .fn g caps → st.σ 7 = iv l.length → st.σ 8 = iv i → Gr H st.h → st.wl = [] →
    (∀ st' (j : Nat), rest.any pr = true → st'.σ 4 = iv j → Gr H st'.h → st'.wl = [] → K .ret st') → (∀ st', rest.any pr = false → Gr H st'.h → st'.wl = [] → VN (env P) 189 st' ks K) → V (env P) 189 (.loop L189_0) st (.blk 0 :: ks) K
  | [], i, st, hr, hile, h0, h1, h7, hi, hG, hw0, hret, hend => by
    obtain ⟨hii, hlt, hd⟩ := drop_nil hr hile
    rw [V_loop]
    simp [L189_0, h0, h1, h7, hi, hlt]
    exact hend _ rfl hG.grow hw0
  | q :: rest, i, st, hr, hile, h0, h1, h7, hi, hG, hw0, hret, hend => by
    obtain ⟨hq, hlt, hr', _⟩ := drop_cons hr
    have hc := EnP_at hq
    have hw := wrapS (i := i) (by unfold most at hL; omega)
    rw [V_loop]
    simp [L189_0, h0, h1, h7, hi, hlt, hc, hw, hw0]
    refine VA_inl (g := g) (caps := caps) ?_ ?_ ?_
    · simp [h1]
    · show howF _ g = .inl; unfold howF; rw [hh]; rfl
    try simp only [List.map_cons, List.map_nil, List.cons_append, List.nil_append]
    simp only [evO_t, put_if]
    refine hg q (List.mem_of_getElem? hq) _ (by repeat (first | exact hG | refine Gr.grow ?_)) _ ?_
    simp [hi, hw]
    refine VB_sp (fun h => ?_) (fun h => ?_)
    · simp
      exact hret _ i (by simp [h]) (by simp) (by repeat (first | exact hG | refine Gr.grow ?_)) rfl
    · simp [hi, hw]
      exact idxItems_loop hh hg hL rest (i + 1) _ hr' (by omega) (by simp [h0]) (by simp [h1]) (by simp [h7]) (by simp) (by repeat (first | exact hG | refine Gr.grow ?_)) rfl (fun st' j a b => hret st' j (by simp [a]) b) (fun st' a => hend st' (by simp [a, h]))
theorem idxItems_IC {l : List Item} {g : FuncId} {caps : List PV} {pr : Item → Bool} {H : Heap} (hh : inlF g = true) (hg : ∀ q ∈ l, ∀ H', Gr H H' → ∀ K : PV → Heap → List Nat → Prop, K (bv (pr q)) H' [] → IC (env P) g (.agg (itP q) :: caps) H' K) (hL : l.length ≤ most) {K : PV → Heap → List Nat → Prop}
    (h : ∀ j : Int, (0 ≤ j ↔ l.any pr = true) → K (iv j) H []) : IC (env P) 189 [lvP l, .fn g caps] H K := by
  refine IC_rd rfl rfl ?_
  simp [c189]
  refine idxItems_loop hh hg hL l 0 _ rfl (by omega) (by simp) (by simp) (by simp) (by simp) (by repeat (first | exact Gr.refl | refine Gr.grow ?_)) rfl ?_ ?_
  · intro st' j ha h4 hG hw
    exact Rd.mk (iv j) ⟨[], by simp [h4]⟩ rfl hG.at_ (by simp [hw]) (h j (by simp [ha]))
  · intro st' ha hG hw
    simp [hw]
    refine Rd.mk (iv (-1)) ⟨[], by simp⟩ rfl ?_ (by simp [hw]) (h (-1) (by simp [ha]))
    intro i hi
    have := hG.n
    simp only [at_grow]
    rw [if_pos (by omega)]
    exact hG.at_ i hi
theorem conItems_IC {l : List Item} {g : FuncId} {caps : List PV} {pr : Item → Bool} {H : Heap} (hh : inlF g = true) (hg : ∀ q ∈ l, ∀ H', Gr H H' → ∀ K : PV → Heap → List Nat → Prop, K (bv (pr q)) H' [] → IC (env P) g (.agg (itP q) :: caps) H' K) (hL : l.length ≤ most) {K : PV → Heap → List Nat → Prop}
    (h : K (bv (l.any pr)) H []) : IC (env P) 171 [lvP l, .fn g caps] H K := by
  refine IC_rd rfl rfl ?_
  simp [c171]
  refine VA_inl (g := 189) (caps := []) rfl rfl ?_
  simp
  refine idxItems_IC hh (fun q hq H' hG K hk => hg q hq H' (Gr.trans (Gr.refl.grow) hG |> fun e => by simpa using e) K hk) hL ?_
  intro j hj
  simp
  refine Rd.mk (bv (l.any pr)) ?_ rfl ?_ (by simp) h
  · by_cases ha : l.any pr = true
    · have := hj.2 ha
      simp [this, ha]
    · have hn : ¬ 0 ≤ j := fun x => ha (hj.1 x)
      simp only [Bool.not_eq_true] at ha
      simp [hn, ha]
  · intro i hi; simp [hi]
theorem itemsRight_ans {l : List Item} {kind : Int} (hs : ∀ q ∈ l, q.sm) (hL : l.length ≤ most) : ans (env P) 132 [lvP l, iv kind] = some (bv (itemsOK kind l)) := by
  refine ans_V rfl rfl ?_
  have hx : (l.any fun q => !itOK kind q) = !(l.all (itOK kind)) := by
    rw [List.not_all_eq_any_not]
  by_cases h32 : l.length ≤ 32
  · have h32' : (l.length : Int) ≤ 32 := by omega
    simp [c132, h32']
    refine VA_inl (g := 171) (caps := []) rfl rfl ?_
    simp
    refine conItems_IC (pr := fun q => !itOK kind q) (g := 172) rfl (fun q hq H' hG K hk => ?_) hL ?_
    · have h0 := hG.at_ 0 (by simp)
      have h1 := hG.n
      simp at h0 h1
      exact items1_IC (hs q hq) h0 (by omega) hk
    · simp [hx, itemsOK, h32]
  · have h32' : ¬ (l.length : Int) ≤ 32 := by omega
    simp [c132, h32', itemsOK, h32]
end Go.Evl.Zone

namespace Go.Evl.Zone
open Go Go.Evl
variable {P : Program}
open Go.Evl.Fl
def RS.sm (q : RS) : Prop := smI q.x ∧ smI q.y ∧ smI q.s
structure FOK (f : Frame) : Prop where
  know : f.know.length ≤ most
  ids : ∀ a ∈ f.know, a.id.length ≤ big
  ext : ∀ a ∈ f.know, a.extra.length ≤ most
  mem : f.members.length ≤ most
  mids : ∀ a ∈ f.members, a.length ≤ big
  certs : f.certs.length ≤ most
  cids : ∀ a ∈ f.certs, a.id.length ≤ big
  rows : f.rows.length ≤ most
  rids : ∀ a ∈ f.rows, a.id.length ≤ big
  rvec : ∀ a ∈ f.rows, a.vec.length ≤ most
  rvids : ∀ a ∈ f.rows, ∀ x ∈ a.vec, x.id.length ≤ big
  zone : f.zone.length ≤ most
  zin : ∀ q ∈ f.zone, q.sm
  items : f.items.length ≤ most
  ism : ∀ q ∈ f.items, q.sm
  floor : f.floor.length ≤ most
  fids : ∀ a ∈ f.floor, a.id.length ≤ big
theorem flists_ans {f : Frame} (F : FOK f) : ans (env P) 73 [.agg (fP f)] = some (bv (listsR f)) := by
  refine ans_V rfl rfl ?_
  have hK := pKnow_ans (P := P) (v := f.know) F.ext F.know
  have hM := pMem_ans (P := P) (v := f.members) F.mem
  have hC := pvecOK_ans (P := P) (v := f.certs) F.certs
  have hR := rowsRight_ans (P := P) (m := f.rows) F.rvec F.rows
  have hI := itemsRight_ans (P := P) (l := f.items) (kind := f.kind) F.ism F.items
  simp [c73, hK, hM, hC, hR, hI]
  repeat' (first
    | (refine VG_sp (fun h => ?_) (fun h => ?_) <;> simp [h, hK, hM, hC, hR, hI])
    | (refine VB_sp (fun h => ?_) (fun h => ?_) <;> simp [h, hK, hM, hC, hR, hI]))
  all_goals first
    | (simp_all [listsR, knowR]; done)
    | (simp_all [listsR, knowR] <;> intros <;> first | omega | (exfalso; omega) | (simp_all; done) | (simp_all; omega) | (exfalso; simp_all; done))
theorem bare_sum {f : Frame} (F : FOK f) : (IntKind.i64.wrap (IntKind.i64.wrap (IntKind.i64.wrap (IntKind.i64.wrap (IntKind.i64.wrap (IntKind.i64.wrap (f.know.length + f.clock) + f.members.length) + f.certs.length) + f.rows.length) + f.items.length) + f.zone.length) = 0 ∧ f.clock = 0) ↔ (f.know = [] ∧ f.clock = 0 ∧ f.members = [] ∧ f.certs = [] ∧ f.rows = [] ∧ f.zone = [] ∧ f.items = []) := by
  have h1 := F.know
  have h2 := F.mem
  have h3 := F.certs
  have h4 := F.rows
  have h5 := F.items
  have h6 := F.zone
  unfold most at *
  constructor
  · rintro ⟨h, hc⟩
    rw [hc] at h
    rw [wrap64_id (n := f.know.length + 0) (by omega), wrap64_id (n := f.know.length + 0 + f.members.length) (by omega), wrap64_id (n := f.know.length + 0 + f.members.length + f.certs.length) (by omega), wrap64_id (n := f.know.length + 0 + f.members.length + f.certs.length + f.rows.length) (by omega), wrap64_id (n := f.know.length + 0 + f.members.length + f.certs.length + f.rows.length + f.items.length) (by omega), wrap64_id (by omega)] at h
    simp only [← List.length_eq_zero_iff]
    omega
  · rintro ⟨a, b, c, d, e, g, i⟩
    rw [a, b, c, d, e, g, i]
    exact ⟨rfl, rfl⟩
@[simp] theorem toSI_len (l : List RS) : (toSI l).length = l.length := by simp [toSI]
theorem stepsV_toSI_len (l : List RS) : (stepsV (toSI l)).length = l.length := by simp [stepsV, toSI]
theorem toSI_ok {l : List RS} (h : ∀ q ∈ l, q.sm) : ∀ q ∈ toSI l, q.ok := by
  intro q hq
  simp only [toSI, List.mem_map] at hq
  obtain ⟨r, hr, rfl⟩ := hq
  obtain ⟨h1, h2, h3⟩ := h r hr
  exact ⟨sm_is h1, sm_is h2, sm_is h3⟩
theorem bare_ans {f : Frame} (F : FOK f) : ans (env P) 75 [.agg (fP f)] = some (bv (bareR f)) := by
  have hb := bare_sum F
  refine ans_V rfl rfl ?_
  simp [c75, stepsV_toSI_len]
  repeat' (first
    | (refine VG_sp (fun h2 => ?_) (fun h2 => ?_) <;> simp [h2])
    | (refine VB_sp (fun h2 => ?_) (fun h2 => ?_) <;> simp [h2]))
  all_goals first
    | (simp_all [bareR]; done)
    | (simp_all [bareR] <;> intros <;> first | omega | (exfalso; omega) | (simp_all; done))
theorem frameRight_ans {f : Frame} (F : FOK f) : ans (env P) 17 [.agg (fP f)] = some (bv (frameR f)) := by
  refine ans_V rfl rfl ?_
  have hF := idRight_ans (P := P) (s := f.from_)
  have hT := idRight_ans (P := P) (s := f.to)
  have hL := flists_ans (P := P) F
  have hB := bare_ans (P := P) F
  have hV := pvecOK_ans (P := P) (v := f.floor) F.floor
  have hZ := zoneRight_ans (P := P) (l := toSI f.zone) (toSI_ok F.zin)
  simp [c17, hF, hT, hL, hB, hV, hZ, stepsV_toSI_len]
  repeat' (first
    | (refine VG_sp (fun h => ?_) (fun h => ?_) <;> simp [h, hF, hT, hL, hB, hV, hZ, stepsV_toSI_len])
    | (refine VB_sp (fun h => ?_) (fun h => ?_) <;> simp [h, hF, hT, hL, hB, hV, hZ, stepsV_toSI_len]))
  all_goals first
    | (simp_all [frameR]; done)
    | (simp_all [frameR] <;> intros <;> first | omega | (exfalso; omega) | (simp_all; done) | (simp_all; omega) | (exfalso; simp_all; done))
end Go.Evl.Zone

namespace Go.Evl.Zone
open Go Go.Evl
variable {P : Program}
theorem rMem_loop {v : List Bytes} {f : Frame} (hv : f.members = v) (hbg : ∀ a ∈ v, a.length ≤ big) {ks : List Fr'} {K : Ex → St → Prop} (hL : v.length ≤ most) : ∀ (rest : List Bytes) (i : Nat) (prev : Option Bytes) (st : St), v.drop i = rest → i ≤ v.length → prevAt v i prev → (∃ p, st.σ 1 = .ptr p 0 ∧ st.h.at_ p = .box (fR f) ∧ p < st.h.n) → st.σ 3 = iv i →
    (∀ st', chk idOK idB prev rest = false → st'.σ 2 = bv false → K .ret st') → (∀ st', (∃ p, st'.σ 1 = .ptr p 0 ∧ st'.h.at_ p = .box (fR f) ∧ p < st'.h.n) → chk idOK idB prev rest = true → VN (env P) 112 st' ks K) → V (env P) 112 (.loop L112_0) st (.blk 0 :: ks) K
  | [], i, prev, st, hr, hile, hp, ⟨p0, hb, hp0, hpn⟩, hi, hret, hend => by
    obtain ⟨hii, hlt, hd⟩ := drop_nil hr hile
    rw [V_loop]
    simp [L112_0, hb, hp0, hpn, hi, hlt, hv]
    exact hend _ ⟨p0, by simp [hb], by simp [hp0, hpn], by simp; omega⟩ rfl
  | q :: rest, i, prev, st, hr, hile, hp, ⟨p0, hb, hp0, hpn⟩, hi, hret, hend => by
    obtain ⟨hq, hlt, hr', _⟩ := drop_cons hr
    have hm := List.mem_of_getElem? hq
    have hc := En_at hq
    have hw := wrapS (i := i) (by unfold most at hL; omega)
    have hR := r1Right_ans (P := P) (s := q)
    rw [V_loop]
    rcases Nat.eq_zero_or_pos i with rfl | hpos
    · obtain rfl : prev = none := hp
      simp at hw
      simp [L112_0, hb, hp0, hpn, hi, hlt, hc, hw, hR, hv]
      repeat' (first
        | (refine VG_sp (fun h => ?_) (fun h => ?_) <;> simp [h, hb, hp0, hpn, hi, hlt, hc, hw, hR, hv])
        | (refine VB_sp (fun h => ?_) (fun h => ?_) <;> simp [h, hb, hp0, hpn, hi, hlt, hc, hw, hR, hv]))
      all_goals first
        | exact hret _ (by simp_all [chk, idOK, vecR] <;> (intros; (try simp only [idB] at *); first | omega | (exfalso; simp_all; done) | (exfalso; simp_all; omega))) (by simp)
        | exact rMem_loop hv hbg hL rest 1 (some q) _ hr' (by omega) (prevAt_succ hq) ⟨p0, by simp [hb], by simp [hp0, hpn], by simp; omega⟩  (by simp [hw]) (fun st' x y => hret st' (by simp_all [chk, idOK, vecR]) y) (fun st' x0 x => hend st' x0 (by simp_all [chk, idOK, vecR] <;> omega))
    · obtain ⟨p, hpj, rfl⟩ := prevAt_pos hpos hp
      have hcp := En_at hpj
      have hmp := List.mem_of_getElem? hpj
      have hw1 := wrapP hpos (by unfold most at hL; omega)
      have hjl : i - 1 < v.length := by omega
      have hcmp := r1Compare_ans (P := P) (s := p) (t := q) (hbg p hmp) (hbg q hm)
      try simp at hcmp
      simp [L112_0, hb, hp0, hpn, hi, hlt, hc, hw, hR, hv, hcp, hw1, hjl, hcmp, hpos]
      repeat' (first
        | (refine VG_sp (fun h => ?_) (fun h => ?_) <;> simp [h, hb, hp0, hpn, hi, hlt, hc, hw, hR, hv, hcp, hw1, hjl, hcmp, hpos])
        | (refine VB_sp (fun h => ?_) (fun h => ?_) <;> simp [h, hb, hp0, hpn, hi, hlt, hc, hw, hR, hv, hcp, hw1, hjl, hcmp, hpos]))
      all_goals first
        | exact hret _ (by simp_all [chk, idOK, vecR] <;> (intros; (try simp only [idB] at *); first | omega | (exfalso; simp_all; done) | (exfalso; simp_all; omega))) (by simp)
        | exact rMem_loop hv hbg hL rest (i + 1) (some q) _ hr' (by omega) (prevAt_succ hq) ⟨p0, by simp [hb], by simp [hp0, hpn], by simp; omega⟩  (by simp [hw]) (fun st' x y => hret st' (by simp_all [chk, idOK, vecR]) y) (fun st' x0 x => hend st' x0 (by simp_all [chk, idOK, vecR] <;> omega))
theorem rRows_loop {f : Frame} {v : List MRow} (hv : f.rows = v) {ks : List Fr'} {K : Ex → St → Prop} (hL : v.length ≤ most) : ∀ (rest : List MRow) (i : Nat) (st : St), v.drop i = rest → i ≤ v.length → (∃ p, st.σ 1 = .ptr p 0 ∧ st.h.at_ p = .box (fR f) ∧ p < st.h.n) → st.σ 4 = iv i →
    (∀ st', rest.all (fun r => decide (r.vec.length ≤ 64)) = false → st'.σ 2 = bv false → K .ret st') → (∀ st', (∃ p, st'.σ 1 = .ptr p 0 ∧ st'.h.at_ p = .box (fR f) ∧ p < st'.h.n) → rest.all (fun r => decide (r.vec.length ≤ 64)) = true → VN (env P) 112 st' ks K) → V (env P) 112 (.loop L112_1) st (.blk 2 :: ks) K
  | [], i, st, hr, hile, ⟨p0, hb, hp0, hpn⟩, hi, hret, hend => by
    obtain ⟨hii, hlt, hd⟩ := drop_nil hr hile
    rw [V_loop]
    simp [L112_1, hb, hp0, hpn, hi, hlt, hv]
    exact hend _ ⟨p0, by simp [hb], by simp [hp0, hpn], by simp; omega⟩ rfl
  | q :: rest, i, st, hr, hile, ⟨p0, hb, hp0, hpn⟩, hi, hret, hend => by
    obtain ⟨hq, hlt, hr', _⟩ := drop_cons hr
    have hm := List.mem_of_getElem? hq
    have hc := En_at hq
    have hw := wrapS (i := i) (by unfold most at hL; omega)
    have hne : ¬ p0 = st.h.n := by omega
    have hpn1 : p0 < st.h.n + 1 := by omega
    rw [V_loop]
    simp [L112_1, hb, hp0, hpn, hne, hpn1, hi, hlt, hc, hw, hv]
    repeat' (first
      | (refine VG_sp (fun h => ?_) (fun h => ?_) <;> simp [h, hb, hp0, hpn, hne, hpn1, hi, hlt, hc, hw, hv])
      | (refine VB_sp (fun h => ?_) (fun h => ?_) <;> simp [h, hb, hp0, hpn, hne, hpn1, hi, hlt, hc, hw, hv]))
    all_goals first
      | exact hret _ (by simp_all [] <;> (intros; first | omega | (exfalso; omega) | (simp_all; done))) (by simp)
      | exact rRows_loop hv hL rest (i + 1) _ hr' (by omega) ⟨p0, by simp [hb], by simp [hp0, hpn, hne, hpn1], by simp; omega⟩ (by simp [hw]) (fun st' x y => hret st' (by simp_all []) y) (fun st' x0 x => hend st' x0 (by simp_all [] <;> (first | omega | (intros; omega))))
theorem rItems_loop {f : Frame} {v : List Item} (T : TI P) (hv : f.items = v) {ks : List Fr'} {K : Ex → St → Prop} (hL : v.length ≤ most) : ∀ (rest : List Item) (i : Nat) (st : St), v.drop i = rest → i ≤ v.length → (∃ p, st.σ 1 = .ptr p 0 ∧ st.h.at_ p = .box (fR f) ∧ p < st.h.n) → st.σ 5 = iv i →
    (∀ st', rest.all (itOK f.kind) = false → st'.σ 2 = bv false → K .ret st') → (∀ st', (∃ p, st'.σ 1 = .ptr p 0 ∧ st'.h.at_ p = .box (fR f) ∧ p < st'.h.n) → rest.all (itOK f.kind) = true → VN (env P) 112 st' ks K) → V (env P) 112 (.loop L112_2) st (.blk 4 :: ks) K
  | [], i, st, hr, hile, ⟨p0, hb, hp0, hpn⟩, hi, hret, hend => by
    obtain ⟨hii, hlt, hd⟩ := drop_nil hr hile
    rw [V_loop]
    simp [L112_2, hb, hp0, hpn, hi, hlt, hv]
    exact hend _ ⟨p0, by simp [hb], by simp [hp0, hpn], by simp; omega⟩ rfl
  | q :: rest, i, st, hr, hile, ⟨p0, hb, hp0, hpn⟩, hi, hret, hend => by
    obtain ⟨hq, hlt, hr', _⟩ := drop_cons hr
    have hm := List.mem_of_getElem? hq
    have hc := EnR_at hq
    have hw := wrapS (i := i) (by unfold most at hL; omega)
    have hne : ¬ p0 = st.h.n := by omega
    have hpn1 : p0 < st.h.n + 1 := by omega
    have hR := r7Right_ans (P := P) T (q := q)
    rw [V_loop]
    simp [L112_2, hb, hp0, hpn, hne, hpn1, hi, hlt, hc, hw, hv, hR]
    repeat' (first
      | (refine VG_sp (fun h => ?_) (fun h => ?_) <;> simp [h, hb, hp0, hpn, hne, hpn1, hi, hlt, hc, hw, hv, hR])
      | (refine VB_sp (fun h => ?_) (fun h => ?_) <;> simp [h, hb, hp0, hpn, hne, hpn1, hi, hlt, hc, hw, hv, hR]))
    all_goals first
      | exact hret _ (by simp_all [itOK] <;> (intros; first | omega | (exfalso; omega) | (simp_all; done))) (by simp)
      | exact rItems_loop T hv hL rest (i + 1) _ hr' (by omega) ⟨p0, by simp [hb], by simp [hp0, hpn, hne, hpn1], by simp; omega⟩ (by simp [hw]) (fun st' x y => hret st' (by simp_all [itOK]) y) (fun st' x0 x => hend st' x0 (by simp_all [itOK] <;> (first | omega | (intros; omega))))
theorem rlists_ans (T : TI P) {f : Frame} (F : FOK f) : ans (env P) 112 [.agg (fR f)] = some (bv (listsR f)) := by
  have hK := rKnow_ans (P := P) (v := f.know) F.ids F.ext F.know
  have hC := rvecOK_ans (P := P) (v := f.certs) F.cids F.certs
  have hR := rMat_ans (P := P) (v := f.rows) F.rids F.rvec F.rvids F.rows
  have hfl : 0 < f.floor.length → ¬ f.floor = [] := by intro h e; rw [e] at h; simp at h
  refine ans_V rfl rfl ?_
  simp [c112, hK, hC, hR]
  repeat' (first
    | (refine VG_sp (fun h2 => ?_) (fun h2 => ?_) <;> simp [h2, hK, hC, hR])
    | (refine VB_sp (fun h2 => ?_) (fun h2 => ?_) <;> simp [h2, hK, hC, hR]))
  all_goals first
    | (simp_all [listsR, knowR, memR, rowsOK, matR, itemsOK] <;> intros <;> first | omega | (exfalso; omega) | (simp_all; done))
    | skip
  refine rMem_loop (f := f) rfl F.mids F.mem f.members 0 none _ rfl (by omega) rfl ⟨0, by simp, by simp, by simp⟩ (by simp) ?_ ?_
  · intro st' ha h2
    simp [h2, listsR, memR, ha]
  · rintro st' ⟨p, hb, hp, hpn⟩ ha
    simp
    refine rRows_loop (f := f) rfl F.rows f.rows 0 _ rfl (by omega) ⟨p, by simp [hb], by simp [hp, hpn], by simp; omega⟩ (by simp) ?_ ?_
    · intro st2 ha2 h2
      simp [h2, listsR, rowsOK, ha2]
    · rintro st2 ⟨p2, hb2, hp2, hpn2⟩ ha2
      simp
      refine rItems_loop (f := f) T rfl F.items f.items 0 _ rfl (by omega) ⟨p2, by simp [hb2], by simp [hp2, hpn2], by simp; omega⟩ (by simp) ?_ ?_
      · intro st3 ha3 h3
        simp [h3, listsR, itemsOK, ha3]
      · rintro st3 _ ha3
        simp
        simp_all [listsR, knowR, memR, rowsOK, matR, itemsOK]
        omega
theorem rframeRight_ans (T : TI P) {f : Frame} (F : FOK f) : ans (env P) 48 [.agg (fR f)] = some (bv (frameR f)) := by
  refine ans_V rfl rfl ?_
  have hF := r1Right_ans (P := P) (s := f.from_)
  have hT := r1Right_ans (P := P) (s := f.to)
  have hL := rlists_ans (P := P) T F
  have hV := rvecOK_ans (P := P) (v := f.floor) F.fids F.floor
  have hZ := refRight_ans (P := P) (l := f.zone)
  simp [c48, hF, hT, hL, hV, hZ]
  repeat' (first
    | (refine VG_sp (fun h => ?_) (fun h => ?_) <;> simp [h, hF, hT, hL, hV, hZ])
    | (refine VB_sp (fun h => ?_) (fun h => ?_) <;> simp [h, hF, hT, hL, hV, hZ]))
  all_goals first
    | (simp_all [frameR, bareR]; done)
    | (simp_all [frameR, bareR] <;> intros <;> first | omega | (exfalso; omega) | (simp_all; done) | (simp_all; omega) | (exfalso; simp_all; done))
end Go.Evl.Zone

namespace Go.Evl.Zone
open Go Go.Evl Go.Evl.Fl
variable {P : Program}
def pFrame (f : Frame) : Bytes := vI f.kind ++ ptext f.from_ ++ ptext f.to ++
  (if f.kind = 3 then pVec f.floor else pKnow f.know ++ vI f.clock ++ pMem f.members ++ pVec f.certs ++ pRows f.rows ++
    (if f.kind = 1 then ptext (textL f.zone) else []) ++ vint f.items.length ++ (f.items.map pItem).flatten ++
    (if f.kind = 2 then (if f.whole then vI 1 else vI 0) else []))
theorem chk_all {α : Type} {ok : α → Bool} {id : α → Bytes} : ∀ {l : List α} {p : Option α}, chk ok id p l = true → ∀ a ∈ l, ok a = true
  | [], _, _, a, h => by cases h
  | b :: l, p, h, a, ha => by
    simp only [chk, Bool.and_eq_true] at h
    rcases List.mem_cons.1 ha with rfl | q
    · exact h.1.1
    · exact chk_all h.2 a q
theorem spanGo_all : ∀ {l : List Int} {last : Int}, 0 ≤ last → spanR.go last l = true → ∀ n ∈ l, 0 ≤ n ∧ n ≤ 1048576
  | [], _, _, _, n, h => by cases h
  | m :: l, last, h0, h, n, hn => by
    simp only [spanR.go, Bool.and_eq_true, decide_eq_true_eq] at h
    rcases List.mem_cons.1 hn with rfl | q
    · omega
    · exact spanGo_all (by omega) h.2 n q
theorem flat_len {α : Type} {f : α → Bytes} {B : Nat} : ∀ {l : List α}, (∀ a ∈ l, (f a).length ≤ B) → (l.map f).flatten.length ≤ l.length * B
  | [], _ => by simp
  | a :: l, h => by
    have h1 := h a (by simp)
    have h2 := flat_len (l := l) fun b hb => h b (by simp [hb])
    simp only [List.map_cons, List.flatten_cons, List.length_append, List.length_cons, Nat.add_mul]
    omega
theorem okN_of {n : Int} (h : 0 ≤ n ∧ n ≤ 1048576) : okN n := ⟨h.1, by omega⟩
theorem vI_len' {n : Int} (h : 0 ≤ n ∧ n ≤ 1048576) : (vI n).length ≤ 9 := vI_len (okN_of h)
theorem vec_facts {v : List At} (h : vecOK v = true) : v.length ≤ 64 ∧ (∀ a ∈ v, okN a.n) ∧ (pVec v).length ≤ 1600 := by
  simp only [vecOK, vecR, Bool.and_eq_true, decide_eq_true_eq] at h
  have hall := chk_all h.2
  have hb : ∀ a ∈ v, (1 ≤ a.n ∧ a.n ≤ 1048576) ∧ a.id.length ≤ 6 := fun a ha => by
    have := hall a ha
    simp only [atR, Bool.and_eq_true, decide_eq_true_eq] at this
    exact ⟨⟨this.1.2, this.2⟩, idR_len this.1.1⟩
  refine ⟨h.1, fun a ha => okN_of (by have := (hb a ha).1; omega), ?_⟩
  have h1 := vL_len (n := v.length) (by unfold most; omega)
  have h2 : ∀ a ∈ v, (pAt a).length ≤ 24 := fun a ha => by
    obtain ⟨a1, a2⟩ := hb a ha
    have b1 := vI_len' (n := a.n) (by omega)
    have b2 := vL_len (n := a.id.length) (by unfold most; omega)
    unfold vI at b1
    simp only [pAt, List.length_append, ptext_len]
    omega
  have h3 := flat_len h2
  simp only [pVec, List.length_append]
  have : v.length * 24 ≤ 64 * 24 := Nat.mul_le_mul_right _ h.1
  omega
theorem know_facts {k : List KRow} (h : knowR k = true) (hl : k.length ≤ 64) : (∀ r ∈ k, okN r.upto ∧ (∀ n ∈ r.extra, okN n) ∧ r.extra.length ≤ most) ∧ (pKnow k).length ≤ 2500000 := by
  have hall := chk_all h
  have hb : ∀ r ∈ k, (0 ≤ r.upto ∧ r.upto ≤ 1048576) ∧ (∀ n ∈ r.extra, 0 ≤ n ∧ n ≤ 1048576) ∧ r.extra.length ≤ 4096 ∧ r.id.length ≤ 6 := fun r hr => by
    have := hall r hr
    simp only [krowR, spanR, Bool.and_eq_true, decide_eq_true_eq] at this
    obtain ⟨⟨a1, ⟨⟨⟨a2, a3⟩, a4⟩, a5⟩⟩, a6⟩ := this
    exact ⟨⟨a2, a3⟩, spanGo_all (by omega) a5, a4, idR_len a1⟩
  refine ⟨fun r hr => ?_, ?_⟩
  · obtain ⟨a1, a2, a3, a4⟩ := hb r hr
    exact ⟨okN_of a1, fun n hn => okN_of (a2 n hn), by unfold most; omega⟩
  · have h1 := vL_len (n := k.length) (by unfold most; omega)
    have h2 : ∀ r ∈ k, (pKRow r).length ≤ 36900 := fun r hr => by
      obtain ⟨a1, a2, a3, a4⟩ := hb r hr
      have b1 := vI_len' a1
      have b2 := vL_len (n := r.id.length) (by unfold most; omega)
      have b3 := vL_len (n := r.extra.length) (by unfold most; omega)
      have b4 := flat_len (f := vI) (B := 9) (l := r.extra) fun n hn => vI_len' (a2 n hn)
      rw [pKRow_len]
      omega
    have h3 := flat_len h2
    simp only [pKnow, List.length_append]
    have : k.length * 36900 ≤ 64 * 36900 := Nat.mul_le_mul_right _ hl
    omega
theorem mem_facts {l : List Bytes} (h : memR l = true) : l.length ≤ 64 ∧ (pMem l).length ≤ 1600 := by
  simp only [memR, Bool.and_eq_true, decide_eq_true_eq] at h
  have hall := chk_all h.1
  refine ⟨h.2, ?_⟩
  have h1 := vL_len (n := l.length) (by unfold most; omega)
  have h2 : ∀ a ∈ l, (ptext a).length ≤ 24 := fun a ha => by
    have a1 := idR_len (hall a ha)
    have b2 := vL_len (n := a.length) (by unfold most; omega)
    simp only [ptext_len]
    omega
  have h3 := flat_len h2
  simp only [pMem, List.length_append]
  have : l.length * 24 ≤ 64 * 24 := Nat.mul_le_mul_right _ h.2
  omega
theorem rows_facts {m : List MRow} (h : rowsOK m = true) : m.length ≤ 64 ∧ (∀ r ∈ m, (∀ a ∈ r.vec, okN a.n) ∧ r.vec.length ≤ most) ∧ (pRows m).length ≤ 110000 := by
  simp only [rowsOK, matR, Bool.and_eq_true, decide_eq_true_eq, List.all_eq_true] at h
  have hall := chk_all h.1.2
  have hb : ∀ r ∈ m, vecOK r.vec = true ∧ r.id.length ≤ 6 := fun r hr => by
    have := hall r hr
    simp only [mrowR, Bool.and_eq_true, decide_eq_true_eq] at this
    exact ⟨by simp only [vecOK, Bool.and_eq_true, decide_eq_true_eq]; exact ⟨h.2 r hr, this.1.2⟩, idR_len this.1.1⟩
  refine ⟨h.1.1, fun r hr => ?_, ?_⟩
  · have := vec_facts (hb r hr).1
    exact ⟨this.2.1, by unfold most; omega⟩
  · have h1 := vL_len (n := m.length) (by unfold most; omega)
    have h2 : ∀ r ∈ m, (pMRow r).length ≤ 1650 := fun r hr => by
      obtain ⟨a1, a2⟩ := hb r hr
      have b1 := (vec_facts a1).2.2
      have b2 := vL_len (n := r.id.length) (by unfold most; omega)
      simp only [pMRow, List.length_append, ptext_len]
      omega
    have h3 := flat_len h2
    simp only [pRows, List.length_append]
    have : m.length * 1650 ≤ 64 * 1650 := Nat.mul_le_mul_right _ h.1.1
    omega
theorem items_facts {l : List Item} {kind : Int} (h : itemsOK kind l = true) : l.length ≤ 32 ∧ (∀ q ∈ l, itemR q = true) ∧ (l.map pItem).flatten.length ≤ 3840 := by
  simp only [itemsOK, Bool.and_eq_true, decide_eq_true_eq, List.all_eq_true] at h
  have hb : ∀ q ∈ l, itemR q = true := fun q hq => by
    have := h.2 q hq
    simp only [itOK, Bool.and_eq_true] at this
    exact this.1
  refine ⟨h.1, hb, ?_⟩
  have h3 := flat_len (f := pItem) (B := 120) fun q hq => item_len (hb q hq)
  have : l.length * 120 ≤ 32 * 120 := Nat.mul_le_mul_right _ h.1
  omega
end Go.Evl.Zone

namespace Go.Evl.Zone
open Go Go.Evl
structure Src where
  s : Bytes
  bad : Int
  deriving DecidableEq
def dig : Nat → Bytes → Except Int (Nat × Bytes)
  | i, [] => if i = 9 then .error 3 else .error 2
  | i, c :: r => if i = 9 then .error 3 else
    if 128 ≤ c.toNat then (match dig (i + 1) r with
      | .ok (n, q) => .ok (c.toNat % 128 + 128 * n, q)
      | .error e => .error e)
    else if c.toNat = 0 ∧ 0 < i then .error 3 else .ok (c.toNat, r)
abbrev RF (α : Type) := Src → α × Src
def rNum (m : Nat) : RF Nat := fun q => if q.bad ≠ 0 then (0, q) else match dig 0 q.s with
  | .ok (n, r) => if n ≤ m then (n, ⟨r, 0⟩) else (0, ⟨q.s, 3⟩)
  | .error e => (0, ⟨q.s, e⟩)
def rText (m : Nat) : RF Bytes := fun q =>
  let x := rNum m q
  if x.2.bad ≠ 0 then ([], x.2) else if x.2.s.length < x.1 then ([], ⟨x.2.s, 2⟩) else (x.2.s.take x.1, ⟨x.2.s.drop x.1, 0⟩)
def rPair {α β : Type} (f : RF α) (g : RF β) : RF (α × β) := fun q => ((( f q).1, (g (f q).2).1), (g (f q).2).2)
def rMap {α β : Type} (e : α → β) (f : RF α) : RF β := fun q => (e (f q).1, (f q).2)
def rLoop {α : Type} (f : RF α) : Nat → RF (List α)
  | 0, q => ([], q)
  | n + 1, q => if q.bad ≠ 0 then ([], q) else ((f q).1 :: (rLoop f n (f q).2).1, (rLoop f n (f q).2).2)
def rCount {α : Type} (m : Nat) (f : RF α) : RF (List α) := fun q => rLoop f (rNum m q).1 (rNum m q).2
structure Cod {α : Type} (p : α → Bytes) (f : RF α) (ok : α → Prop) : Prop where
  fwd : ∀ a t, ok a → f ⟨p a ++ t, 0⟩ = (a, ⟨t, 0⟩)
  inv : ∀ q a r, f q = (a, ⟨r, 0⟩) → q.bad = 0 ∧ ok a ∧ q.s = p a ++ r
theorem dig_fwd : ∀ (k i n : Nat) (t : Bytes), i + k = 8 → n < 128 ^ (k + 1) → (0 < i → 0 < n) → dig i (vint n ++ t) = .ok (n, t)
  | 0, i, n, t, hi, hn, h0 => by
    have hn' : n < 128 := by simpa using hn
    rw [vint, if_pos hn']
    have e : (UInt8.ofNat n).toNat = n := by simp; omega
    simp only [List.cons_append, List.nil_append, dig, e]
    rw [if_neg (by omega), if_neg (by omega), if_neg (by omega)]
  | k + 1, i, n, t, hi, hn, h0 => by
    rw [vint]
    by_cases h : n < 128
    · rw [if_pos h]
      have e : (UInt8.ofNat n).toNat = n := by simp; omega
      simp only [List.cons_append, List.nil_append, dig, e]
      rw [if_neg (by omega), if_neg (by omega), if_neg (by omega)]
    · rw [if_neg h]
      have e : (UInt8.ofNat (n % 128 + 128)).toNat = n % 128 + 128 := by simp; omega
      simp only [List.cons_append, dig, e]
      rw [if_neg (by omega), if_pos (by omega), dig_fwd k (i + 1) (n / 128) t (by omega) (by rw [Nat.pow_succ] at hn; exact Nat.div_lt_of_lt_mul (by omega)) (by omega)]
      simp only
      congr 2
      omega
theorem dig_inv : ∀ (s : Bytes) (i n : Nat) (r : Bytes), dig i s = .ok (n, r) → s = vint n ++ r ∧ (0 < i → 0 < n)
  | [], i, n, r, h => by
    simp only [dig] at h
    split at h <;> cases h
  | c :: s, i, n, r, h => by
    simp only [dig] at h
    split at h
    · cases h
    · split at h
      · rename_i hc
        split at h
        · rename_i n' q hd
          simp only [Except.ok.injEq, Prod.mk.injEq] at h
          obtain ⟨rfl, rfl⟩ := h
          obtain ⟨h1, h2⟩ := dig_inv s (i + 1) n' q hd
          have h3 := h2 (by omega)
          have hlt : c.toNat < 256 := UInt8.toNat_lt c
          refine ⟨?_, fun _ => by omega⟩
          rw [vint, if_neg (by omega)]
          have e1 : (c.toNat % 128 + 128 * n') / 128 = n' := by omega
          have e2 : UInt8.ofNat ((c.toNat % 128 + 128 * n') % 128 + 128) = c := by
            have : (c.toNat % 128 + 128 * n') % 128 + 128 = c.toNat := by omega
            rw [this]; simp
          rw [e1, e2, h1]; rfl
        · cases h
      · rename_i hc
        split at h
        · cases h
        · rename_i hz
          simp only [Except.ok.injEq, Prod.mk.injEq] at h
          obtain ⟨rfl, rfl⟩ := h
          refine ⟨?_, fun hi => by omega⟩
          rw [vint, if_pos (by omega)]
          simp
theorem codNum {m : Nat} (hm : m < 9223372036854775808) : Cod vint (rNum m) (fun n => n ≤ m) where
  fwd a t h := by
    simp only [rNum]
    rw [if_neg (by simp), dig_fwd 8 0 a t rfl (by omega) (by omega)]
    simp only [if_pos h]
  inv q a r h := by
    simp only [rNum] at h
    split at h
    · rename_i hb
      simp only [Prod.mk.injEq] at h
      rw [h.2] at hb; simp at hb
    · rename_i hb
      split at h
      · rename_i n r' hd
        split at h
        · rename_i hn
          simp only [Prod.mk.injEq, Src.mk.injEq, and_true] at h
          obtain ⟨rfl, rfl⟩ := h
          exact ⟨by simpa using hb, hn, (dig_inv _ _ _ _ hd).1⟩
        · simp at h
      · rename_i e hd
        simp only [Prod.mk.injEq, Src.mk.injEq] at h
        obtain ⟨_, _, rfl⟩ := h
        exfalso
        have : ∀ (s : Bytes) (i : Nat), dig i s ≠ .error 0 := by
          intro s
          induction s with
          | nil => intro i; simp only [dig]; split <;> simp
          | cons c s ih =>
            intro i
            simp only [dig]
            split
            · simp
            · split
              · split
                · simp
                · rename_i e he
                  intro q
                  simp only [Except.error.injEq] at q
                  subst q
                  exact ih _ he
              · split <;> simp
        exact this _ _ hd
theorem codText {m : Nat} (hm : m < 9223372036854775808) : Cod ptext (rText m) (fun s => s.length ≤ m) where
  fwd a t h := by
    have := (codNum hm).fwd a.length (a ++ t) h
    simp only [rText, ptext, List.append_assoc, this]
    rw [if_neg (by simp), if_neg (by simp)]
    simp
  inv q a r h := by
    simp only [rText] at h
    split at h
    · rename_i hb
      simp only [Prod.mk.injEq] at h
      rw [h.2] at hb; simp at hb
    · rename_i hb
      split at h
      · simp at h
      · rename_i hl
        simp only [Prod.mk.injEq, Src.mk.injEq, and_true] at h
        obtain ⟨rfl, rfl⟩ := h
        generalize hx : rNum m q = x at *
        obtain ⟨n, s, b⟩ := x
        simp only at hb hl ⊢
        have hb' : b = 0 := by simpa using hb
        subst hb'
        obtain ⟨h1, h2, h3⟩ := (codNum hm).inv q n s hx
        have hlen : (s.take n).length = n := by simp; omega
        refine ⟨h1, by rw [hlen]; exact h2, ?_⟩
        rw [ptext, hlen, h3, List.append_assoc, List.take_append_drop]
theorem Cod.pair {α β : Type} {p : α → Bytes} {f : RF α} {ok : α → Prop} {p' : β → Bytes} {g : RF β} {ok' : β → Prop} (hf : Cod p f ok) (hg : Cod p' g ok') : Cod (fun x => p x.1 ++ p' x.2) (rPair f g) (fun x => ok x.1 ∧ ok' x.2) where
  fwd a t h := by
    simp only [rPair, List.append_assoc, hf.fwd _ _ h.1, hg.fwd _ _ h.2]
  inv q a r h := by
    simp only [rPair, Prod.mk.injEq] at h
    obtain ⟨rfl, h⟩ := h
    obtain ⟨h1, h2, h3⟩ := hg.inv (f q).2 (g (f q).2).1 r (by rw [← h])
    obtain ⟨h4, h5, h6⟩ := hf.inv q (f q).1 (f q).2.s (by rw [← h1])
    exact ⟨h4, ⟨h5, h2⟩, by rw [h6, h3, List.append_assoc]⟩
theorem Cod.map {α β : Type} {p : α → Bytes} {f : RF α} {ok : α → Prop} (hf : Cod p f ok) {p' : β → Bytes} {ok' : β → Prop} (e : α → β) (d : β → α) (hed : ∀ b, ok' b → e (d b) = b) (hp : ∀ b, ok' b → p' b = p (d b)) (ho : ∀ b, ok' b → ok (d b)) (ha : ∀ a, ok a → ok' (e a) ∧ p' (e a) = p a) :
    Cod p' (rMap e f) ok' where
  fwd b t h := by simp only [rMap, hp b h, hf.fwd _ _ (ho b h), hed b h]
  inv q b r h := by
    simp only [rMap, Prod.mk.injEq] at h
    obtain ⟨rfl, h⟩ := h
    obtain ⟨h1, h2, h3⟩ := hf.inv q (f q).1 r (by rw [← h])
    exact ⟨h1, (ha _ h2).1, by rw [h3, (ha _ h2).2]⟩
theorem codLoop {α : Type} {p : α → Bytes} {f : RF α} {ok : α → Prop} (hf : Cod p f ok) : ∀ n : Nat, Cod (fun l : List α => (l.map p).flatten) (rLoop f n) (fun l => l.length = n ∧ ∀ a ∈ l, ok a)
  | 0 => ⟨fun a t h => by
      obtain rfl : a = [] := List.length_eq_zero_iff.1 h.1
      rfl, fun q a r h => by
      simp only [rLoop, Prod.mk.injEq] at h
      obtain ⟨rfl, rfl⟩ := h
      exact ⟨rfl, ⟨rfl, by simp⟩, rfl⟩⟩
  | n + 1 => ⟨fun a t h => by
      match a, h with
      | b :: l, h =>
        have h2 := (codLoop hf n).fwd l t ⟨by simpa using h.1, fun x hx => h.2 x (by simp [hx])⟩
        simp only [rLoop, List.map_cons, List.flatten_cons, List.append_assoc]
        rw [if_neg (by simp), hf.fwd b _ (h.2 b (by simp)), h2], fun q a r h => by
      simp only [rLoop] at h
      split at h
      · rename_i hb
        simp only [Prod.mk.injEq] at h
        rw [h.2] at hb; simp at hb
      · simp only [Prod.mk.injEq] at h
        obtain ⟨rfl, h⟩ := h
        obtain ⟨h1, h2, h3⟩ := (codLoop hf n).inv (f q).2 _ r (Prod.ext rfl h)
        obtain ⟨h4, h5, h6⟩ := hf.inv q (f q).1 (f q).2.s (by rw [← h1])
        refine ⟨h4, ⟨by simp [h2.1], fun a ha => ?_⟩, ?_⟩
        · rcases List.mem_cons.1 ha with rfl | ha
          · exact h5
          · exact h2.2 a ha
        · rw [h6, h3]; simp⟩
theorem codCount {α : Type} {p : α → Bytes} {f : RF α} {ok : α → Prop} (hf : Cod p f ok) {m : Nat} (hm : m < 9223372036854775808) : Cod (fun l : List α => vint l.length ++ (l.map p).flatten) (rCount m f) (fun l => l.length ≤ m ∧ ∀ a ∈ l, ok a) where
  fwd a t h := by
    simp only [rCount, List.append_assoc, (codNum hm).fwd a.length _ h.1]
    exact (codLoop hf a.length).fwd a t ⟨rfl, h.2⟩
  inv q a r h := by
    simp only [rCount] at h
    obtain ⟨h1, h2, h3⟩ := (codLoop hf _).inv _ a r h
    obtain ⟨h4, h5, h6⟩ := (codNum hm).inv q (rNum m q).1 (rNum m q).2.s (by rw [← h1])
    exact ⟨h4, ⟨by omega, h2.2⟩, by rw [h6, h3, h2.1, List.append_assoc]⟩
def rI (m : Nat) : RF Int := rMap (fun n : Nat => (n : Int)) (rNum m)
theorem codI {m : Nat} (hm : m < 9223372036854775808) : Cod vI (rI m) (fun n => 0 ≤ n ∧ n ≤ m) :=
  (codNum hm).map _ Int.toNat (fun b h => by omega) (fun b h => rfl) (fun b h => by omega) fun a h => ⟨by omega, by simp [vI]⟩
def rAt : RF At := rMap (fun x => ⟨x.1, x.2⟩) (rPair (rText 6) (rI 1048576))
def atK (a : At) : Prop := a.id.length ≤ 6 ∧ 0 ≤ a.n ∧ a.n ≤ 1048576
theorem codAt : Cod pAt rAt atK :=
  ((codText (by omega)).pair (codI (by omega))).map _ (fun a => (a.id, a.n)) (fun _ _ => rfl) (fun _ _ => rfl) (fun b h => ⟨h.1, h.2⟩) fun a h => ⟨⟨h.1, h.2⟩, rfl⟩
def rVec : RF (List At) := rCount 64 rAt
def vecK (v : List At) : Prop := v.length ≤ 64 ∧ ∀ a ∈ v, atK a
theorem codVec : Cod pVec rVec vecK := codCount codAt (by omega)
def rKRow : RF KRow := rMap (fun x => ⟨x.1, x.2.1, x.2.2⟩) (rPair (rText 6) (rPair (rI 1048576) (rCount 4096 (rI 1048576))))
def krowK (r : KRow) : Prop := r.id.length ≤ 6 ∧ (0 ≤ r.upto ∧ r.upto ≤ 1048576) ∧ r.extra.length ≤ 4096 ∧ ∀ n ∈ r.extra, 0 ≤ n ∧ n ≤ 1048576
theorem codKRow : Cod pKRow rKRow krowK :=
  ((codText (m := 6) (by omega)).pair ((codI (m := 1048576) (by omega)).pair (codCount (codI (m := 1048576) (by omega)) (m := 4096) (by omega)))).map _ (fun a => (a.id, a.upto, a.extra)) (fun _ _ => rfl)
    (fun _ _ => by simp [pKRow]) (fun b h => h) fun a h => ⟨h, by simp [pKRow]⟩
def rKnow : RF (List KRow) := rCount 64 rKRow
def knowK (v : List KRow) : Prop := v.length ≤ 64 ∧ ∀ a ∈ v, krowK a
theorem codKnow : Cod pKnow rKnow knowK := codCount codKRow (by omega)
def rMRow : RF MRow := rMap (fun x => ⟨x.1, x.2⟩) (rPair (rText 6) rVec)
def mrowK (r : MRow) : Prop := r.id.length ≤ 6 ∧ vecK r.vec
theorem codMRow : Cod pMRow rMRow mrowK :=
  ((codText (by omega)).pair codVec).map _ (fun a => (a.id, a.vec)) (fun _ _ => rfl) (fun _ _ => rfl) (fun b h => ⟨h.1, h.2⟩) fun a h => ⟨⟨h.1, h.2⟩, rfl⟩
def rRows : RF (List MRow) := rCount 64 rMRow
def rowsK (v : List MRow) : Prop := v.length ≤ 64 ∧ ∀ a ∈ v, mrowK a
theorem codRows : Cod pRows rRows rowsK := codCount codMRow (by omega)
def rMem : RF (List Bytes) := rCount 64 (rText 6)
def memK (v : List Bytes) : Prop := v.length ≤ 64 ∧ ∀ a ∈ v, a.length ≤ 6
theorem codMem : Cod pMem rMem memK := codCount (codText (by omega)) (by omega)
end Go.Evl.Zone

namespace Go.Evl.Zone
open Go Go.Evl
variable {P : Program}
open Go.Evl.Fl
theorem zone_len {l : List RS} (h : zoneRight (toSI l) = true) : (textL l).length ≤ 1440 := by
  obtain ⟨hl, _, hri⟩ := zoneRight_all h
  refine textL_len (fun q hq => ?_) (by simpa [toSI] using hl)
  have := right_okB (hri q.si (by simp [toSI]; exact ⟨q, hq, rfl⟩))
  exact this
theorem ppI_loop {f : Frame} {v : List Item} (T : TI P) (hn : ∀ q ∈ v, itemR q = true) {ks : List Fr'} {K : Ex → St → Prop} (hL : v.length ≤ most) : ∀ (rest : List Item) (i : Nat) (D : Bytes) (st : St), v.drop i = rest → i ≤ v.length → (∃ p, st.σ 1 = .ptr p 0 ∧ st.h.at_ p = .box (fP f) ∧ p < st.h.n) → st.σ 48 = lvP v → st.σ 49 = iv v.length → st.σ 50 = iv i → st.σ 3 = lv D → D.length + (rest.map pItem).flatten.length + 240 ≤ most →
    (∀ st', (∃ p, st'.σ 1 = .ptr p 0 ∧ st'.h.at_ p = .box (fP f) ∧ p < st'.h.n) → st'.σ 3 = lv (D ++ (rest.map pItem).flatten) → VN (env P) 9 st' ks K) → V (env P) 9 (.loop L9_0) st (.blk 0 :: ks) K
  | [], i, D, st, hr, hile, ⟨p, hb, hp, hpn⟩, h48, h49, hi, ha, hm, hend => by
    obtain ⟨hii, hlt, hd⟩ := drop_nil hr hile
    rw [V_loop]
    simp [L9_0, hb, hp, hpn, h48, h49, hi, hlt]
    exact hend _ ⟨p, by simp [hb], by simp [hp, hpn], by simp; omega⟩ (by simp [ha])
  | q :: rest, i, D, st, hr, hile, ⟨p, hb, hp, hpn⟩, h48, h49, hi, ha, hm, hend => by
    obtain ⟨hq, hlt, hr', _⟩ := drop_cons hr
    have hmq := List.mem_of_getElem? hq
    have hc := EnP_at hq
    have hw := wrapS (i := i) (by unfold most at hL; omega)
    simp only [List.map_cons, List.flatten_cons, List.length_append] at hm
    have hne : ¬ p = st.h.n := by omega
    have hpn1 : p < st.h.n + 1 := by omega
    obtain ⟨D1, hD1⟩ : ∃ x, x = D ++ pItem q := ⟨_, rfl⟩
    have hl1 := congrArg List.length hD1
    simp only [List.length_append] at hl1
    have hk1 := itemPut_ans (P := P) T (b := D) (q := q) (hn q hmq) (by omega)
    rw [← hD1] at hk1
    rw [V_loop]
    simp [L9_0, hb, hp, hpn, hne, hpn1, h48, h49, hi, ha, hlt, hc, hw, hk1]
    refine ppI_loop T hn hL rest (i + 1) D1 _ hr' (by omega) ⟨p, by simp [hb], by simp [hp, hpn, hne, hpn1], by simp; omega⟩ (by simp [h48]) (by simp [h49]) (by simp) (by simp) (by simp only [pItem, List.length_append] at hm hl1; omega) (fun st' x a => hend st' x (by rw [a]; simp [hD1, pItem]))
end Go.Evl.Zone

namespace Go.Evl.Zone
open Go Go.Evl Go.Evl.Fl
variable {P : Program}
theorem wrapU8 {n : Int} (h : 0 ≤ n ∧ n < 256) : IntKind.u8.wrap n = n := by
  have : IntKind.u8.wrap n = n % 256 := rfl
  omega
def digs : List UInt8 → Nat → Option Nat
  | [], n => some n
  | b :: r, n => if 48 ≤ b.toNat ∧ b.toNat ≤ 57 then digs r (10 * n + (b.toNat - 48)) else none
theorem loop40 (T : Typed P) {T5 : List UInt8} {ks : List Fr'} {K : Ex → St → Prop} (hL : T5.length ≤ 7) : ∀ (rest : List UInt8) (i n : Nat) (st : St), T5.drop i = rest → i ≤ T5.length → n < 10 ^ i → st.σ 5 = sv T5 → st.σ 6 = .val (.int .i64 n) → st.σ 7 = .val (.int .i64 i) →
    (∀ st', digs rest n = none → st'.σ 2 = .val (.int .i64 0) → st'.σ 3 = .val (.bool false) → K .ret st') → (∀ st' r, digs rest n = some r → st'.σ 0 = st.σ 0 → st'.σ 4 = st.σ 4 → st'.σ 6 = .val (.int .i64 (r : Int)) → r < 10 ^ T5.length → VN (env P) 176 st' ks K) → V (env P) 176 (.loop L176_0) st (.blk 0 :: ks) K
  | [], i, n, st, hr, hi, hn, h5, h6, h7, hret, hend => by
    obtain ⟨hii, hlt, ht⟩ := drop_nil hr hi
    rw [V_loop]
    simp [L176_0, h5, h7, sv_size, hlt]
    exact hend _ n rfl (by simp) (by simp) (by simp [h6]) (by rw [← hii]; exact hn)
  | b :: rest, i, n, st, hr, hi, hn, h5, h6, h7, hret, hend => by
    obtain ⟨hq, hlt, hr', ht⟩ := drop_cons hr
    have hix : ∀ h, T5[i]'h = b := fun h => by have := List.getElem?_eq_getElem h; rw [hq] at this; exact (Option.some.inj this).symm
    have hw := wrapS (i := i) (by omega)
    have hp : n < 10000000 := Nat.lt_of_lt_of_le hn (Nat.le_trans (Nat.pow_le_pow_right (by decide) (by omega : i ≤ 7)) (by decide))
    have hpow : 10 ^ (i + 1) = 10 * 10 ^ i := by rw [Nat.pow_succ]; omega
    rw [V_loop]
    by_cases lo : b.toNat < 48
    · have lo' : (b.toNat : Int) < 48 := by omega
      simp [L176_0, h5, h6, h7, sv_size, hlt, hq, hix, lo, lo']
      exact hret _ (by rw [digs, if_neg (by omega)]) (by simp) (by simp)
    · have lo' : ¬ (b.toNat : Int) < 48 := by omega
      by_cases hi' : 57 < b.toNat
      · have hi2 : (57 : Int) < (b.toNat : Int) := by omega
        simp [L176_0, h5, h6, h7, sv_size, hlt, hq, hix, lo, lo', hi', hi2]
        exact hret _ (by rw [digs, if_neg (by omega)]) (by simp) (by simp)
      · have hi2 : ¬ (57 : Int) < (b.toNat : Int) := by omega
        rw [digs, if_pos (by omega)] at hret hend
        have w1 : IntKind.u8.wrap ((b.toNat : Int) - 48) = ((b.toNat - 48 : Nat) : Int) := by rw [wrapU8 (by omega)]; omega
        have w2 : IntKind.i64.wrap (10 * (n : Int)) = ((10 * n : Nat) : Int) := by rw [wrap64_id (by omega)]; omega
        have w3 : scal P (Go.convert 5 3 (.int .u8 ((b.toNat - 48 : Nat) : Int))) = some (.val (.int .i64 ((b.toNat - 48 : Nat) : Int))) := by
          rw [cv_ii (by rw [T.t5]; rfl) T.t3, wrap64_id (by omega)]
        have w4 : IntKind.i64.wrap (((10 * n : Nat) : Int) + ((b.toNat - 48 : Nat) : Int)) = ((10 * n + (b.toNat - 48) : Nat) : Int) := by rw [wrap64_id (by omega)]; omega
        have hd : b.toNat - 48 ≤ 9 := by omega
        generalize b.toNat - 48 = d at *
        generalize hm : 10 * n = m at *
        simp [L176_0, h5, h6, h7, sv_size, hlt, hq, hix, lo, lo', hi', hi2, w1, w2, w3, w4, hw]
        refine loop40 T hL rest (i + 1) (m + d) _ hr' (by omega) (by omega) ?_ ?_ ?_ hret ?_
        · simp [h5]
        · simp
        · simp
        · intro st' r a b c e f
          exact hend st' r a (by rw [b]; simp) (by rw [c]; simp) e f
def refInt (s : List UInt8) : Int × Bool :=
  let body := if s.head? = some 45 then s.tail else s
  if body.length < 1 ∨ 7 < body.length then (0, false) else
  match digs body 0 with
  | none => (0, false)
  | some r => let n : Int := if s.head? = some 45 then -(r : Int) else r
    (n, decide (Lib.itoa n = s))
theorem refInt_ans (T : Typed P) {s : List UInt8} : ans (env P) 176 [sv s] = some (.tup [.val (.int .i64 (refInt s).1), .val (.bool (refInt s).2)]) := by
  refine ans_V rfl rfl ?_
  have res : ∀ {st : St} {a b : Nat}, resV st [.tmp a, .tmp b] = some (.tup [st.σ a, st.σ b]) := rfl
  cases s with
  | nil => simp [c176, sv_size, res, refInt]
  | cons b r =>
    have hp : (0 : Int) < ((b :: r).length : Int) := by simp
    have hp' : (0 : Int) < (r.length : Int) + 1 := by omega
    by_cases h : b = 45
    · subst h
      have hsl : ∀ H, sliceP H 0 (sv (45 :: r)) (some 1) none none = some (sv r, []) := by
        intro H
        have e := sv_slice (H := H) (l := 45 :: r) (a := 1) (b := r.length + 1) (by omega) (by simp)
        simp only [List.drop_succ_cons, List.drop_zero, Nat.add_sub_cancel, List.take_length] at e
        exact e
      by_cases l1 : r.length < 1
      · have l1' : (r.length : Int) < 1 := by omega
        simp [c176, sv_size, hp', hsl, l1, l1', res, refInt]
      by_cases l2 : 7 < r.length
      · have l1' : ¬ (r.length : Int) < 1 := by omega
        have l2' : (7 : Int) < (r.length : Int) := by omega
        simp [c176, sv_size, hp', hsl, l1, l1', l2, l2', res, refInt]
      have l1' : ¬ (r.length : Int) < 1 := by omega
      have l2' : ¬ (7 : Int) < (r.length : Int) := by omega
      simp [c176, sv_size, hp', hsl, l1', l2']
      refine loop40 T (T5 := r) (by omega) r 0 0 _ rfl (by omega) (by simp) (by simp) (by simp) (by simp) ?_ ?_
      · intro st' a e2 e3
        simp [e2, e3, res, refInt, l1, l2, a]
      · intro st' n a e0 e4 e6 hn
        have hn7 : n < 10000000 := Nat.lt_of_lt_of_le hn (Nat.le_trans (Nat.pow_le_pow_right (by decide) (by omega : r.length ≤ 7)) (by decide))
        simp at e0 e4
        have w : IntKind.i64.wrap (-1 * (n : Int)) = -(n : Int) := by rw [wrap64_id (by omega)]; omega
        have w' : IntKind.i64.wrap (-(n : Int)) = -(n : Int) := wrap64_id (by omega)
        have hN := num_ans (P := P) (n := -(n : Int)) (by omega)
        have he := fun t cx cy => evBin_seql (P := P) (t := t) (cx := cx) (cy := cy) (Lib.itoa (-(n : Int))) (45 :: r)
        have hR : refInt (45 :: r) = (-(n : Int), decide (Lib.itoa (-(n : Int)) = 45 :: r)) := by simp [refInt, l1, l2, a]
        rw [hR]
        generalize Lib.itoa (-(n : Int)) = Z at *
        simp [e0, e4, e6, w, w', hN, he, res]
    · have h45 : ¬ (b.toNat : Int) = 45 := by
        intro e
        exact h (UInt8.toNat_inj.1 (by show b.toNat = 45; omega))
      have hh : ¬ ((b :: r).head? = some 45) := by simpa using h
      have l1 : ¬ (b :: r).length < 1 := by simp
      have l1' : ¬ ((r.length : Int) + 1 < 1) := by omega
      by_cases l2 : 7 < (b :: r).length
      · have l2' : (7 : Int) < (r.length : Int) + 1 := by simp at l2; omega
        have hR : refInt (b :: r) = (0, false) := by rw [refInt, if_neg hh]; simp only; rw [if_pos (.inr l2)]
        rw [hR]
        simp [c176, sv_size, hp', h45, h, l1', l2', res]
      · have l2' : ¬ (7 : Int) < (r.length : Int) + 1 := by simp at l2; omega
        have hR : ∀ x, digs (b :: r) 0 = x → refInt (b :: r) = match x with | none => (0, false) | some r' => ((r' : Int), decide (Lib.itoa (r' : Int) = b :: r)) := by
          rintro x rfl
          rw [refInt, if_neg hh]; simp only; rw [if_neg (by omega)]
          simp only [if_neg hh]
        simp [c176, sv_size, hp', h45, h, l1', l2']
        refine loop40 T (T5 := b :: r) (by omega) (b :: r) 0 0 _ rfl (by omega) (by simp) (by simp) (by simp) (by simp) ?_ ?_
        · intro st' a e2 e3
          rw [hR _ a]
          simp [e2, e3, res]
        · intro st' n a e0 e4 e6 hn
          rw [hR _ a]
          have hn7 : n < 10000000 := Nat.lt_of_lt_of_le hn (Nat.le_trans (Nat.pow_le_pow_right (by decide) (by omega : (b :: r).length ≤ 7)) (by decide))
          simp at e0 e4
          have w : IntKind.i64.wrap (n : Int) = (n : Int) := wrap64_id (by omega)
          have hN := num_ans (P := P) (n := (n : Int)) (by omega)
          have he := fun t cx cy => evBin_seql (P := P) (t := t) (cx := cx) (cy := cy) (Lib.itoa (n : Int)) (b :: r)
          simp [e0, e4, e6, w, hN, he, res]
end Go.Evl.Zone

namespace Go.Evl.Zone
open Go Go.Evl Go.Evl.Fl
variable {P : Program}
def opFrom (w : List UInt8) : List (List UInt8) → Nat → Int → Int
  | [], _, a => a
  | x :: r, i, a => opFrom w r (i + 1) (if x = w then (i : Int) else a)
theorem loop24_0 {W : List UInt8} {ws : List (List UInt8)} {p : Nat} {v : PV} {rows : List (List PV)} {ks : List Fr'} {K : Ex → St → Prop} : ∀ (rest : List (List UInt8)) (i : Nat) (a : Int) (st : St), namesL.drop i = rest → i ≤ 7 → st.σ 4 = .im (svs namesL) true → st.σ 8 = .im (svs (W :: ws)) false → st.σ 9 = .ptr p 0 → st.h.at_ p = .box [.val (.int .i64 a), .val (.int .i64 0), .val (.int .i64 0), .val (.int .i64 0)] → p < st.h.n → Lst st.h 4 v rows → st.σ 10 = .val (.int .i64 i) →
    (∀ st', st'.σ 4 = st.σ 4 → st'.σ 5 = st.σ 5 → st'.σ 6 = st.σ 6 → st'.σ 7 = st.σ 7 → st'.σ 8 = st.σ 8 → st'.σ 9 = st.σ 9 → st'.h.at_ p = .box [.val (.int .i64 (opFrom W rest i a)), .val (.int .i64 0), .val (.int .i64 0), .val (.int .i64 0)] → p < st'.h.n → Lst st'.h 4 v rows → VN (env P) 137 st' ks K) → V (env P) 137 (.loop L137_0) st (.blk 2 :: ks) K
  | [], i, a, st, hr, hi, h4, h8, h9, hb, hp, hl, h10, hend => by
    have hi7 : 7 ≤ i := by have := congrArg List.length hr; simp [namesL] at this; omega
    have hlt : ¬ ((i : Int) < 7) := by omega
    have gl : namesL.length = 7 := rfl
    rw [V_loop]
    simp [L137_0, h4, h10, hlt, gl]
    exact hend _ (by simp [h4]) (by simp) (by simp) (by simp) (by simp) (by simp) (by simp [hb, hp, opFrom]) (by simp; omega) (by simpa using hl.grow)
  | q :: rest, i, a, st, hr, hi, h4, h8, h9, hb, hp, hl, h10, hend => by
    obtain ⟨hq, hlt, hr', ht⟩ := drop_cons hr
    have gl : namesL.length = 7 := rfl
    rw [gl] at hlt
    have hlt' : (i : Int) < 7 := by omega
    have hc : ∀ h, (svs namesL)[i]'h = [sv q] := fun h => svs_at hq h
    have hw0 : svs (W :: ws) = [sv W] :: svs ws := rfl
    have hw := wrapS (i := i) (by omega)
    have he := fun t cx cy => evBin_seql (P := P) (t := t) (cx := cx) (cy := cy) q W
    rw [hw0] at h8
    rw [V_loop]
    by_cases h : q = W
    · rw [decide_eq_true h] at he
      simp [L137_0, h4, h8, h9, h10, hlt, hlt', gl, hc, he, hb, hp, hw, allLen]
      refine loop24_0 (p := p) (ws := ws) (W := W) (v := v) (rows := rows) rest (i + 1) i _ hr' (by omega) ?_ ?_ ?_ ?_ ?_ ?_ ?_ ?_
      · simp [h4]
      · simp [h8, hw0]
      · simp [h9]
      · simp [hp]
      · simp; omega
      · repeat (first | exact hl | refine Lst.grow ?_ | refine Lst.putN ?_ (by simp [hb, hp]))
      · simp
      · intro st' a4 a5 a6 a7 a8 a9 ab ap al
        refine hend st' (by rw [a4]; simp) (by rw [a5]; simp) (by rw [a6]; simp) (by rw [a7]; simp) (by rw [a8]; simp) (by rw [a9]; simp) ?_ ap al
        rw [ab, opFrom, if_pos h]
    · rw [decide_eq_false h] at he
      simp [L137_0, h4, h8, h9, h10, hlt, hlt', gl, hc, he, hb, hp, hw, allLen]
      refine loop24_0 (p := p) (ws := ws) (W := W) (v := v) (rows := rows) rest (i + 1) a _ hr' (by omega) ?_ ?_ ?_ ?_ ?_ ?_ ?_ ?_
      · simp [h4]
      · simp [h8, hw0]
      · simp [h9]
      · simp [hb, hp]
      · simp; omega
      · repeat (first | exact hl | refine Lst.grow ?_ | refine Lst.putN ?_ (by simp [hb, hp]))
      · simp
      · intro st' a4 a5 a6 a7 a8 a9 ab ap al
        refine hend st' (by rw [a4]; simp) (by rw [a5]; simp) (by rw [a6]; simp) (by rw [a7]; simp) (by rw [a8]; simp) (by rw [a9]; simp) ?_ ap al
        rw [ab, opFrom, if_neg h]
end Go.Evl.Zone

namespace Go.Evl.Zone
open Go Go.Evl Go.Evl.Fl
variable {P : Program}
def opOf (W : List UInt8) : Int := opFrom W (namesL.drop 1) 1 0
def refStep (w : List UInt8) : Option RS :=
  match splitL 32 w with
  | [W] => if opOf W = 2 ∨ opOf W = 3 then none else some ⟨opOf W, 0, 0, 0⟩
  | [W, a, b, c] => if opOf W = 2 ∨ opOf W = 3 then (if (refInt a).2 = true ∧ (refInt b).2 = true ∧ (refInt c).2 = true then some ⟨opOf W, (refInt a).1, (refInt b).1, (refInt c).1⟩ else none) else none
  | _ => none
def refSteps : List (List UInt8) → Option (List RS)
  | [] => some []
  | w :: r => match refStep w with
    | none => none
    | some q => (refSteps r).map (q :: ·)
set_option maxHeartbeats 8000000 in
theorem loop24_1 (T : Typed P) {L : List (List UInt8)} (hw : ∀ w ∈ L, w.length ≤ 100000) {ks : List Fr'} {K : Ex → St → Prop} (hL : L.length ≤ 100000) : ∀ (rest : List (List UInt8)) (i : Nat) (st : St) (v : PV) (D : List RS), L.drop i = rest → i ≤ L.length → D.length = i → st.σ 4 = .im (svs namesL) true → st.σ 6 = .im (svs L) false → st.σ 7 = .val (.int .i64 i) → st.σ 5 = v → Lst st.h 4 v (rsV D) →
    (∀ st', refSteps rest = none → st'.σ 2 = .im [] true → st'.σ 3 = .val (.bool false) → K .ret st') → (∀ st' v out, refSteps rest = some out → st'.σ 5 = v → Lst st'.h 4 v (rsV (D ++ out)) → VN (env P) 137 st' ks K) → V (env P) 137 (.loop L137_1) st (.blk 0 :: ks) K
  | [], i, st, v, D, hr, hi, hD, h4, h6, h7, h5, hl, hret, hend => by
    obtain ⟨_, hlt, ht⟩ := drop_nil hr hi
    rw [V_loop]
    simp [L137_1, h6, h7, hlt]
    exact hend _ v [] rfl (by simp [h5]) (by simpa using hl.grow)
  | w :: rest, i, st, v, D, hr, hi, hD, h4, h6, h7, h5, hl, hret, hend => by
    obtain ⟨hq, hlt, hr', ht⟩ := drop_cons hr
    have hc : ∀ h, (svs L)[i]'h = [sv w] := fun h => svs_at hq h
    have hw3 := wrapS (i := i) (by omega)
    have hS : ans (env P) 175 [sv w, .val (.int .u8 32)] = some (.im (svs (splitL 32 w)) false) := refSplit_ans (c := 32) (hw w (List.mem_of_getElem? hq))
    obtain ⟨W, wt, hws⟩ : ∃ W wt, splitL 32 w = W :: wt := by
      cases h : splitL 32 w with
      | nil => exact absurd h (splitL_ne 32 w)
      | cons a b => exact ⟨a, b, rfl⟩
    rw [hws] at hS
    have hw0 : svs (W :: wt) = [sv W] :: svs wt := rfl
    have hI := fun a => refInt_ans (P := P) T (s := a)
    rw [V_loop]
    simp [L137_1, h4, h5, h6, h7, hlt, hc, hS]
    refine loop24_0 (p := st.h.n) (ws := wt) (W := W) (v := v) (rows := rsV D) (namesL.drop 1) 1 0 _ rfl (by omega) ?_ ?_ ?_ ?_ ?_ ?_ ?_ ?_
    · simp [h4]
    · simp
    · simp
    · simp
    · simp
    · repeat (first | exact hl | refine Lst.grow ?_ | refine Lst.putN ?_ (by simp))
    · simp
    intro st' a4 a5 a6 a7 a8 a9 ab ap al
    simp [h4] at a4
    simp [h5] at a5
    simp [h6] at a6
    simp [h7] at a7
    simp at a8 a9
    rw [show opFrom W (List.drop 1 namesL) 1 0 = opOf W from rfl] at ab
    have fin : ∀ (st2 : St) (v2 : PV) (q : RS), refStep w = some q → st2.σ 4 = .im (svs namesL) true → st2.σ 6 = .im (svs L) false → st2.σ 7 = .val (.int .i64 ((i + 1 : Nat) : Int)) → st2.σ 5 = v2 → Lst st2.h 4 v2 (rsV (D ++ [q])) → V (env P) 137 (.loop L137_1) st2 (.blk 0 :: ks) K := by
      intro st2 v2 q hq' b4 b6 b7 b5 bl
      refine loop24_1 T hw hL rest (i + 1) st2 v2 (D ++ [q]) hr' (by omega) (by simp [hD]) b4 b6 b7 b5 bl ?_ ?_
      · intro st3 x
        exact hret st3 (by rw [refSteps, hq']; simp [x])
      · intro st3 v3 out x y z
        exact hend st3 v3 (q :: out) (by rw [refSteps, hq']; simp [x]) y (by simpa using z)
    have bad : refStep w = none → refSteps (w :: rest) = none := fun h => by rw [refSteps, h]
    have hstep : refStep w = match W :: wt with
        | [W] => if opOf W = 2 ∨ opOf W = 3 then none else some ⟨opOf W, 0, 0, 0⟩
        | [W, a, b, c] => if opOf W = 2 ∨ opOf W = 3 then (if (refInt a).2 = true ∧ (refInt b).2 = true ∧ (refInt c).2 = true then some ⟨opOf W, (refInt a).1, (refInt b).1, (refInt c).1⟩ else none) else none
        | _ => none   := by rw [refStep, hws]
    have rs1 : ∀ q : RS, rsV (D ++ [q]) = rsV D ++ [q.cells] := fun q => by simp [rsV]
    by_cases ho : opOf W = 2 ∨ opOf W = 3
    · have ho2 := ho
      by_cases hn : ∃ a b c, wt = [a, b, c]
      · obtain ⟨a, b, c, rfl⟩ := hn
        have ha := hI a
        have hb := hI b
        have hc' := hI c
        have sv4 : svs [W, a, b, c] = [[sv W], [sv a], [sv b], [sv c]] := rfl
        rw [sv4] at a8
        simp only [ho, if_true] at hstep
        generalize refInt a = ra at ha hstep
        generalize refInt b = rb at hb hstep
        generalize refInt c = rc at hc' hstep
        obtain ⟨na, ka⟩ := ra
        obtain ⟨nb, kb⟩ := rb
        obtain ⟨nc, kc⟩ := rc
        simp only at ha hb hc' hstep
        rcases ho with o | o
        · rw [o] at ab hstep
          by_cases k1 : ka = true
          · by_cases k2 : kb = true
            · by_cases k3 : kc = true
              · subst k1 k2 k3
                simp only [and_self, if_true] at hstep
                simp [a4, a5, a6, a7, a8, a9, ab, ap, ha, hb, hc', chunks, elems, allLen]
                refine VP_app (ys := rsV D) (by repeat (first | exact al | refine Lst.grow ?_ | refine Lst.putN ?_ (by simp [ab, ap]))) (by simp) (by simp) rfl (by simp; unfold most; omega) fun v' H' wr rd e2 e3 _ => ?_
                simp [a4, a6, a7, hw3, e3]
                refine fin _ v' _ hstep ?_ ?_ ?_ ?_ ?_
                · simp [a4]
                · simp [a6]
                · simp
                · simp
                · rw [rs1]
                  repeat (first | exact e2 | refine Lst.grow ?_)
              · have k3' : kc = false := by simpa using k3
                subst k1 k2 k3'
                simp at hstep
                simp [a4, a5, a6, a7, a8, a9, ab, ap, ha, hb, hc', allLen]
                exact hret _ (bad hstep) (by simp) (by simp)
            · have k2' : kb = false := by simpa using k2
              subst k1 k2'
              simp at hstep
              simp [a4, a5, a6, a7, a8, a9, ab, ap, ha, hb, hc', allLen]
              exact hret _ (bad hstep) (by simp) (by simp)
          · have k1' : ka = false := by simpa using k1
            subst k1'
            simp at hstep
            simp [a4, a5, a6, a7, a8, a9, ab, ap, ha, hb, hc', allLen]
            exact hret _ (bad hstep) (by simp) (by simp)
        · rw [o] at ab hstep
          by_cases k1 : ka = true
          · by_cases k2 : kb = true
            · by_cases k3 : kc = true
              · subst k1 k2 k3
                simp only [and_self, if_true] at hstep
                simp [a4, a5, a6, a7, a8, a9, ab, ap, ha, hb, hc', chunks, elems, allLen]
                refine VP_app (ys := rsV D) (by repeat (first | exact al | refine Lst.grow ?_ | refine Lst.putN ?_ (by simp [ab, ap]))) (by simp) (by simp) rfl (by simp; unfold most; omega) fun v' H' wr rd e2 e3 _ => ?_
                simp [a4, a6, a7, hw3, e3]
                refine fin _ v' _ hstep ?_ ?_ ?_ ?_ ?_
                · simp [a4]
                · simp [a6]
                · simp
                · simp
                · rw [rs1]
                  repeat (first | exact e2 | refine Lst.grow ?_)
              · have k3' : kc = false := by simpa using k3
                subst k1 k2 k3'
                simp at hstep
                simp [a4, a5, a6, a7, a8, a9, ab, ap, ha, hb, hc', allLen]
                exact hret _ (bad hstep) (by simp) (by simp)
            · have k2' : kb = false := by simpa using k2
              subst k1 k2'
              simp at hstep
              simp [a4, a5, a6, a7, a8, a9, ab, ap, ha, hb, hc', allLen]
              exact hret _ (bad hstep) (by simp) (by simp)
          · have k1' : ka = false := by simpa using k1
            subst k1'
            simp at hstep
            simp [a4, a5, a6, a7, a8, a9, ab, ap, ha, hb, hc', allLen]
            exact hret _ (bad hstep) (by simp) (by simp)
      · have hln : ¬ ((wt.length : Int) + 1 = 4) := by
          intro e
          have : wt.length = 3 := by omega
          match wt, this with
          | [a, b, c], _ => exact hn ⟨a, b, c, rfl⟩
        have hno : refStep w = none := by
          rw [hstep]
          split
          · rename_i h
            simp at h
            obtain ⟨rfl, _⟩ := h
            rw [if_pos ho]
          · rename_i h
            simp at h
            exact absurd ⟨_, _, _, h.2⟩ hn
          · rfl
        rcases ho with o | o
        · rw [o] at ab
          simp [a4, a5, a6, a7, a8, a9, ab, ap, hln]
          exact hret _ (bad hno) (by simp) (by simp)
        · rw [o] at ab
          simp [a4, a5, a6, a7, a8, a9, ab, ap, hln]
          exact hret _ (bad hno) (by simp) (by simp)
    · obtain ⟨o2, o3⟩ := not_or.1 ho
      by_cases hn : wt = []
      · subst hn
        simp only [ho, if_false] at hstep
        simp [a4, a5, a6, a7, a8, a9, ab, ap, o2, o3, chunks, elems, allLen]
        refine VP_app (ys := rsV D) (by repeat (first | exact al | refine Lst.grow ?_ | refine Lst.putN ?_ (by simp))) (by simp) (by simp) rfl (by simp; unfold most; omega) fun v' H' wr rd e2 e3 _ => ?_
        simp [a4, a6, a7, hw3, e3]
        refine fin _ v' _ hstep ?_ ?_ ?_ ?_ ?_
        · simp [a4]
        · simp [a6]
        · simp
        · simp
        · rw [rs1]
          repeat (first | exact e2 | refine Lst.grow ?_)
      · have hln : ¬ ((wt.length : Int) + 1 = 1) := by
          have : wt.length ≠ 0 := fun e => hn (List.length_eq_zero_iff.1 e)
          omega
        have hno : refStep w = none := by
          rw [hstep]
          split
          · rename_i h; simp at h; exact absurd h.2 hn
          · rename_i h
            simp at h
            obtain ⟨rfl, _⟩ := h
            rw [if_neg ho]
          · rfl
        simp [a4, a5, a6, a7, a8, a9, ab, ap, o2, o3, hn, hln]
        exact hret _ (bad hno) (by simp) (by simp)
end Go.Evl.Zone

namespace Go.Evl.Zone
open Go Go.Evl Go.Evl.Fl
variable {P : Program}
theorem splitL_len {c : UInt8} : ∀ s : List UInt8, (splitL c s).length ≤ s.length + 1
  | [] => by simp [splitL]
  | b :: l => by
    have ih := splitL_len (c := c) l
    rw [splitL]
    split
    · simp; omega
    · split
      · rename_i h; rw [h] at ih; simp at ih ⊢; omega
      · simp
theorem splitL_mem {c : UInt8} : ∀ (s : List UInt8), ∀ w ∈ splitL c s, w.length ≤ s.length
  | [], w, h => by simp [splitL] at h; subst h; simp
  | b :: l, w, h => by
    have ih := splitL_mem (c := c) l
    rw [splitL] at h
    split at h
    · rcases List.mem_cons.1 h with rfl | h
      · simp
      · have := ih w h; simp; omega
    · split at h
      · rename_i x xs hx
        rw [hx] at ih
        rcases List.mem_cons.1 h with rfl | h
        · have := ih x (by simp); simp; omega
        · have := ih w (by simp [h]); simp; omega
      · simp at h; subst h; simp
noncomputable def refParse (s : List UInt8) : Option (List RS) := match refSteps (splitL 44 s) with
  | none => none
  | some out => if zoneRight (toSI out) = true then some out else none
theorem refParse_ans (T : Typed P) {s : List UInt8} (hs : s.length ≤ 2000) : ans (env P) 137 [sv s] = some (match refParse s with | some out => .tup [.im (rsV out) false, .val (.bool true)] | none => .tup [.im [] false, .val (.bool false)]) := by
  have hS : ans (env P) 175 [sv s, .val (.int .u8 44)] = some (.im (svs (splitL 44 s)) false) := refSplit_ans (c := 44) (by omega)
  have hlen := splitL_len (c := 44) s
  have hmem := splitL_mem (c := 44) s
  refine ans_V rfl rfl ?_
  simp [c137, hS, chunks]
  refine loop24_1 T (L := splitL 44 s) (fun w hw => by have := hmem w hw; omega) (by omega) (splitL 44 s) 0 _ _ [] rfl (by omega) rfl (by simp [namesL, svs]) (by simp) (by simp) rfl (by simp [rsV]; exact Lst.nil) ?_ ?_
  · intro st' h h2 h3
    have : refParse s = none := by rw [refParse, h]
    rw [this]
    simp [h2, h3, resV_two]
  · intro st' v out h h5 hl
    rw [List.nil_append] at hl
    have hR := refRight_ans (P := P) (l := out)
    obtain ⟨is, he⟩ := expAs_lst (hl.grow (m := 0)) (plainss_rs _)
    cases hz : zoneRight (toSI out)
    · rw [hz] at hR
      have : refParse s = none := by rw [refParse, h]; simp [hz]
      rw [this]
      simp [-expA, expA_bool, expA_im, he, h5, hR, resV_two]
    · rw [hz] at hR
      have : refParse s = some out := by rw [refParse, h]; simp [hz]
      rw [this]
      obtain ⟨is2, he2⟩ := expAs_lst ((hl.grow (m := 0)).grow (m := 0)) (plainss_rs _)
      obtain ⟨is3, he3⟩ := expAs_lst (((hl.grow (m := 0)).grow (m := 0)).grow (m := 0)) (plainss_rs _)
      simp [-expA, expA_bool, expA_im, he, he2, he3, h5, hR, resV_two]
end Go.Evl.Zone

namespace Go.Evl.Zone
open Go Go.Evl Go.Evl.Fl
attribute [local simp] VB_ite VG_ite
variable {P : Program}
end Go.Evl.Zone

namespace Go.Evl.Zone
open Go Go.Evl Go.Evl.Fl
variable {P : Program}
end Go.Evl.Zone

namespace Go.Evl.Zone
open Go Go.Evl Go.Evl.Fl
variable {P : Program}
end Go.Evl.Zone

namespace Go.Evl.Zone
open Go Go.Evl Go.Evl.Fl
variable {P : Program}
theorem parsed_empty : ans (env P) 155 [sv []] = some (.agg (SI.cells ⟨0, 0, 0, 0, 0, 0, 0⟩)) := by
  have hS := pSplit_ok (c := 32) (l := []) (by decide)
  have hN : ans (env P) 93 [] = some (.im (svs namesL) false) := names_ans
  have hI := index_ans (P := P) (L := namesL) (w := []) (by decide)
  rw [show idxFrom [] namesL 0 = 0 from rfl] at hI
  have p37 := fun {dst : Option Nat} {rest : List CI} {i slot slot' : Nat} {log : Log} {d : Option (Nat × List (Nat × Nat))} {K : Ex → St → Prop} {st : St} {ks : List Fr'} {xs : List O} => VA_prim (E := env P) (f := 155) (g := 154) (p := pSplit) (dst := dst) (rest := rest) (i := i) (slot := slot) (slot' := slot') (log := log) (d := d) (K := K) (st := st) (ks := ks) (xs := xs) rfl
  have e : svs (splitL 32 []) = [[sv []]] := rfl
  rw [e] at hS
  refine ans_V rfl rfl ?_
  simp [c155, p37, hS, hN, hI, SI.cells, allLen]
theorem textR_ne {q : RS} (h : q.okB) : textR q ≠ [] := by
  have hn : nameOf q.op ≠ [] := by
    have : q.op = 1 ∨ q.op = 2 ∨ q.op = 3 ∨ q.op = 4 ∨ q.op = 5 ∨ q.op = 6 := by have := h.1; have := h.2.1; omega
    rcases this with h | h | h | h | h | h <;> rw [h] <;> decide
  unfold textR
  split
  · simp [joinL, hn]
  · exact hn
theorem textL_ne {l : List RS} (h0 : l ≠ []) (h : ∀ q ∈ l, q.okB) : textL l ≠ [] := by
  cases l with
  | nil => exact absurd rfl h0
  | cons q l =>
    have := textR_ne (h q (by simp))
    cases l with
    | nil => simpa [textL, joinL] using this
    | cons p l => simp [textL, joinL, this]
theorem back_ans (T : Typed P) {l : List RS} : ans (env P) 107 [sv (if zoneRight (toSI l) then textL l else [])] = some (if zoneRight (toSI l) then .tup [.im (stepsV (toSI l)) false, .val (.bool true)] else .tup [.im [] false, .val (.bool false)]) := by
  cases hz : zoneRight (toSI l)
  · have h := parse_ans (P := P) T (L := [([], ⟨0, 0, 0, 0, 0, 0, 0⟩)]) (by intro p hp; simp at hp; subst hp; exact parsed_empty) (by intro p hp; simp at hp; subst hp; exact ⟨is0, is0, is0⟩) (s := []) rfl (by decide) (by decide)
    simpa using h
  · obtain ⟨hl, h0, hri⟩ := zoneRight_all hz
    have hri' : ∀ q ∈ l, q.si.right = true := fun q hq => hri q.si (by simp [toSI]; exact ⟨q, hq, rfl⟩)
    have hok : ∀ q ∈ l, q.okB := fun q hq => right_okB (q := q.si) (hri' q hq)
    have hll : l.length ≤ 32 := by simpa [toSI] using hl
    have hlen := textL_len hok hll
    have hl0 : l ≠ [] := by rintro rfl; exact h0 rfl
    have e1 : stp (l.map fun q => (textR q, q.si)) = toSI l := by simp [stp, toSI]
    have h := parse_ans (P := P) T (L := l.map fun q => (textR q, q.si)) (s := textL l) (by
        intro p hp
        obtain ⟨q, hq, rfl⟩ := List.mem_map.1 hp
        exact parsed_ans T (hri' q hq)) (by
        intro p hp
        obtain ⟨q, hq, rfl⟩ := List.mem_map.1 hp
        obtain ⟨_, _, hx, hy, hs⟩ := hok q hq
        exact ⟨Is.nearest (by omega), Is.nearest (by omega), Is.nearest (by omega)⟩) (by
        rw [textL, splitL_join (by simpa using hl0) (by
          intro x hx
          obtain ⟨q, _, rfl⟩ := List.mem_map.1 hx
          exact text_no)]
        simp) (by omega) (by simp; unfold most; omega)
    rw [e1, hz, toSI_rs, if_pos ⟨by simp, textL_ne hl0 hok⟩] at h
    simpa using h
end Go.Evl.Zone

namespace Go.Evl.Zone
open Go Go.Evl Go.Evl.Fl
variable {P : Program}
theorem join_split (c : UInt8) : ∀ s : List UInt8, joinL [c] (splitL c s) = s
  | [] => by simp [splitL, joinL]
  | b :: l => by
    have ih := join_split c l
    rw [splitL]
    split
    · rename_i h
      subst h
      cases hs : splitL b l with
      | nil => exact absurd hs (splitL_ne b l)
      | cons x xs =>
        rw [hs] at ih
        rw [joinL, ih]
        rfl
    · cases hs : splitL c l with
      | nil => exact absurd hs (splitL_ne c l)
      | cons x xs =>
        rw [hs] at ih
        cases xs with
        | nil => simp [joinL] at ih ⊢; exact ih
        | cons y ys =>
          simp only [joinL] at ih ⊢
          rw [List.cons_append, List.cons_append, ih]
theorem opFrom_inv {w : List UInt8} : ∀ (r : List (List UInt8)) (i : Nat) (a : Int), opFrom w r i a = a ∨ ∃ k : Nat, r[k]? = some w ∧ opFrom w r i a = ((i + k : Nat) : Int)
  | [], i, a => .inl rfl
  | x :: r, i, a => by
    rw [opFrom]
    by_cases h : x = w
    · rw [if_pos h]
      rcases opFrom_inv (w := w) r (i + 1) i with e | ⟨k, e1, e2⟩
      · exact .inr ⟨0, by simp [h], by rw [e]; rfl⟩
      · exact .inr ⟨k + 1, by simpa using e1, by rw [e2]; congr 1; omega⟩
    · rw [if_neg h]
      rcases opFrom_inv (w := w) r (i + 1) a with e | ⟨k, e1, e2⟩
      · exact .inl e
      · exact .inr ⟨k + 1, by simpa using e1, by rw [e2]; congr 1; omega⟩
theorem opOf_inv {W : List UInt8} (h : opOf W ≠ 0) : W = nameOf (opOf W) := by
  rcases opFrom_inv (w := W) (namesL.drop 1) 1 0 with e | ⟨k, e1, e2⟩
  · exact absurd e h
  · have e2' : opOf W = ((1 + k : Nat) : Int) := e2
    rw [e2', nameOf, List.getD_eq_getElem?_getD]
    rw [List.getElem?_drop] at e1
    rw [show ((1 + k : Nat) : Int).toNat = 1 + k by omega, e1]
    rfl
theorem opOf_name {op : Int} (h : 1 ≤ op ∧ op ≤ 6) : opOf (nameOf op) = op := by
  have : op = 1 ∨ op = 2 ∨ op = 3 ∨ op = 4 ∨ op = 5 ∨ op = 6 := by omega
  rcases this with h | h | h | h | h | h <;> subst h <;> decide
theorem digs_app {c : UInt8} : ∀ {l : List UInt8} {acc v : Nat}, digs l acc = some v → digs (l ++ [c]) acc = digs [c] v
  | [], acc, v, h => by
    rw [digs] at h
    injection h with h
    subst h; rfl
  | b :: l, acc, v, h => by
    rw [digs] at h
    rw [List.cons_append, digs]
    split at h
    · rename_i h1
      rw [if_pos h1]
      exact digs_app h
    · cases h
theorem digs_dec : ∀ (u : Nat), digs (Lib.decDigits u) 0 = some u := by
  intro u
  induction u using Nat.strongRecOn with
  | _ u IH =>
    have key : ∀ v d, d < 10 → digs [UInt8.ofNat (48 + d)] v = some (10 * v + d) := by
      intro v d hd
      have e : (UInt8.ofNat (48 + d)).toNat = 48 + d := by rw [UInt8.toNat_ofNat']; omega
      rw [digs, e, if_pos (by omega), digs]
      congr 1
      omega
    rw [Lib.decDigits]
    split
    · rename_i h
      rw [key 0 u h]
      congr 1
      omega
    · rename_i h
      rw [digs_app (IH (u / 10) (by omega)), key _ _ (by omega)]
      congr 1
      omega
theorem refInt_itoa {n : Int} (h : n.natAbs < 10000000) : refInt (Lib.itoa n) = (n, true) := by
  have hne := dec_ne n.natAbs
  have hlen := dec_len n.natAbs 6 (by omega)
  have hpos : 0 < (Lib.decDigits n.natAbs).length := List.length_pos_iff.2 hne
  have key : ∀ Z, Z = Lib.itoa n → refInt Z = (n, true) := by
    intro Z hZ
    have hZ' := hZ
    unfold Lib.itoa at hZ'
    split at hZ'
    · rename_i h0
      have hh : Z.head? = some 45 := by rw [hZ']; rfl
      have ht : Z.tail = Lib.decDigits n.natAbs := by rw [hZ']; rfl
      rw [refInt]
      simp only [hh, if_true, ht]
      rw [if_neg (by omega), digs_dec]
      simp only
      have : -(n.natAbs : Int) = n := by omega
      rw [this, hZ]
      simp
    · rename_i h0
      have e : n.toNat = n.natAbs := by omega
      rw [e] at hZ'
      have hh : ¬ Z.head? = some 45 := by
        intro q
        have : (45 : UInt8) ∈ Lib.decDigits n.natAbs := by rw [← hZ']; exact List.mem_of_head? q
        have := dec_dig _ _ this
        have e : (45 : UInt8).toNat = 45 := rfl
        omega
      rw [refInt]
      simp only [hh, if_false]
      rw [hZ', if_neg (by omega), digs_dec]
      simp only
      have : (n.natAbs : Int) = n := by omega
      rw [this, ← hZ', hZ]
      simp
  exact key _ rfl
theorem refInt_inv {a : List UInt8} (h : (refInt a).2 = true) : Lib.itoa (refInt a).1 = a := by
  unfold refInt at h ⊢
  simp only at h ⊢
  generalize (if a.head? = some 45 then a.tail else a) = body at h ⊢
  by_cases h1 : body.length < 1 ∨ 7 < body.length
  · rw [if_pos h1] at h; cases h
  · rw [if_neg h1] at h ⊢
    cases hd : digs body 0 with
    | none => rw [hd] at h; cases h
    | some r =>
      rw [hd] at h
      simp only [decide_eq_true_eq] at h ⊢
      exact h
theorem refStep_inv {w : List UInt8} {q : RS} (h : refStep w = some q) (hop : q.op ≠ 0) : w = textR q := by
  have hj := join_split 32 w
  unfold refStep at h
  split at h
  · rename_i W hw
    split at h
    · cases h
    · rename_i ho
      injection h with h
      subst h
      rw [hw] at hj
      simp only [textR]
      rw [if_neg ho, ← opOf_inv hop]
      exact hj.symm
  · rename_i W a b c hw
    split at h
    · rename_i ho
      split at h
      · rename_i hk
        injection h with h
        subst h
        rw [hw] at hj
        simp only [textR]
        rw [if_pos ho, ← opOf_inv hop, refInt_inv hk.1, refInt_inv hk.2.1, refInt_inv hk.2.2]
        exact hj.symm
      · cases h
    · cases h
  · cases h
theorem refStep_text {q : RS} (hr : q.si.right = true) : refStep (textR q) = some q := by
  have hz := right_zero hr
  have hb : rightB q.op q.x q.y q.s = true := hr
  have hk : q.okB := right_okB (q := q.si) hr
  have hbd : q.x.natAbs < 10000000 ∧ q.y.natAbs < 10000000 ∧ q.s.natAbs < 10000000 := by
    unfold rightB near at hb
    split at hb
    · simp at hb; omega
    · split at hb
      · simp at hb; omega
      · split at hb
        · simp at hb; omega
        · cases hb
  unfold refStep
  rw [words_text]
  by_cases ho : q.op = 2 ∨ q.op = 3
  · rw [if_pos ho]
    simp only
    rw [opOf_name ⟨hk.1, hk.2.1⟩, if_pos ho, refInt_itoa hbd.1, refInt_itoa hbd.2.1, refInt_itoa hbd.2.2]
    rfl
  · rw [if_neg ho]
    simp only
    rw [opOf_name ⟨hk.1, hk.2.1⟩, if_neg ho]
    obtain ⟨a, b, c⟩ := hz ho
    obtain ⟨op, x, y, s⟩ := q
    simp only at a b c
    subst a b c
    rfl
theorem refSteps_text : ∀ {l : List RS}, (∀ q ∈ l, q.si.right = true) → refSteps (l.map textR) = some l
  | [], _ => rfl
  | q :: l, h => by
    rw [List.map_cons, refSteps, refStep_text (h q (by simp)), refSteps_text fun p hp => h p (by simp [hp])]
    rfl
theorem refSteps_inv : ∀ {ws : List (List UInt8)} {l : List RS}, refSteps ws = some l → (∀ q ∈ l, q.op ≠ 0) → ws = l.map textR
  | [], l, h, _ => by rw [refSteps] at h; injection h with h; subst h; rfl
  | w :: ws, l, h, hop => by
    rw [refSteps] at h
    cases hs : refStep w with
    | none => rw [hs] at h; cases h
    | some q =>
      rw [hs] at h
      simp only [Option.map_eq_some_iff] at h
      obtain ⟨l', h1, rfl⟩ := h
      rw [refStep_inv hs (hop q (by simp)), refSteps_inv h1 fun p hp => hop p (by simp [hp])]
      rfl
theorem refParse_inv {s : List UInt8} {l : List RS} (h : refParse s = some l) : zoneRight (toSI l) = true ∧ s = textL l := by
  unfold refParse at h
  cases hs : refSteps (splitL 44 s) with
  | none => rw [hs] at h; cases h
  | some out =>
    rw [hs] at h
    simp only at h
    split at h
    · rename_i hz
      injection h with h
      subst h
      refine ⟨hz, ?_⟩
      obtain ⟨_, _, hri⟩ := zoneRight_all hz
      rw [textL, ← refSteps_inv hs (fun q hq => by
        have := (right_okB (q := q.si) (hri q.si (by simp [toSI]; exact ⟨q, hq, rfl⟩))).1
        have e : q.si.rs.op = q.op := rfl
        omega), join_split]
    · cases h
theorem refParse_text {l : List RS} (h : zoneRight (toSI l) = true) : refParse (textL l) = some l := by
  obtain ⟨_, h0, hri⟩ := zoneRight_all h
  have hl0 : l ≠ [] := by rintro rfl; exact h0 rfl
  unfold refParse
  rw [textL, splitL_join (by simpa using hl0) (by
    intro x hx
    obtain ⟨q, _, rfl⟩ := List.mem_map.1 hx
    exact text_no), refSteps_text fun q hq => hri q.si (by simp [toSI]; exact ⟨q, hq, rfl⟩)]
  simp [h]
end Go.Evl.Zone

namespace Go.Evl.Zone
open Go Go.Evl
def rBind {α β : Type} (f : RF α) (g : α → RF β) : RF (α × β) := fun q => (((f q).1, (g (f q).1 (f q).2).1), (g (f q).1 (f q).2).2)
def rPure {α : Type} (a : α) : RF α := fun q => (a, q)
theorem Cod.bind {α β : Type} {p : α → Bytes} {f : RF α} {ok : α → Prop} {p' : α → β → Bytes} {g : α → RF β} {ok' : α → β → Prop} (hf : Cod p f ok) (hg : ∀ a, ok a → Cod (p' a) (g a) (ok' a)) (h0 : ∀ q, (f q).2.bad ≠ 0 → (g (f q).1 (f q).2).2.bad ≠ 0) :
    Cod (fun x => p x.1 ++ p' x.1 x.2) (rBind f g) (fun x => ok x.1 ∧ ok' x.1 x.2) where
  fwd a t h := by
    simp only [rBind, List.append_assoc, hf.fwd _ _ h.1, (hg _ h.1).fwd _ _ h.2]
  inv q a r h := by
    simp only [rBind, Prod.mk.injEq] at h
    obtain ⟨rfl, h⟩ := h
    have hb : (f q).2.bad = 0 := by
      by_cases hb : (f q).2.bad = 0
      · exact hb
      · exact (h0 q hb (by rw [h])).elim
    obtain ⟨h4, h5, h6⟩ := hf.inv q (f q).1 (f q).2.s (by rw [← hb])
    obtain ⟨h1, h2, h3⟩ := (hg _ h5).inv (f q).2 (g (f q).1 (f q).2).1 r (by rw [← h])
    exact ⟨h4, ⟨h5, h2⟩, by rw [h6, h3, List.append_assoc]⟩
theorem codPure {α : Type} {a : α} : Cod (fun _ => []) (rPure a) (fun x => x = a) where
  fwd b t h := by subst h; rfl
  inv q b r h := by
    simp only [rPure, Prod.mk.injEq] at h
    obtain ⟨rfl, rfl⟩ := h
    exact ⟨rfl, rfl, rfl⟩
def Stuck {α : Type} (f : RF α) : Prop := ∀ q, q.bad ≠ 0 → (f q).2.bad ≠ 0
theorem Cod.stuck {α : Type} {p : α → Bytes} {f : RF α} {ok : α → Prop} (h : Cod p f ok) : Stuck f := fun q hq hb => hq (h.inv q (f q).1 (f q).2.s (by rw [← hb])).1
def rPart : RF Int := rMap (fun n => n - 1000) (rI 2000)
theorem codPart : Cod (fun x => vI (x + 1000)) rPart (fun x => -1000 ≤ x ∧ x ≤ 1000) :=
  (codI (by omega)).map _ (fun x => x + 1000) (fun b h => by omega) (fun b h => rfl) (fun b h => by omega) fun a h => ⟨by omega, by rw [Int.sub_add_cancel]⟩
def rSpot (d : Nat) : RF ((Int × Int) × Bytes) := if d = 0 then rPure ((0, 0), []) else rPair (rPair rPart rPart) (if d = 2 then rText 16 else rPure [])
def pSpot (d : Nat) (x : (Int × Int) × Bytes) : Bytes := if d = 0 then [] else (vI (x.1.1 + 1000) ++ vI (x.1.2 + 1000)) ++ (if d = 2 then ptext x.2 else [])
def spotK (d : Nat) (x : (Int × Int) × Bytes) : Prop := if d = 0 then x = ((0, 0), []) else ((-1000 ≤ x.1.1 ∧ x.1.1 ≤ 1000) ∧ -1000 ≤ x.1.2 ∧ x.1.2 ≤ 1000) ∧ (if d = 2 then x.2.length ≤ 16 else x.2 = [])
theorem codSpot (d : Nat) : Cod (pSpot d) (rSpot d) (spotK d) := by
  unfold pSpot rSpot spotK
  by_cases h : d = 0
  · simp only [h, if_true]
    exact codPure
  · simp only [h, if_false]
    by_cases h2 : d = 2
    · simp only [h2, if_true]
      exact (codPart.pair codPart).pair (codText (by omega))
    · simp only [h2, if_false]
      exact (codPart.pair codPart).pair codPure
def rItemRaw : RF Item := rMap (fun x => ⟨x.1.1, x.1.2.1, x.1.2.2.1, x.1.2.2.2, x.2.1 == 0, x.2.2.1.1, x.2.2.1.2, x.2.2.2, x.2.1 == 2⟩)
  (rPair (rPair (rI 31) (rPair (rText 6) (rPair (rI 1048576) (rI 1048576)))) (rBind (rNum 2) rSpot))
def itN (q : Item) : Nat := if q.dead then 0 else if q.held then 2 else 1
def itK (q : Item) : Prop := (0 ≤ q.key ∧ q.key ≤ 31) ∧ q.id.length ≤ 6 ∧ (0 ≤ q.seq ∧ q.seq ≤ 1048576) ∧ (0 ≤ q.stamp ∧ q.stamp ≤ 1048576) ∧ (q.dead = true → q.held = false) ∧ spotK (itN q) ((q.x, q.y), q.text)
theorem codItemRaw : Cod pItem rItemRaw itK := by
  refine (((codI (m := 31) (by omega)).pair ((codText (m := 6) (by omega)).pair ((codI (m := 1048576) (by omega)).pair (codI (m := 1048576) (by omega))))).pair
    ((codNum (m := 2) (by omega)).bind (fun d _ => codSpot d) fun q h => (codSpot _).stuck _ h)).map _ (fun q => ((q.key, q.id, q.seq, q.stamp), itN q, (q.x, q.y), q.text)) ?_ ?_ ?_ ?_
  · rintro ⟨k, i, s, t, d, x, y, u, e⟩ h
    have h5 := h.2.2.2.2.1
    cases d <;> cases e <;> simp_all [itN]
  · rintro ⟨k, i, s, t, d, x, y, u, e⟩ h
    have h5 := h.2.2.2.2.1
    cases d <;> cases e <;> simp_all [pItem, itN, pSpot, vI]
  · rintro ⟨k, i, s, t, d, x, y, u, e⟩ h
    refine ⟨⟨h.1, h.2.1, h.2.2.1, h.2.2.2.1⟩, ?_, h.2.2.2.2.2⟩
    simp only [itN]
    cases d <;> cases e <;> simp
  · rintro ⟨⟨k, i, s, t⟩, n, ⟨x, y⟩, u⟩ ⟨⟨h1, h2, h3, h4⟩, h5, h6⟩
    simp only at h1 h2 h3 h4 h5 h6
    have hn : n = 0 ∨ n = 1 ∨ n = 2 := by omega
    rcases hn with rfl | rfl | rfl
    · simp only [spotK, if_true, Prod.mk.injEq] at h6
      obtain ⟨⟨rfl, rfl⟩, rfl⟩ := h6
      exact ⟨⟨h1, h2, h3, h4, by simp, by simp [itN, spotK]⟩, by simp [pItem, pSpot, vI]⟩
    · exact ⟨⟨h1, h2, h3, h4, by simp, by simpa [itN] using h6⟩, by simp [pItem, pSpot, vI]⟩
    · exact ⟨⟨h1, h2, h3, h4, by simp, by simpa [itN] using h6⟩, by simp [pItem, pSpot, vI]⟩
def rItem (q : Src) : Option Item × Src := if (rItemRaw q).2.bad ≠ 0 then (none, (rItemRaw q).2) else if itemR (rItemRaw q).1 then (some (rItemRaw q).1, (rItemRaw q).2) else (none, (rItemRaw q).2)
structure CodO {α : Type} (p : α → Bytes) (f : Src → Option α × Src) (ok : α → Prop) : Prop where
  fwd : ∀ a t, ok a → f ⟨p a ++ t, 0⟩ = (some a, ⟨t, 0⟩)
  inv : ∀ q a r, f q = (some a, ⟨r, 0⟩) → q.bad = 0 ∧ ok a ∧ q.s = p a ++ r
theorem itemR_K {q : Item} (h : itemR q = true) : itK q := by
  obtain ⟨k, i, s, t, d, x, y, u, e⟩ := q
  simp only [itemR, verR, near, Bool.and_eq_true, decide_eq_true_eq, Bool.not_eq_true'] at h
  obtain ⟨⟨⟨⟨⟨⟨⟨h1, h2⟩, h3⟩, h4⟩, h5⟩, h6⟩, h7⟩, h8⟩ := h
  refine ⟨⟨h1, h2⟩, idR_len (by simp_all), by simp_all; omega, by simp_all; omega, ?_, ?_⟩
  · rintro rfl
    simp at h7
    exact h7.2
  · cases d <;> cases e <;> simp_all [itN, spotK]
theorem codItem : CodO pItem rItem (fun q => itemR q = true) where
  fwd a t h := by
    simp only [rItem, codItemRaw.fwd a t (itemR_K h)]
    simp [h]
  inv q a r h := by
    simp only [rItem] at h
    split at h
    · simp at h
    · split at h
      · rename_i hb hr
        simp only [Prod.mk.injEq, Option.some.injEq] at h
        obtain ⟨rfl, h⟩ := h
        obtain ⟨h1, h2, h3⟩ := codItemRaw.inv q (rItemRaw q).1 r (Prod.ext rfl h)
        exact ⟨h1, hr, h3⟩
      · simp at h
def rILoop : Nat → Src → Option (List Item) × Src
  | 0, q => (some [], q)
  | n + 1, q => if q.bad ≠ 0 then (some [], q) else match rItem q with
    | (none, r) => if r.bad = 0 then (none, r) else (some [], r)
    | (some a, r) => match rILoop n r with
      | (some l, r) => (some (a :: l), r)
      | (none, r) => (none, r)
theorem codILoop : ∀ n : Nat, CodO (fun l : List Item => (l.map pItem).flatten) (rILoop n) (fun l => l.length = n ∧ ∀ a ∈ l, itemR a = true)
  | 0 => ⟨fun a t h => by
      obtain rfl : a = [] := List.length_eq_zero_iff.1 h.1
      rfl, fun q a r h => by
      simp only [rILoop, Prod.mk.injEq, Option.some.injEq] at h
      obtain ⟨rfl, rfl⟩ := h
      exact ⟨rfl, ⟨rfl, by simp⟩, rfl⟩⟩
  | n + 1 => ⟨fun a t h => by
      match a, h with
      | b :: l, h =>
        have h2 := (codILoop n).fwd l t ⟨by simpa using h.1, fun x hx => h.2 x (by simp [hx])⟩
        simp only [rILoop, List.map_cons, List.flatten_cons, List.append_assoc]
        rw [if_neg (by simp), codItem.fwd b _ (h.2 b (by simp))]
        simp only [h2], fun q a r h => by
      simp only [rILoop] at h
      split at h
      · rename_i hb
        simp only [Prod.mk.injEq] at h
        rw [h.2] at hb; simp at hb
      · split at h
        · rename_i r' hi
          split at h
          · simp at h
          · rename_i hb
            simp only [Prod.mk.injEq] at h
            rw [h.2] at hb; simp at hb
        · rename_i b r' hi
          split at h
          · rename_i l r2 hl
            simp only [Prod.mk.injEq, Option.some.injEq] at h
            obtain ⟨rfl, rfl⟩ := h
            obtain ⟨h1, h2, h3⟩ := (codILoop n).inv r' l r hl
            obtain ⟨h4, h5, h6⟩ := codItem.inv q b r'.s (by rw [hi, ← h1])
            refine ⟨h4, ⟨by simp [h2.1], fun a ha => ?_⟩, ?_⟩
            · rcases List.mem_cons.1 ha with rfl | ha
              · exact h5
              · exact h2.2 a ha
            · rw [h6, h3]; simp
          · simp at h⟩
def rItems (q : Src) : Option (List Item) × Src := rILoop (rNum 32 q).1 (rNum 32 q).2
theorem codItems : CodO (fun l : List Item => vint l.length ++ (l.map pItem).flatten) rItems (fun l => l.length ≤ 32 ∧ ∀ a ∈ l, itemR a = true) where
  fwd a t h := by
    simp only [rItems, List.append_assoc, (codNum (m := 32) (by omega)).fwd a.length _ h.1]
    exact (codILoop a.length).fwd a t ⟨rfl, h.2⟩
  inv q a r h := by
    simp only [rItems] at h
    obtain ⟨h1, h2, h3⟩ := (codILoop _).inv _ a r h
    obtain ⟨h4, h5, h6⟩ := (codNum (m := 32) (by omega)).inv q (rNum 32 q).1 (rNum 32 q).2.s (by rw [← h1])
    exact ⟨h4, ⟨by omega, h2.2⟩, by rw [h6, h3, h2.1, List.append_assoc]⟩
noncomputable def rZone (q : Src) : Option (List RS) × Src := if (rText 2000 q).2.bad ≠ 0 then (some [], (rText 2000 q).2) else (refParse (rText 2000 q).1, (rText 2000 q).2)
theorem codZone : CodO (fun l => ptext (textL l)) rZone (fun l => zoneRight (toSI l) = true) where
  fwd a t h := by
    simp only [rZone, (codText (m := 2000) (by omega)).fwd (textL a) t (by have := zone_len h; omega), refParse_text h]
    simp
  inv q a r h := by
    simp only [rZone] at h
    split at h
    · rename_i hb
      simp only [Prod.mk.injEq] at h
      rw [h.2] at hb; simp at hb
    · simp only [Prod.mk.injEq] at h
      obtain ⟨h1, h2⟩ := h
      obtain ⟨h3, h4, h5⟩ := (codText (m := 2000) (by omega)).inv q (rText 2000 q).1 r (Prod.ext rfl h2)
      obtain ⟨h6, h7⟩ := refParse_inv h1
      exact ⟨h3, h6, by rw [h5, h7]⟩
end Go.Evl.Zone

namespace Go.Evl.Zone
open Go Go.Evl
def frame0 : Frame := ⟨0, [], [], [], 0, [], [], [], [], [], false, []⟩
abbrev Hd := List KRow × Int × List Bytes × List At × List MRow
def rHead : RF Hd := rPair rKnow (rPair (rI 1048576) (rPair rMem (rPair rVec rRows)))
def pHead (h : Hd) : Bytes := pKnow h.1 ++ (vI h.2.1 ++ (pMem h.2.2.1 ++ (pVec h.2.2.2.1 ++ pRows h.2.2.2.2)))
def hdK (h : Hd) : Prop := knowK h.1 ∧ (0 ≤ h.2.1 ∧ h.2.1 ≤ 1048576) ∧ memK h.2.2.1 ∧ vecK h.2.2.2.1 ∧ rowsK h.2.2.2.2
theorem codHead : Cod pHead rHead hdK := codKnow.pair ((codI (by omega)).pair (codMem.pair (codVec.pair codRows)))
noncomputable def rLists (kind : Int) (q : Src) : Option (Hd × List RS × List Item × Bool) × Src :=
  match (if kind = 1 then rZone (rHead q).2 else (some [], (rHead q).2)) with
  | (none, r) => (none, r)
  | (some z, r) => match rItems r with
    | (none, r) => (none, r)
    | (some l, r) => (some ((rHead q).1, z, l, if kind = 2 then decide ((rNum 1 r).1 = 1) else false), if kind = 2 then (rNum 1 r).2 else r)
noncomputable def rFin (f : Frame) (q : Src) : Frame × Int := if q.bad ≠ 0 then (frame0, q.bad) else if q.s ≠ [] then (frame0, 3) else if frameR f then (f, 0) else (frame0, 3)
noncomputable def rFrame (b : Bytes) : Frame × Int :=
  if (rI 3 ⟨b, 0⟩).2.bad = 0 ∧ (rI 3 ⟨b, 0⟩).1 = 0 then (frame0, 3) else
  if (rI 3 ⟨b, 0⟩).1 = 3 then rFin ⟨(rI 3 ⟨b, 0⟩).1, (rText 6 (rI 3 ⟨b, 0⟩).2).1, (rText 6 (rText 6 (rI 3 ⟨b, 0⟩).2).2).1, [], 0, [], [], [], [], [], false, (rVec (rText 6 (rText 6 (rI 3 ⟨b, 0⟩).2).2).2).1⟩ (rVec (rText 6 (rText 6 (rI 3 ⟨b, 0⟩).2).2).2).2
  else match rLists (rI 3 ⟨b, 0⟩).1 (rText 6 (rText 6 (rI 3 ⟨b, 0⟩).2).2).2 with
    | (none, _) => (frame0, 3)
    | (some (h, z, l, w), q) => rFin ⟨(rI 3 ⟨b, 0⟩).1, (rText 6 (rI 3 ⟨b, 0⟩).2).1, (rText 6 (rText 6 (rI 3 ⟨b, 0⟩).2).2).1, h.1, h.2.1, h.2.2.1, h.2.2.2.1, h.2.2.2.2, z, l, w, []⟩ q
theorem pFrame_lists {f : Frame} (h : f.kind ≠ 3) : pFrame f = vI f.kind ++ (ptext f.from_ ++ (ptext f.to ++ (pHead (f.know, f.clock, f.members, f.certs, f.rows) ++ ((if f.kind = 1 then ptext (textL f.zone) else []) ++ ((vint f.items.length ++ (f.items.map pItem).flatten) ++ (if f.kind = 2 then (if f.whole then vI 1 else vI 0) else [])))))) := by
  simp [pFrame, h, pHead]
theorem pFrame_floor {f : Frame} (h : f.kind = 3) : pFrame f = vI f.kind ++ (ptext f.from_ ++ (ptext f.to ++ pVec f.floor)) := by
  simp [pFrame, h]
theorem rFin_inv {g f : Frame} {q : Src} (h : rFin g q = (f, 0)) : q = ⟨[], 0⟩ ∧ frameR f = true ∧ f = g := by
  unfold rFin at h
  split at h
  · rename_i hb
    simp only [Prod.mk.injEq] at h
    exact (hb h.2).elim
  · rename_i hb
    split at h
    · simp at h
    · rename_i hs
      split at h
      · rename_i hr
        simp only [Prod.mk.injEq, and_true] at h
        subst h
        obtain ⟨s, b⟩ := q
        simp at hb hs
        subst hb hs
        exact ⟨rfl, hr, rfl⟩
      · simp at h
theorem rFrame_inv {b : Bytes} {f : Frame} (h : rFrame b = (f, 0)) : frameR f = true ∧ pFrame f = b := by
  unfold rFrame at h
  generalize hk : rI 3 ⟨b, 0⟩ = k at h
  obtain ⟨kn, k⟩ := k
  simp only at h
  generalize ha : rText 6 k = a at h
  obtain ⟨an, a⟩ := a
  simp only at h
  generalize hc : rText 6 a = c at h
  obtain ⟨cn, c⟩ := c
  simp only at h
  have key : ∀ r, c = ⟨r, 0⟩ → b = vI kn ++ (ptext an ++ (ptext cn ++ r)) := by
    rintro r rfl
    obtain ⟨c1, _, c3⟩ := (codText (m := 6) (by omega)).inv a cn r hc
    obtain ⟨as, ab⟩ := a
    simp only at c1 c3
    subst c1
    obtain ⟨a1, _, a3⟩ := (codText (m := 6) (by omega)).inv k an as ha
    obtain ⟨ks, kb⟩ := k
    simp only at a1 a3
    subst a1
    obtain ⟨k1, _, k3⟩ := (codI (m := 3) (by omega)).inv ⟨b, 0⟩ kn ks hk
    simp only at k3
    rw [k3, a3, c3]
  split at h
  · simp at h
  · rename_i h0
    split at h
    · rename_i h3
      generalize hv : rVec c = v at h
      obtain ⟨vn, v⟩ := v
      simp only at h
      obtain ⟨rfl, hr, rfl⟩ := rFin_inv h
      obtain ⟨v1, _, v3⟩ := codVec.inv c vn [] hv
      obtain ⟨cs, cb⟩ := c
      simp only at v1 v3
      subst v1
      refine ⟨hr, ?_⟩
      rw [pFrame_floor (by exact h3), key cs rfl, v3, List.append_nil]
    · rename_i h3
      split at h
      · simp at h
      · rename_i hh z l w q hl
        obtain ⟨rfl, hr, rfl⟩ := rFin_inv h
        refine ⟨hr, ?_⟩
        rw [pFrame_lists (by exact h3)]
        simp only
        unfold rLists at hl
        generalize hhd : rHead c = hd at hl
        obtain ⟨hn, hd⟩ := hd
        simp only at hl
        split at hl
        · simp at hl
        · rename_i z' r hz
          split at hl
          · simp at hl
          · rename_i l' r2 hi
            simp only [Prod.mk.injEq, Option.some.injEq] at hl
            obtain ⟨⟨rfl, rfl, rfl, hw⟩, hq⟩ := hl
            have q1 : r2.bad = 0 ∧ r2.s = (if kn = 2 then (if w then vI 1 else vI 0) else []) := by
              by_cases h2 : kn = 2
              · simp only [h2, if_true] at hq hw ⊢
                obtain ⟨n1, n2, n3⟩ := (codNum (m := 1) (by omega)).inv r2 (rNum 1 r2).1 [] (Prod.ext rfl hq)
                refine ⟨n1, ?_⟩
                rw [n3, List.append_nil, ← hw]
                have : (rNum 1 r2).1 = 0 ∨ (rNum 1 r2).1 = 1 := by omega
                rcases this with e | e <;> rw [e] <;> rfl
              · simp only [h2, if_false] at hq ⊢
                rw [hq]; exact ⟨rfl, rfl⟩
            obtain ⟨r2s, r2b⟩ := r2
            simp only at q1
            obtain ⟨rfl, q1⟩ := q1
            obtain ⟨i1, _, i3⟩ := codItems.inv r l' r2s hi
            obtain ⟨rs, rb⟩ := r
            simp only at i1 i3
            subst i1
            have q2 : hd.bad = 0 ∧ hd.s = (if kn = 1 then ptext (textL z') else []) ++ rs := by
              by_cases h1 : kn = 1
              · simp only [h1, if_true] at hz ⊢
                obtain ⟨z1, _, z3⟩ := codZone.inv hd z' rs hz
                exact ⟨z1, z3⟩
              · simp only [h1, if_false, Prod.mk.injEq] at hz ⊢
                rw [hz.2]; exact ⟨rfl, rfl⟩
            obtain ⟨hds, hdb⟩ := hd
            simp only at q2
            obtain ⟨rfl, q2⟩ := q2
            obtain ⟨d1, _, d3⟩ := codHead.inv c hn hds hhd
            obtain ⟨cs, cb⟩ := c
            simp only at d1 d3
            subst d1
            rw [key cs rfl, d3, q2, i3, q1]
end Go.Evl.Zone

namespace Go.Evl.Zone
open Go Go.Evl
variable {P : Program}
structure EqH (H H' : Heap) : Prop where
  n : H'.n = H.n
  at_ : ∀ i, i < H.n → H'.at_ i = H.at_ i
theorem EqH.refl {H : Heap} : EqH H H := ⟨rfl, fun _ _ => rfl⟩
theorem EqH.grow0 {H H' : Heap} (h : EqH H H') : EqH H (H'.grow 0) := ⟨by simp [h.n], fun i hi => by
  simp only [at_grow]
  rw [if_pos (by rw [h.n]; exact hi), h.at_ i hi]⟩
structure OneH (H : Heap) (r : Nat) (b : Blk) (H' : Heap) : Prop where
  n : H'.n = H.n
  at_ : ∀ i, i < H.n → i ≠ r → H'.at_ i = H.at_ i
  r : H'.at_ r = b
theorem EqH.put {H H' : Heap} {r : Nat} {b : Blk} (h : EqH H H') : OneH H r b (H'.put r b) := ⟨by simp [h.n], fun i hi hr => by simp [hr, h.at_ i hi], by simp⟩
theorem OneH.grow0 {H H' : Heap} {r : Nat} {b : Blk} (h : OneH H r b H') (hr : r < H.n) : OneH H r b (H'.grow 0) := ⟨by simp [h.n], fun i hi hne => by
  simp only [at_grow]
  rw [if_pos (by rw [h.n]; exact hi), h.at_ i hi hne], by
  simp only [at_grow]
  rw [if_pos (by rw [h.n]; exact hr), h.r]⟩
structure Bf (H : Heap) (v : PV) (B : Bytes) : Prop where
  l : Lst H 1 v (En B)
  m : B.length ≤ most
theorem Bf.cases {H : Heap} {v : PV} {B : Bytes} (h : Bf H v B) : v = .im (En B) true ∨ ∃ r xs, v = .sl r 1 xs.length 0 B.length ∧ H.at_ r = .row 1 xs true ∧ r < H.n ∧ B.length ≤ xs.length ∧ ∀ (i : Nat) (c : UInt8), B[i]? = some c → xs[i]? = some (Enc.c c) := by
  rcases h.l with ⟨hv, hl⟩ | ⟨r, xs, hv, hb, hle, he, hr, hl⟩
  · exact .inl hv
  · refine .inr ⟨r, xs, by rw [hv, En_length], hb, hr, by simpa using hle, fun i c hc => ?_⟩
    have h1 : (En B)[i]? = some (Enc.c c) := En_at? hc
    rw [← he, List.getElem?_take] at h1
    split at h1
    · exact h1
    · cases h1
theorem eq0 {H H' : Heap} (h : EqH H H') : EqH H (H'.grow 0) := h.grow0
abbrev rdBox (v : PV) (at_ : Nat) (bad : Int) : Blk := .box [v, iv at_, iv bad]
def digE (m : Nat) (B : Bytes) (at_ acc i : Nat) : Nat × Nat × Int := match dig i (B.drop (at_ + i)) with
  | .ok (n, q) => if acc + 128 ^ i * n ≤ m then (acc + 128 ^ i * n, B.length - q.length, 0) else (0, at_, 3)
  | .error e => (0, at_, e)
theorem rnum_loop (T : Typed P) {H : Heap} {r : Nat} {v : PV} {B : Bytes} {at_ m : Nat} (hB : H.at_ r = rdBox v at_ 0) (hr : r < H.n) (hv : Bf H v B) (hat : at_ ≤ B.length) (hm : m < 9223372036854775808) {ks : List Fr'} {K : Ex → St → Prop} :
    ∀ (k i acc : Nat) (st : St), i + k = 9 → acc < 128 ^ i → st.σ 0 = .ptr r 0 → st.σ 1 = iv m → st.σ 5 = iv acc → (i ≤ 8 → st.σ 6 = iv ((128 ^ i : Nat) : Int)) → st.σ 7 = iv i → EqH H st.h → st.wl = [] → at_ + i ≤ B.length →
      (∀ st', st'.σ 4 = iv (digE m B at_ acc i).1 → OneH H r (rdBox v (digE m B at_ acc i).2.1 (digE m B at_ acc i).2.2) st'.h → st'.wl = [r] → K .ret st') →
      V (env P) 77 (.loop L77_0) st (.blk 0 :: ks) K := by
  have hm' := hv.m
  intro k
  induction k with
  | zero =>
    intro i acc st hi hacc h0 h1 h5 h6 h7 he hw hle hend
    obtain rfl : i = 9 := by omega
    have hb' := he.at_ r hr
    rw [hB] at hb'
    rw [V_loop]
    have hE : digE m B at_ acc 9 = (0, at_, 3) := by
      unfold digE
      cases B.drop (at_ + 9) <;> simp [dig]
    rw [hE] at hend
    simp [L77_0, h0, h1, h5, h7, hb', he.n, hr, hw]
    exact hend _ (by simp) ((he.grow0.put).grow0 hr) rfl
  | succ k ih =>
    intro i acc st hi hacc h0 h1 h5 h6 h7 he hw hle hend
    have hb' := he.at_ r hr
    rw [hB] at hb'
    have h6 := h6 (by omega)
    have i10 : (i : Int) < 10 := by omega
    have i9 : ¬ (i : Int) = 9 := by omega
    have i9' : ¬ i = 9 := by omega
    have hmm : most = 68719476736 := rfl
    have w1 : IntKind.i64.wrap ((at_ : Int) + (i : Int)) = (at_ : Int) + i := wrap64_id (by omega)
    obtain ⟨D, hD⟩ : ∃ D, D = 128 ^ i := ⟨_, rfl⟩
    rw [← hD] at h6 hacc
    by_cases hs : at_ + i = B.length
    · have hE : digE m B at_ acc i = (0, at_, 2) := by
        unfold digE
        rw [List.drop_eq_nil_of_le (by omega)]
        simp [dig, i9']
      rw [hE] at hend
      have hge : (B.length : Int) ≤ (at_ : Int) + i := by omega
      rw [V_loop]
      rcases hv.cases with rfl | ⟨rr, xs, rfl, hrr, hrn, hxl, hx⟩
      · simp [L77_0, h0, h1, h5, h6, h7, hb', he.n, hr, hw, i10, i9, w1, hge]
        exact hend _ (by simp) ((he.grow0.put).grow0 hr) rfl
      · simp [L77_0, h0, h1, h5, h6, h7, hb', he.n, hr, hw, i10, i9, w1, hge]
        exact hend _ (by simp) ((he.grow0.put).grow0 hr) rfl
    · have hlt : at_ + i < B.length := by omega
      obtain ⟨c, hc⟩ : ∃ c, B[at_ + i]? = some c := ⟨_, List.getElem?_eq_getElem hlt⟩
      have hd : B.drop (at_ + i) = c :: B.drop (at_ + i + 1) := by
        rw [List.drop_eq_getElem_cons hlt]
        have := (List.getElem?_eq_some_iff.1 hc).2
        rw [this]
      have hge : ¬ (B.length : Int) ≤ (at_ : Int) + i := by omega
      have hp : 0 ≤ (at_ : Int) + i := by omega
      have hl : (at_ : Int) + i < B.length := by omega
      have ht : ((at_ : Int) + i).toNat = at_ + i := by omega
      have hcl : c.toNat < 256 := UInt8.toNat_lt c
      have cv : ∀ n : Int, 0 ≤ n ∧ n < 256 → scal P (Go.convert 5 3 (.int .u8 n)) = some (iv n) := fun n hn => by rw [cv_ii (by rw [T.t5]; rfl) T.t3, wrap64_id (by omega)]
      have cv' := cv
      have cv := cv c.toNat (by omega)
      have e1 : ((c.toNat : Int)).tmod 128 = ((c.toNat % 128 : Nat) : Int) := by rw [Int.tmod_eq_emod_of_nonneg (by omega)]; omega
      obtain ⟨e, he'⟩ : ∃ e, e = c.toNat % 128 := ⟨_, rfl⟩
      have hel : e < 128 := by omega
      rw [← he'] at e1
      have hDb : D ≤ 72057594037927936 := by
        rw [hD]
        exact Nat.le_trans (Nat.pow_le_pow_right (by omega) (show i ≤ 8 by omega)) (by decide)
      have hDp : 0 < D := by rw [hD]; exact Nat.pow_pos (by omega)
      have hed : e * D ≤ 127 * D := Nat.mul_le_mul_right _ (by omega)
      have w2 : IntKind.i64.wrap ((e : Int) * (D : Int)) = ((e * D : Nat) : Int) := by
        rw [← Int.natCast_mul, wrap64_id (by omega)]
      have w3 : IntKind.i64.wrap ((acc : Int) + ((e * D : Nat) : Int)) = ((acc + e * D : Nat) : Int) := by
        rw [wrap64_id (by omega)]; omega
      obtain ⟨A, hA⟩ : ∃ A, A = acc + e * D := ⟨_, rfl⟩
      obtain ⟨F, hF⟩ : ∃ F, F = e * D := ⟨_, rfl⟩
      rw [← hF] at w2 w3 hed hA
      rw [← hA] at w3
      have hix := En_at hc
      have w4 : IntKind.i64.wrap ((at_ : Int) + (i : Int) + 1) = ((at_ + i + 1 : Nat) : Int) := by rw [wrap64_id (by omega)]; omega
      have w5 : IntKind.i64.wrap ((i : Int) + 1) = ((i + 1 : Nat) : Int) := by rw [wrap64_id (by omega)]; omega
      have w6 : i + 1 ≤ 8 → IntKind.i64.wrap ((D : Int) * 128) = ((128 ^ (i + 1) : Nat) : Int) := fun h8 => by
        have hDb2 : D ≤ 562949953421312 := by
          rw [hD]
          exact Nat.le_trans (Nat.pow_le_pow_right (by omega) (show i ≤ 7 by omega)) (by decide)
        rw [wrap64_id (by omega), Nat.pow_succ, ← hD]; omega
      have hAl : A < 128 ^ (i + 1) := by rw [Nat.pow_succ, ← hD]; omega
      by_cases h128 : 128 ≤ c.toNat
      · have h128' : (128 : Int) ≤ (c.toNat : Int) := by omega
        have hE : digE m B at_ acc i = digE m B at_ A (i + 1) := by
          unfold digE
          rw [hd, dig, if_neg i9', if_pos h128, show at_ + (i + 1) = at_ + i + 1 by omega]
          cases dig (i + 1) (B.drop (at_ + i + 1)) with
          | error e => rfl
          | ok q =>
            obtain ⟨n, q⟩ := q
            have : acc + 128 ^ i * (c.toNat % 128 + 128 * n) = A + 128 ^ (i + 1) * n := by
              rw [hA, hF, ← he', Nat.pow_succ, ← hD, Nat.mul_add, Nat.mul_comm D e, Nat.add_assoc, Nat.mul_assoc]
            simp only [this]
        rw [hE] at hend
        rw [V_loop]
        rcases hv.cases with rfl | ⟨rr, xs, rfl, hrr, hrn, hxl, hx⟩
        · simp [L77_0, h0, h1, h5, h6, h7, hb', he.n, hr, hw, i10, i9, w1, hge, hp, hl, ht, hlt, hc, hix, cv, e1, w2, w3, h128', w5]
          refine ih (i + 1) A _ (by omega) hAl (by simp [h0]) (by simp [h1]) (by simp) (fun h8 => ?_) (by simp) ?_ rfl (by omega) hend
          · simp [w6 h8]
          · repeat (first | exact he | refine EqH.grow0 ?_)
        · have hrr' := he.at_ rr hrn
          rw [hrr] at hrr'
          have hx' := hx _ _ hc
          simp [L77_0, h0, h1, h5, h6, h7, hb', he.n, hr, hw, i10, i9, w1, hge, hp, hl, ht, hlt, hrr', hrn, hx', cv, e1, w2, w3, h128', w5, loadR_row]
          refine ih (i + 1) A _ (by omega) hAl (by simp [h0]) (by simp [h1]) (by simp) (fun h8 => ?_) (by simp) ?_ rfl (by omega) hend
          · simp [w6 h8]
          · repeat (first | exact he | refine EqH.grow0 ?_)
      · have h128' : ¬ (128 : Int) ≤ (c.toNat : Int) := by omega
        have hec : e = c.toNat := by omega
        by_cases hz : c.toNat = 0 ∧ 0 < i
        · have hE : digE m B at_ acc i = (0, at_, 3) := by
            unfold digE
            rw [hd, dig, if_neg i9', if_neg h128, if_pos hz]
          rw [hE] at hend
          have z1 : c.toNat = 0 := hz.1
          have z2 : 0 < i := hz.2
          have cz := cv' 0 (by omega)
          have wz : IntKind.i64.wrap 0 = 0 := by decide
          have wa : IntKind.i64.wrap (acc : Int) = acc := wrap64_id (by omega)
          rw [V_loop]
          rcases hv.cases with rfl | ⟨rr, xs, rfl, hrr, hrn, hxl, hx⟩
          · simp [L77_0, h0, h1, h5, h6, h7, hb', he.n, hr, hw, i10, i9, w1, hge, hp, hl, ht, hlt, hc, hix, cz, wz, wa, z1, z2]
            exact hend _ (by simp) ((eq0 he).put.grow0 hr) rfl
          · have hrr' := he.at_ rr hrn
            rw [hrr] at hrr'
            have hx' := hx _ _ hc
            simp [L77_0, h0, h1, h5, h6, h7, hb', he.n, hr, hw, i10, i9, w1, hge, hp, hl, ht, hlt, hrr', hrn, hx', cz, wz, wa, z1, z2, loadR_row]
            exact hend _ (by simp) ((eq0 he).put.grow0 hr) rfl
        · have hz' : ¬ ((c.toNat : Int) = 0 ∧ (0 : Int) < i) := by omega
          by_cases hA2 : A ≤ m
          · have hE : digE m B at_ acc i = (A, at_ + i + 1, 0) := by
              unfold digE
              rw [hd, dig, if_neg i9', if_neg h128, if_neg hz]
              have e2 : acc + 128 ^ i * c.toNat = A := by rw [hA, hF, ← hD, ← hec, Nat.mul_comm D e]
              simp only [e2, if_pos hA2, List.length_drop]
              congr 2
              omega
            rw [hE] at hend
            have hA3 : ¬ (m : Int) < (A : Int) := by omega
            by_cases z1 : c.toNat = 0
            · have z2 : ¬ 0 < i := fun q => hz ⟨z1, q⟩
              have cz := cv' 0 (by omega)
              have wz : IntKind.i64.wrap 0 = 0 := by decide
              have wa : IntKind.i64.wrap (acc : Int) = acc := wrap64_id (by omega)
              have e0 : e = 0 := by omega
              have hAa : A = acc := by rw [hA, hF, e0]; omega
              rw [hAa] at hend hA2
              have hA4 : ¬ m < acc := by omega
              rw [V_loop]
              rcases hv.cases with rfl | ⟨rr, xs, rfl, hrr, hrn, hxl, hx⟩
              · simp [L77_0, h0, h1, h5, h6, h7, hb', he.n, hr, hw, i10, i9, w1, hge, hp, hl, ht, hlt, hc, hix, cz, wz, wa, z1, z2, w4, hA4, hA2]
                exact hend _ (by simp) ((eq0 he).put.grow0 hr) rfl
              · have hrr' := he.at_ rr hrn
                rw [hrr] at hrr'
                have hx' := hx _ _ hc
                simp [L77_0, h0, h1, h5, h6, h7, hb', he.n, hr, hw, i10, i9, w1, hge, hp, hl, ht, hlt, hrr', hrn, hx', loadR_row, cz, wz, wa, z1, z2, w4, hA4, hA2]
                exact hend _ (by simp) ((eq0 he).put.grow0 hr) rfl
            · have hA4 : ¬ m < A := by omega
              rw [V_loop]
              rcases hv.cases with rfl | ⟨rr, xs, rfl, hrr, hrn, hxl, hx⟩
              · simp [L77_0, h0, h1, h5, h6, h7, hb', he.n, hr, hw, i10, i9, w1, hge, hp, hl, ht, hlt, hc, hix, cv, e1, w2, w3, h128', z1, w4, hA4, hA2]
                exact hend _ (by simp) ((eq0 he).put.grow0 hr) rfl
              · have hrr' := he.at_ rr hrn
                rw [hrr] at hrr'
                have hx' := hx _ _ hc
                simp [L77_0, h0, h1, h5, h6, h7, hb', he.n, hr, hw, i10, i9, w1, hge, hp, hl, ht, hlt, hrr', hrn, hx', loadR_row, cv, e1, w2, w3, h128', z1, w4, hA4, hA2]
                exact hend _ (by simp) ((eq0 he).put.grow0 hr) rfl
          · have hE : digE m B at_ acc i = (0, at_, 3) := by
              unfold digE
              rw [hd, dig, if_neg i9', if_neg h128, if_neg hz]
              have e2 : acc + 128 ^ i * c.toNat = A := by rw [hA, hF, ← hD, ← hec, Nat.mul_comm D e]
              simp only [e2, if_neg hA2]
            rw [hE] at hend
            have hA4 : m < A := by omega
            by_cases z1 : c.toNat = 0
            · have z2 : ¬ 0 < i := fun q => hz ⟨z1, q⟩
              have cz := cv' 0 (by omega)
              have wz : IntKind.i64.wrap 0 = 0 := by decide
              have wa : IntKind.i64.wrap (acc : Int) = acc := wrap64_id (by omega)
              have e0 : e = 0 := by omega
              have hAa : A = acc := by rw [hA, hF, e0]; omega
              rw [hAa] at hA4
              rw [V_loop]
              rcases hv.cases with rfl | ⟨rr, xs, rfl, hrr, hrn, hxl, hx⟩
              · simp [L77_0, h0, h1, h5, h6, h7, hb', he.n, hr, hw, i10, i9, w1, hge, hp, hl, ht, hlt, hc, hix, cz, wz, wa, z1, z2, w4, hA4]
                exact hend _ (by simp) ((eq0 he).put.grow0 hr) rfl
              · have hrr' := he.at_ rr hrn
                rw [hrr] at hrr'
                have hx' := hx _ _ hc
                simp [L77_0, h0, h1, h5, h6, h7, hb', he.n, hr, hw, i10, i9, w1, hge, hp, hl, ht, hlt, hrr', hrn, hx', loadR_row, cz, wz, wa, z1, z2, w4, hA4]
                exact hend _ (by simp) ((eq0 he).put.grow0 hr) rfl
            ·
              rw [V_loop]
              rcases hv.cases with rfl | ⟨rr, xs, rfl, hrr, hrn, hxl, hx⟩
              · simp [L77_0, h0, h1, h5, h6, h7, hb', he.n, hr, hw, i10, i9, w1, hge, hp, hl, ht, hlt, hc, hix, cv, e1, w2, w3, h128', z1, w4, hA4]
                exact hend _ (by simp) ((eq0 he).put.grow0 hr) rfl
              · have hrr' := he.at_ rr hrn
                rw [hrr] at hrr'
                have hx' := hx _ _ hc
                simp [L77_0, h0, h1, h5, h6, h7, hb', he.n, hr, hw, i10, i9, w1, hge, hp, hl, ht, hlt, hrr', hrn, hx', loadR_row, cv, e1, w2, w3, h128', z1, w4, hA4]
                exact hend _ (by simp) ((eq0 he).put.grow0 hr) rfl
structure RdS (H : Heap) (r : Nat) (v : PV) (B : Bytes) (q : Src) : Prop where
  hr : r < H.n
  b : Bf H v B
  at_ : ∃ a, a ≤ B.length ∧ q.s = B.drop a ∧ H.at_ r = rdBox v a q.bad
structure Oth (H : Heap) (r : Nat) (H' : Heap) : Prop where
  n : H'.n = H.n
  at_ : ∀ i, i < H.n → i ≠ r → H'.at_ i = H.at_ i
theorem OneH.oth {H H' : Heap} {r : Nat} {b : Blk} (h : OneH H r b H') : Oth H r H' := ⟨h.n, h.at_⟩
theorem OneH.cut {H H' : Heap} {r : Nat} {b : Blk} (h : OneH H r b H') (hr : r < H.n) : OneH H r b (H'.cut H) := ⟨rfl, fun i hi hne => by
  show (if i < H.n then H'.at_ i else H.at_ i) = _
  rw [if_pos hi, h.at_ i hi hne], by
  show (if r < H.n then H'.at_ r else H.at_ r) = _
  rw [if_pos hr, h.r]⟩
theorem EqH.one {H H' : Heap} {r : Nat} {b : Blk} (h : EqH H H') (hr : r < H.n) (hb : H.at_ r = b) : OneH H r b H' := ⟨h.n, fun i hi _ => h.at_ i hi, by rw [h.at_ r hr, hb]⟩
theorem Bf.oth {H H' : Heap} {v : PV} {B : Bytes} {r : Nat} {v' : PV} {a : Nat} {bad : Int} (h : Bf H v B) (hB : H.at_ r = rdBox v' a bad) (ho : Oth H r H') : Bf H' v B := by
  refine ⟨?_, h.m⟩
  rcases h.l with ⟨hv, hl⟩ | ⟨rr, xs, hv, hb, hle, he, hr, hl⟩
  · exact .im hv hl
  · refine .row rr xs hv ?_ hle he (by rw [ho.n]; exact hr) hl
    rw [ho.at_ rr hr (fun q => by rw [q, hB] at hb; cases hb), hb]
theorem Bf.below {H : Heap} {v : PV} {B : Bytes} (h : Bf H v B) {a : Nat} {bad : Int} : (rdBox v a bad).below H.n = true := by
  rcases h.cases with rfl | ⟨r, xs, rfl, _, hr, _⟩
  · rfl
  · simp [Blk.below, belowF, belowC, hr]
theorem RdS.next {H H' : Heap} {r : Nat} {v : PV} {B : Bytes} {q q' : Src} {a' : Nat} (h : RdS H r v B q) (ho : OneH H r (rdBox v a' q'.bad) H') (ha : a' ≤ B.length) (hq : q'.s = B.drop a') : RdS H' r v B q' := by
  obtain ⟨a, _, _, hB⟩ := h.at_
  exact ⟨by rw [ho.n]; exact h.hr, h.b.oth hB ho.oth, a', ha, hq, ho.r⟩
theorem dig_len : ∀ (s : Bytes) (i n : Nat) (q : Bytes), dig i s = .ok (n, q) → ∃ a, a ≤ s.length ∧ q = s.drop a
  | [], i, n, q, h => by
    simp only [dig] at h
    split at h <;> cases h
  | c :: s, i, n, q, h => by
    simp only [dig] at h
    split at h
    · cases h
    · split at h
      · split at h
        · rename_i n' q' hd
          simp only [Except.ok.injEq, Prod.mk.injEq] at h
          obtain ⟨_, rfl⟩ := h
          obtain ⟨a, h1, h2⟩ := dig_len s (i + 1) n' q' hd
          exact ⟨a + 1, by simp; omega, by simp [h2]⟩
        · cases h
      · split at h
        · cases h
        · simp only [Except.ok.injEq, Prod.mk.injEq] at h
          obtain ⟨_, rfl⟩ := h
          exact ⟨1, by simp, by simp⟩
theorem dig_err : ∀ (s : Bytes) (i : Nat), dig i s ≠ .error 0 := by
  intro s
  induction s with
  | nil => intro i; simp only [dig]; split <;> simp
  | cons c s ih =>
    intro i
    simp only [dig]
    split
    · simp
    · split
      · split
        · simp
        · rename_i e he
          intro q
          simp only [Except.error.injEq] at q
          subst q
          exact ih _ he
      · split <;> simp
theorem digE_num {m a : Nat} {B : Bytes} (ha : a ≤ B.length) : (rNum m ⟨B.drop a, 0⟩) = ((digE m B a 0 0).1, ⟨B.drop (digE m B a 0 0).2.1, (digE m B a 0 0).2.2⟩) ∧ (digE m B a 0 0).2.1 ≤ B.length := by
  unfold rNum digE
  simp only [ne_eq, not_true_eq_false, if_false, Nat.add_zero]
  cases hd : dig 0 (B.drop a) with
  | error e => exact ⟨rfl, ha⟩
  | ok x =>
    obtain ⟨n, q⟩ := x
    obtain ⟨k, h1, h2⟩ := dig_len _ _ _ _ hd
    simp only [List.length_drop] at h1
    have e : B.drop (B.length - q.length) = q := by
      rw [h2, List.drop_drop, List.length_drop]
      congr 1
      omega
    simp only [Nat.pow_zero, Nat.one_mul, Nat.zero_add]
    split
    · exact ⟨by rw [e], Nat.sub_le _ _⟩
    · exact ⟨rfl, ha⟩
theorem rnum_IC (T : Typed P) {H : Heap} {r m : Nat} {v : PV} {B : Bytes} {q : Src} {K : PV → Heap → List Nat → Prop} (h : RdS H r v B q) (hm : m < 9223372036854775808)
    (hK : ∀ H' wl, RdS H' r v B (rNum m q).2 → Oth H r H' → (∀ i ∈ wl, i = r) → K (iv (rNum m q).1) H' wl) : IC (env P) 77 [.ptr r 0, iv m] H K := by
  obtain ⟨a, ha, hq, hB⟩ := h.at_
  obtain ⟨s, bad⟩ := q
  simp only at hq hB
  subst hq
  have hr := h.hr
  refine IC_of (cf := c77) rfl rfl ?_
  by_cases hb : bad = 0
  · subst hb
    obtain ⟨e1, e2⟩ := digE_num (m := m) ha
    rw [e1] at hK
    simp [c77, hB, hr]
    refine rnum_loop T hB hr h.b ha hm 9 0 0 _ (by omega) (by omega) (by simp) (by simp) (by simp) (fun _ => by simp) (by simp) ?_ rfl (by omega) fun st' h4 ho hw => ?_
    · repeat (first | exact EqH.refl | refine EqH.grow0 ?_)
    · simp [h4, hw, hr, ho.r, h.b.below]
      exact ⟨_, _, ⟨rfl, rfl⟩, hK _ _ (h.next (ho.cut hr) e2 rfl) (ho.cut hr).oth (by simp)⟩
  · simp [c77, hB, hr, hb]
    have e1 : rNum m ⟨B.drop a, bad⟩ = (0, ⟨B.drop a, bad⟩) := by simp [rNum, hb]
    rw [e1] at hK
    have ho : OneH H r (rdBox v a bad) ((H.grow 0).cut H) := ((EqH.refl.grow0).one hr hB).cut hr
    exact ⟨_, _, ⟨rfl, rfl⟩, hK _ _ (h.next (q' := ⟨B.drop a, bad⟩) ho ha rfl) ho.oth (by simp)⟩
end Go.Evl.Zone

namespace Go.Evl.Zone
open Go Go.Evl
variable {P : Program}
theorem Oth.refl {H : Heap} {r : Nat} : Oth H r H := ⟨rfl, fun _ _ _ => rfl⟩
theorem Oth.trans {H H' H'' : Heap} {r : Nat} (a : Oth H r H') (b : Oth H' r H'') : Oth H r H'' := ⟨by rw [b.n, a.n], fun i hi hne => by rw [b.at_ i (by rw [a.n]; exact hi) hne, a.at_ i hi hne]⟩
theorem Oth.grow0 {H H' : Heap} {r : Nat} (a : Oth H r H') : Oth H r (H'.grow 0) := ⟨by simp [a.n], fun i hi hne => by
  simp only [at_grow]
  rw [if_pos (by rw [a.n]; exact hi), a.at_ i hi hne]⟩
theorem Oth.put {H H' : Heap} {r : Nat} {b : Blk} (a : Oth H r H') : Oth H r (H'.put r b) := ⟨by simp [a.n], fun i hi hne => by simp [hne, a.at_ i hi hne]⟩
theorem Oth.cut {H H' : Heap} {r : Nat} (a : Oth H r H') : Oth H r (H'.cut H) := ⟨rfl, fun i hi hne => by
  show (if i < H.n then H'.at_ i else H.at_ i) = _
  rw [if_pos hi, a.at_ i hi hne]⟩
theorem Oth.one {H H' : Heap} {r : Nat} {b : Blk} (a : Oth H r H') (h : H'.at_ r = b) : OneH H r b H' := ⟨a.n, a.at_, h⟩
theorem below_wl {H h : Heap} {r : Nat} {b : Blk} {wl : List Nat} (hw : ∀ i ∈ wl, i = r) (ho : OneH H r b h) (hb : b.below H.n = true) : ((wl.filter (· < H.n)).all fun i => (h.at_ i).below H.n) = true := by
  simp only [List.all_eq_true, List.mem_filter]
  rintro i ⟨hi, _⟩
  rw [hw i hi, ho.r, hb]
theorem IC_rdr {E : Env} {g : FuncId} {cf : CF} {as : List PV} {H : Heap} {K : PV → Heap → List Nat → Prop} {r : Nat} {v : PV} {B : Bytes} (hp : E.prim g = none) (hc : E.tab g = some cf) (hr : r < H.n) (hb : Bf H v B)
    (h : V E g cf.body ⟨start as, H, []⟩ [] fun _ s => ∃ x a bad, (resV s cf.res).bind (expV s.h) = some (x, []) ∧ flatV x = true ∧ (∀ i ∈ s.wl, i = r) ∧ OneH H r (rdBox v a bad) s.h ∧ ∀ H' wl, OneH H r (rdBox v a bad) H' → (∀ i ∈ wl, i = r) → K x H' wl) : IC E g as H K := by
  refine IC_of hp hc (V_mono h ?_)
  rintro e s ⟨x, a, bad, h1, h2, h3, h4, h5⟩
  refine ⟨x, [], h1, below_wl h3 h4 hb.below, ?_⟩
  rw [if_pos h2, if_pos h2]
  exact h5 _ _ (h4.cut hr) fun i hi => h3 i (List.mem_filter.1 hi).1
theorem En_part {B : Bytes} {a n : Nat} : ((En B).take (a + n)).drop a = En ((B.drop a).take n) := by
  rw [En_take, En_drop, List.drop_take]
  congr 2
  omega
theorem Bf.text {H H' : Heap} {v : PV} {B : Bytes} {a n : Nat} (h : Bf H v B) (hle : a + n ≤ B.length) (he : EqH H H') :
    ∃ y is is2, sliceP H' 1 v (some a) (some (a + n)) none = some (y, is) ∧ b2sV H' y = some ⟨sv ((B.drop a).take n), H', [], some is2⟩ := by
  rcases h.l with ⟨rfl, hl⟩ | ⟨r, xs, rfl, hb, hle2, hx, hr, hl⟩
  · refine ⟨.im (En ((B.drop a).take n)) (true && a + n == (En B).length), [], [], ?_, ?_⟩
    · simp only [sliceP, Option.getD_some]
      rw [if_pos ⟨by omega, by simp, by omega, by simpa using hle⟩, En_part]
    · rw [b2sV_im]
      simp [elems, bytesOf_En]
  · have hb' : H'.at_ r = .row 1 xs true := by rw [he.at_ r hr, hb]
    have hlen : (En B).length = B.length := En_length B
    by_cases hn : n = 0 ∧ 0 < a
    · obtain ⟨rfl, ha⟩ := hn
      refine ⟨.im [] false, [r], [], ?_, ?_⟩
      · simp only [sliceP, hb', Option.getD_some]
        rw [if_pos ⟨by omega, by first | rfl | trivial, by first | rfl | trivial, by first | rfl | trivial, by omega, by omega⟩, if_pos ⟨by omega, ha⟩]
      · rw [b2sV_im]
        simp [elems, bytesOf, allLen]
    · refine ⟨.sl r 1 xs.length a n, [r], [r], ?_, ?_⟩
      · simp only [sliceP, hb', Option.getD_some]
        rw [if_pos ⟨by omega, by first | rfl | trivial, by first | rfl | trivial, by first | rfl | trivial, by omega, by omega⟩, if_neg (by omega)]
        simp
      · have e : (xs.drop a).take n = En ((B.drop a).take n) := by
          rw [← En_part, ← hx, List.take_take, Nat.min_eq_left (by omega), List.drop_take]
          congr 1
          omega
        rw [b2sV_sl]
        simp only [elems, hb']
        rw [if_pos ⟨by first | rfl | trivial, by first | rfl | trivial, by first | rfl | trivial, by omega⟩, e]
        simp [bytesOf_En]
theorem rtext_IC (T : Typed P) {H : Heap} {r m : Nat} {v : PV} {B : Bytes} {q : Src} {K : PV → Heap → List Nat → Prop} (h : RdS H r v B q) (hm : m < 9223372036854775808)
    (hK : ∀ H' wl, RdS H' r v B (rText m q).2 → Oth H r H' → (∀ i ∈ wl, i = r) → K (sv (rText m q).1) H' wl) : IC (env P) 78 [.ptr r 0, iv m] H K := by
  obtain ⟨a, ha, hq, hB⟩ := h.at_
  have hr := h.hr
  refine IC_rdr (cf := c78) rfl rfl hr h.b ?_
  have h0 : RdS (H.grow 0) r v B q := h.next (a' := a) ((EqH.refl.grow0).one hr hB) ha hq
  simp [c78]
  refine VA_inl (g := 77) (caps := []) rfl rfl ?_
  simp
  refine rnum_IC T h0 hm fun H1 wl h1 ho hw => ?_
  have ho : Oth H r H1 := Oth.trans (EqH.refl.grow0.one hr hB).oth ho
  obtain ⟨a1, ha1, hq1, hB1⟩ := h1.at_
  have hr1 := h1.hr
  have hn1 := ho.n
  have eoth : ∀ {b : Blk}, OneH H r b ((H1.grow 0).put r b) := fun {b} => (ho.grow0.put).one (by simp)
  have e2 : ∀ (a2 : Nat) (bad : Int), a2 ≤ B.length → ∀ s2, (rText m q) = (s2, ⟨B.drop a2, bad⟩) → ∀ H' wl, OneH H r (rdBox v a2 bad) H' → (∀ i ∈ wl, i = r) → K (sv s2) H' wl := by
    intro a2 bad hle s2 hx H' wl hH hwl
    rw [hx] at hK
    exact hK H' wl (h.next (q' := ⟨B.drop a2, bad⟩) hH hle rfl) hH.oth hwl
  by_cases hb : (rNum m q).2.bad = 0
  · have hmm := h.b.m
    rw [hb] at hB1
    have hmo : most = 68719476736 := rfl
    have hx1 : ∀ x, rNum m q = x → rText m q = (if x.2.bad ≠ 0 then ([], x.2) else if x.2.s.length < x.1 then ([], ⟨x.2.s, 2⟩) else (x.2.s.take x.1, ⟨x.2.s.drop x.1, 0⟩)) := by rintro _ rfl; rfl
    generalize hx : rNum m q = x at *
    have hx1 := hx1 x rfl
    obtain ⟨n, s, b⟩ := x
    simp only at hb hq1 hB1 h1 hx1
    subst hb hq1
    have hlen : (B.drop a1).length = B.length - a1 := by simp
    have w1 : IntKind.i64.wrap ((B.length : Int) - (a1 : Int)) = (B.length : Int) - a1 := wrap64_id (by omega)
    by_cases hl : B.length - a1 < n
    · have hl' : (B.length : Int) - a1 < (n : Int) := by omega
      rw [if_neg (by simp), if_pos (by rw [hlen]; exact hl)] at hx1
      have e3 := e2 a1 2 ha1 _ hx1
      rcases h1.b.cases with rfl | ⟨rr, xs, rfl, hrr, hrn, hxl, hxx⟩
      · simp [hB1, hr1, hn1, hr, w1, hl']
        exact ⟨hw, a1, 2, eoth.grow0 hr, fun H' wl h1 h2 => e3 H' wl h1 h2⟩
      · simp [hB1, hr1, hn1, hr, w1, hl']
        exact ⟨hw, a1, 2, eoth.grow0 hr, fun H' wl h1 h2 => e3 H' wl h1 h2⟩
    · have hl' : ¬ (B.length : Int) - a1 < (n : Int) := by omega
      rw [if_neg (by simp), if_neg (by rw [hlen]; exact hl)] at hx1
      have w2 : IntKind.i64.wrap ((a1 : Int) + (n : Int)) = (a1 : Int) + n := wrap64_id (by omega)
      have hp : 0 ≤ (a1 : Int) + n := by omega
      have ht : ((a1 : Int) + n).toNat = a1 + n := by omega
      simp only [List.drop_drop] at hx1
      have e3 := e2 (a1 + n) 0 (by omega) _ hx1
      obtain ⟨y, is, is2, t1, t2⟩ := h1.b.text (a := a1) (n := n) (by omega) EqH.refl.grow0
      rcases h1.b.cases with rfl | ⟨rr, xs, rfl, hrr, hrn, hxl, hxx⟩
      · simp [hB1, hr1, hn1, hr, w1, w2, hl', hp, ht, t1, t2]
        exact ⟨hw, a1 + n, 0, eoth.grow0 hr, fun H' wl h1 h2 => e3 H' wl h1 h2⟩
      · simp [hB1, hr1, hn1, hr, w1, w2, hl', hp, ht, t1, t2]
        exact ⟨hw, a1 + n, 0, eoth.grow0 hr, fun H' wl h1 h2 => e3 H' wl h1 h2⟩
  · have hx1 : rText m q = ([], (rNum m q).2) := by unfold rText; rw [if_pos hb]
    have e3 := e2 a1 (rNum m q).2.bad ha1 [] (by rw [hx1, ← hq1])
    simp [hB1, hr1, hb]
    exact ⟨hw, a1, _, (ho.grow0).one (by simp [hB1, hr1]), fun H' wl h1 h2 => e3 H' wl h1 h2⟩
end Go.Evl.Zone

namespace Go.Evl.Zone
open Go Go.Evl
variable {P : Program}
def rEnd (q : Src) : Int := if q.bad = 0 ∧ q.s ≠ [] then 3 else q.bad
structure Bey (H : Heap) (r : Nat) (h : Heap) : Prop where
  n : H.n ≤ h.n
  at_ : ∀ i, i < H.n → i ≠ r → h.at_ i = H.at_ i
theorem Bey.refl {H : Heap} {r : Nat} : Bey H r H := ⟨Nat.le_refl _, fun _ _ _ => rfl⟩
theorem Bey.grow {H h : Heap} {r m : Nat} (a : Bey H r h) : Bey H r (h.grow m) := ⟨by simpa using Nat.le_trans a.n (Nat.le_add_right _ _), fun i hi hne => by
  have := a.n
  simp only [at_grow]
  rw [if_pos (by omega), a.at_ i hi hne]⟩
theorem Bey.oth {H h h' : Heap} {r : Nat} (a : Bey H r h) (b : Oth h r h') : Bey H r h' := ⟨by rw [b.n]; exact a.n, fun i hi hne => by rw [b.at_ i (Nat.lt_of_lt_of_le hi a.n) hne, a.at_ i hi hne]⟩
theorem RdS.grow {H : Heap} {r m : Nat} {v : PV} {B : Bytes} {q : Src} (h : RdS H r v B q) : RdS (H.grow m) r v B q := by
  obtain ⟨a, ha, hq, hB⟩ := h.at_
  have hr := h.hr
  refine ⟨by simp; omega, ⟨h.b.l.grow, h.b.m⟩, a, ha, hq, ?_⟩
  simp only [at_grow]
  rw [if_pos hr, hB]
theorem LN.oth {N k r : Nat} {H H' : Heap} {v : PV} {ys : List (List PV)} (h : LN N H k v ys) (hB : ∃ cs, H.at_ r = .box cs) (ho : Oth H r H') : LN N H' k v ys := by
  refine ⟨h.l.keep (by rw [ho.n]; exact Nat.le_refl _) fun i hi ⟨xs, hx⟩ => ho.at_ i hi ?_, h.b⟩
  rintro rfl
  obtain ⟨cs, hB⟩ := hB
  rw [hB] at hx; cases hx
def Fin' (res : List CR) (H : Heap) (r : Nat) (v : PV) (B : Bytes) (K : PV → Heap → List Nat → Prop) (s : St) : Prop := ∃ x is q', (resV s res).bind (expV s.h) = some (x, is) ∧ (∀ i ∈ is, H.n ≤ i) ∧ (∀ i ∈ s.wl, i = r ∨ H.n ≤ i) ∧ Bey H r s.h ∧ (∃ a, a ≤ B.length ∧ q'.s = B.drop a ∧ s.h.at_ r = rdBox v a q'.bad) ∧ ∀ H' wl, RdS H' r v B q' → Oth H r H' → (∀ i ∈ wl, i = r) → K x H' wl
theorem Fin'.mk {res : List CR} {H : Heap} {r : Nat} {v : PV} {B : Bytes} {K : PV → Heap → List Nat → Prop} {s : St} (x : PV) (q' : Src) (a : Nat) (h1 : ∃ is, (resV s res).bind (expV s.h) = some (x, is) ∧ ∀ i ∈ is, H.n ≤ i) (h3 : ∀ i ∈ s.wl, i = r ∨ H.n ≤ i) (h4 : Bey H r s.h) (ha : a ≤ B.length) (hq : q'.s = B.drop a) (hb : s.h.at_ r = rdBox v a q'.bad)
    (h : ∀ H' wl, RdS H' r v B q' → Oth H r H' → (∀ i ∈ wl, i = r) → K x H' wl) : Fin' res H r v B K s := let ⟨is, e1, e2⟩ := h1; ⟨x, is, q', e1, e2, h3, h4, ⟨a, ha, hq, hb⟩, h⟩
theorem IC_rdx {E : Env} {g : FuncId} {cf : CF} {as : List PV} {H : Heap} {K : PV → Heap → List Nat → Prop} {r : Nat} {v : PV} {B : Bytes} {q : Src} (hp : E.prim g = none) (hc : E.tab g = some cf) (hS : RdS H r v B q)
    (h : V E g cf.body ⟨start as, H, []⟩ [] fun _ s => Fin' cf.res H r v B K s) : IC E g as H K := by
  refine IC_of hp hc (V_mono h ?_)
  rintro e s ⟨x, is, q', h1, h2, h3, h4, ⟨a, h5, h6, h7⟩, h8⟩
  have hr := hS.hr
  have hwf : ∀ i ∈ s.wl.filter (· < H.n), i = r := by
    intro i hi
    have := List.mem_filter.1 hi
    rcases h3 i this.1 with e | e
    · exact e
    · have : i < H.n := by simpa using this.2
      omega
  have hif : is.filter (· < H.n) = [] := by
    rw [List.filter_eq_nil_iff]
    intro i hi
    have := h2 i hi
    simp; omega
  have ho : OneH H r (rdBox v a q'.bad) (s.h.cut H) := ⟨rfl, fun i hi hne => by
    show (if i < H.n then s.h.at_ i else H.at_ i) = _
    rw [if_pos hi, h4.at_ i hi hne], by
    show (if r < H.n then s.h.at_ r else H.at_ r) = _
    rw [if_pos hr, h7]⟩
  refine ⟨x, is, h1, ?_, ?_⟩
  · simp only [List.all_eq_true]
    intro i hi
    rw [hwf i hi, h7]
    exact hS.b.below
  · rw [hif]
    have := h8 (s.h.cut H) (s.wl.filter (· < H.n)) (hS.next ho h5 h6) ho.oth hwf
    have hfz : freeze (s.h.cut H) [] = s.h.cut H := rfl
    rw [hfz, List.append_nil]
    split <;> exact this
theorem rend_IC (T : Typed P) {H : Heap} {r : Nat} {v : PV} {B : Bytes} {q : Src} {K : PV → Heap → List Nat → Prop} (h : RdS H r v B q)
    (hK : ∀ H' wl, RdS H' r v B q → Oth H r H' → (∀ i ∈ wl, i = r) → K (iv (rEnd q)) H' wl) : IC (env P) 81 [.ptr r 0] H K := by
  obtain ⟨a, ha, hq, hB⟩ := h.at_
  have hr := h.hr
  have hnil : (q.s = []) ↔ ¬ a < B.length := by rw [hq, List.drop_eq_nil_iff]; omega
  refine IC_rdx (cf := c81) rfl rfl h ?_
  by_cases hb : q.bad = 0
  · by_cases hl : a < B.length
    · have e : rEnd q = 3 := by simp [rEnd, hb, hnil, hl]
      rw [e] at hK
      rcases h.b.cases with rfl | ⟨rr, xs, rfl, hrr, hrn, hxl, hxx⟩ <;> simp [c81, hB, hr, hb, hl]
      all_goals exact Fin'.mk _ q a ⟨_, by simp; rfl, by simp⟩ (by simp) (by repeat (first | exact Bey.refl | refine Bey.grow ?_)) ha hq (by simp [hr, hB, hb]) hK
    · have e : rEnd q = 0 := by simp [rEnd, hb, hnil, hl]
      rw [e] at hK
      rcases h.b.cases with rfl | ⟨rr, xs, rfl, hrr, hrn, hxl, hxx⟩ <;> simp [c81, hB, hr, hb, hl]
      all_goals exact Fin'.mk _ q a ⟨_, by simp; rfl, by simp⟩ (by simp) (by repeat (first | exact Bey.refl | refine Bey.grow ?_)) ha hq (by simp [hr, hB, hb]) hK
  · have e : rEnd q = q.bad := by simp [rEnd, hb]
    rw [e] at hK
    simp [c81, hB, hr, hb]
    exact Fin'.mk _ q a ⟨_, by simp; rfl, by simp⟩ (by simp) (by repeat (first | exact Bey.refl | refine Bey.grow ?_)) ha hq (by simp [hr, hB]) hK
end Go.Evl.Zone

namespace Go.Evl.Zone
open Go Go.Evl
variable {P : Program}
def Wl (H : Heap) (r : Nat) (wl : List Nat) : Prop := ∀ i ∈ wl, i = r ∨ H.n ≤ i
theorem Wl.nil {H : Heap} {r : Nat} : Wl H r [] := fun _ h => by cases h
theorem Wl.app {H : Heap} {r : Nat} {a b : List Nat} (ha : Wl H r a) (hb : Wl H r b) : Wl H r (a ++ b) := fun i h => (List.mem_append.1 h).elim (ha i) (hb i)
theorem Wl.one {H : Heap} {r : Nat} {a : List Nat} (h : ∀ i ∈ a, i = r) : Wl H r a := fun i hi => .inl (h i hi)
theorem Wl.new {H : Heap} {r : Nat} {a : List Nat} (h : ∀ i ∈ a, H.n ≤ i) : Wl H r a := fun i hi => .inr (h i hi)
theorem Bf.bey {H h : Heap} {v : PV} {B : Bytes} {r : Nat} (hv : Bf H v B) (hB : ∃ cs, H.at_ r = .box cs) (hb : Bey H r h) : Bf h v B := by
  refine ⟨?_, hv.m⟩
  rcases hv.l with ⟨hv, hl⟩ | ⟨rr, xs, hv, hx, hle, he, hr, hl⟩
  · exact .im hv hl
  · refine .row rr xs hv ?_ hle he (Nat.lt_of_lt_of_le hr hb.n) hl
    obtain ⟨cs, hB⟩ := hB
    rw [hb.at_ rr hr (fun q => by rw [q, hB] at hx; cases hx), hx]
theorem rvec_loop (T : Typed P) {H : Heap} {r n : Nat} {v : PV} {B : Bytes} (hn : n ≤ 64) (hv : Bf H v B) (hH : ∃ cs, H.at_ r = .box cs) {ks : List Fr'} {K : Ex → St → Prop} : ∀ (j i : Nat) (L : List At) (q : Src) (st : St) (x : PV), i + j = n → st.σ 0 = .ptr r 0 → st.σ 3 = x → LN H.n st.h 2 x (En L) → st.σ 4 = iv n → st.σ 5 = iv i → RdS st.h r v B q → Bey H r st.h → r < H.n → Wl H r st.wl → L.length ≤ i →
    (∀ st' x', st'.σ 3 = x' → LN H.n st'.h 2 x' (En (L ++ (rLoop rAt j q).1)) → RdS st'.h r v B (rLoop rAt j q).2 → Bey H r st'.h → Wl H r st'.wl → VN (env P) 79 st' ks K) → V (env P) 79 (.loop L79_0) st (.blk 0 :: ks) K := by
  intro j
  induction j with
  | zero =>
    intro i L q st x hi h0 h3 hl h4 h5 hS hB hr hw hL hend
    obtain rfl : i = n := by omega
    rw [V_loop]
    simp [L79_0, h0, h4, h5]
    refine hend _ x (by simp [h3]) ?_ ?_ ?_ ?_
    · simp only [rLoop, List.append_nil]; exact hl.grow
    · exact hS.grow
    · exact hB.grow
    · exact hw
  | succ j ih =>
    intro i L q st x hi h0 h3 hl h4 h5 hS hB hr hw hL hend
    have hlt : (i : Int) < n := by omega
    obtain ⟨a, ha, hq, hBx⟩ := hS.at_
    have hrs := hS.hr
    rw [V_loop]
    by_cases hb : q.bad = 0
    · simp [L79_0, h0, h4, h5, hlt, hBx, hrs, hb]
      refine VA_inl (g := 78) (caps := []) rfl rfl ?_
      simp [h0]
      refine rtext_IC (m := 6) T (hS.grow) (by decide) fun H1 wl1 s1 o1 w1 => ?_
      simp [h0, h3]
      have b1 := (hS.grow (m := 0 + 0)).at_
      have b1 : ∃ cs, (st.h.grow (0 + 0)).at_ r = .box cs := by
        obtain ⟨a, _, _, h⟩ := b1
        exact ⟨_, h⟩
      have hl1 : LN H.n H1 2 x (En L) := (hl.grow (m := 0 + 0)).oth b1 o1
      have B1 : Bey H r H1 := (hB.grow (m := 0 + 0)).oth o1
      refine VA_inl (g := 77) (caps := []) rfl rfl ?_
      simp
      refine rnum_IC (m := 1048576) T (s1.grow (m := 1)) (by decide) fun H2 wl2 s2 o2 w2 => ?_
      have b2 := (s1.grow (m := 1)).at_
      have b2 : ∃ cs, (H1.grow 1).at_ r = .box cs := by
        obtain ⟨a, _, _, h⟩ := b2
        exact ⟨_, h⟩
      have hl2 : LN H.n H2 2 x (En L) := (hl1.grow (m := 1)).oth b2 o2
      have B2 : Bey H r H2 := (B1.grow (m := 1)).oth o2
      have n2 : H2.n = H1.n + 1 := by rw [o2.n]; simp
      have d2 : H2.at_ H1.n = .dead := by
        rw [o2.at_ H1.n (by simp) (by have := s1.hr; omega)]
        simp
      simp [chunks, elems, allLen]
      refine VP_appN (N := H.n) (ys := En L) hl2 d2 (by omega) B1.n (by simp [allLen]) (by simp; unfold most; omega) fun v' H3 wr rd a2 a3 a4 a5 a6 => ?_
      simp
      have w5 : IntKind.i64.wrap ((i : Int) + 1) = ((i + 1 : Nat) : Int) := by rw [wrap64_id (by omega)]; omega
      simp [h5, w5]
      have hS3 : RdS H3 r v B (rNum 1048576 (rText 6 q).2).2 := by
        obtain ⟨a', x1, x2, x3⟩ := s2.at_
        exact ⟨by rw [a3]; exact s2.hr, hv.bey hH ⟨by rw [a3]; exact B2.n, fun i hi hne => by rw [a5 i hi, B2.at_ i hi hne]⟩, a', x1, x2, a4 _ _ x3⟩
      have eL : rLoop rAt (j + 1) q = ((⟨(rText 6 q).1, ((rNum 1048576 (rText 6 q).2).1 : Int)⟩ : At) :: (rLoop rAt j (rNum 1048576 (rText 6 q).2).2).1, (rLoop rAt j (rNum 1048576 (rText 6 q).2).2).2) := by
        simp only [rLoop]
        rw [if_neg (by simp [hb])]
        rfl
      refine ih (i + 1) (L ++ [⟨(rText 6 q).1, ((rNum 1048576 (rText 6 q).2).1 : Int)⟩]) (rNum 1048576 (rText 6 q).2).2 _ v' (by omega) (by simp [h0]) (by simp) ?_ (by simp [h4]) (by simp) ?_ ?_ hr ?_ (by simp; omega) ?_
      · rw [En_append, En_one]
        repeat (first | exact a2 | refine LN.grow ?_)
      · repeat (first | exact hS3 | refine RdS.grow ?_)
      · have hB3 : Bey H r H3 := ⟨by rw [a3]; exact B2.n, fun i hi hne => by rw [a5 i hi, B2.at_ i hi hne]⟩
        repeat (first | exact hB3 | refine Bey.grow ?_)
      · exact (Wl.new a6).app ((Wl.one w2).app ((Wl.one w1).app hw))
      · intro st' x' e1 e2 e3 e4 e5
        rw [eL] at hend
        exact hend st' x' e1 (by simpa using e2) e3 e4 e5
    · simp [L79_0, h0, h4, h5, hlt, hBx, hrs, hb]
      have e : rLoop rAt (j + 1) q = ([], q) := by simp [rLoop, hb]
      rw [e] at hend
      refine hend _ x (by simp [h3]) ?_ ?_ ?_ ?_
      · simp only [List.append_nil]; exact hl.grow
      · exact hS.grow
      · exact hB.grow
      · exact hw
theorem LN.exp {N k : Nat} {H : Heap} {v : PV} {ys : List (List PV)} (h : LN N H k v ys) (hp : plainss ys = some ys) : ∃ is, expV H v = some (.im ys false, is) ∧ ∀ i ∈ is, N ≤ i := by
  obtain ⟨is, e⟩ := h.l.expV hp
  rcases h.l with ⟨rfl, hl⟩ | ⟨r, xs, rfl, hb, hle, he, hr, hl⟩
  · refine ⟨[], ?_, by simp⟩
    rfl
  · have hN := h.b r k xs.length 0 ys.length rfl
    refine ⟨is, e, ?_⟩
    have e2 : expV H (.sl r k xs.length 0 ys.length) = expC H (.sl r k xs.length 0 ys.length) := expV_of (by simp) (by simp)
    rw [e2] at e
    simp only [expC, hb] at e
    split at e
    · split at e
      · simp only [Option.some.injEq, Prod.mk.injEq] at e
        rw [← e.2]
        simp; omega
      · cases e
    · cases e
theorem rvec_IC (T : Typed P) {H : Heap} {r : Nat} {v : PV} {B : Bytes} {q : Src} {K : PV → Heap → List Nat → Prop} (h : RdS H r v B q)
    (hK : ∀ H' wl, RdS H' r v B (rVec q).2 → Oth H r H' → (∀ i ∈ wl, i = r) → K (lv (rVec q).1) H' wl) : IC (env P) 79 [.ptr r 0] H K := by
  obtain ⟨a, ha, hq, hB⟩ := h.at_
  have hr := h.hr
  refine IC_rdx (cf := c79) rfl rfl h ?_
  simp [c79]
  refine VA_inl (g := 77) (caps := []) rfl rfl ?_
  try simp
  refine rnum_IC (m := 64) T (h.grow (m := 0)) (by decide) fun H1 wl s1 o1 w1 => ?_
  try simp
  have hn : (rNum 64 q).1 ≤ 64 := by
    unfold rNum
    split
    · simp
    · split
      · split
        · assumption
        · simp
      · simp
  refine rvec_loop T hn h.b ⟨_, hB⟩ (rNum 64 q).1 0 [] (rNum 64 q).2 _ (.im [] true) (by omega) (by simp) (by simp) LN.nil (by simp) (by simp) ?_ ?_ hr ?_ (by simp) fun st' x' e1 e2 e3 e4 e5 => ?_
  · repeat (first | exact s1 | refine RdS.grow ?_)
  · have : Bey H r H1 := (Bey.refl.grow (m := 0)).oth o1
    repeat (first | exact this | refine Bey.grow ?_)
  · exact Wl.one w1
  · simp [e1]
    obtain ⟨a2, x1, x2, x3⟩ := e3.at_
    have e2' : LN H.n (st'.h.grow 0) 2 x' (En (rVec q).1) := e2.grow
    obtain ⟨is, y1, y2⟩ := e2'.exp (plainss_En _)
    refine Fin'.mk (lv (rVec q).1) (rVec q).2 a2 ⟨is, ?_, y2⟩ e5 (by repeat (first | exact e4 | refine Bey.grow ?_)) x1 x2 ?_ hK
    · simp [resV, resP]
      exact y1
    · have := e3.grow (m := 0)
      obtain ⟨a3, z1, z2, z3⟩ := this.at_
      have hlt := e3.hr
      show (st'.h.grow 0).at_ r = _
      simp only [at_grow]
      rw [if_pos hlt, x3]
      rfl
end Go.Evl.Zone

namespace Go.Evl.Zone
open Go Go.Evl
variable {P : Program}
theorem andNot128 {n : Int} (h : 0 ≤ n ∧ n < 256) : ∀ {t : TypeId} {cx cy : Bool}, evBin P .andNot t cx cy (.val (.int .u8 n)) (.val (.int .u8 128)) = some (.val (.int .u8 (n % 128))) := by
  intro t cx cy
  have e : evBin P .andNot t cx cy (.val (.int .u8 n)) (.val (.int .u8 128)) = some (.val (.int .u8 (IntKind.u8.wrap ((BitVec.ofInt 8 n &&& ~~~ BitVec.ofInt 8 128).toNat : Int)))) := rfl
  rw [e]
  obtain ⟨m, rfl⟩ : ∃ m : Nat, n = m := ⟨n.toNat, by omega⟩
  have key : ∀ m : Fin 256, IntKind.u8.wrap ((BitVec.ofInt 8 (m.val : Int) &&& ~~~ BitVec.ofInt 8 128).toNat : Int) = (m.val : Int) % 128 := by decide +kernel
  rw [key ⟨m, by omega⟩]
theorem or64 {a b : Nat} (ha : a < 9223372036854775808) (hb : b < 9223372036854775808) : ∀ {t : TypeId} {cx cy : Bool}, evBin P .or t cx cy (iv a) (iv b) = some (iv ((a ||| b : Nat) : Int)) := by
  intro t cx cy
  have e : evBin P .or t cx cy (iv a) (iv b) = some (iv (IntKind.i64.wrap ((BitVec.ofInt 64 a ||| BitVec.ofInt 64 b).toNat : Int))) := rfl
  have h := Nat.or_lt_two_pow (n := 63) (by simpa using ha) (by simpa using hb)
  have h1 : (BitVec.ofInt 64 (a : Int) ||| BitVec.ofInt 64 (b : Int)).toNat = a ||| b := by
    rw [BitVec.toNat_or, BitVec.ofInt_natCast, BitVec.ofInt_natCast, BitVec.toNat_ofNat, BitVec.toNat_ofNat, Nat.mod_eq_of_lt (by omega), Nat.mod_eq_of_lt (by omega)]
  rw [e, h1, wrap64_id (by omega)]
theorem or_digit {acc i e : Nat} (h : acc < 128 ^ i) : acc ||| (e * 128 ^ i) = acc + e * 128 ^ i := by
  have hp : 128 ^ i = 2 ^ (7 * i) := by rw [show 128 = 2 ^ 7 from rfl, ← Nat.pow_mul]
  rw [hp] at h ⊢
  have := Nat.two_pow_add_eq_or_of_lt h e
  rw [Nat.mul_comm e, Nat.or_comm, ← this, Nat.add_comm]
theorem shl7 {e i : Nat} (h : e * 128 ^ i < 9223372036854775808) (hi : i ≤ 9) : ∀ {t : TypeId} {cx cy : Bool}, evBin P .shl t cx cy (iv e) (iv (7 * (i : Int))) = some (iv ((e * 128 ^ i : Nat) : Int)) := by
  intro t cx cy
  rw [show 7 * (i : Int) = ((7 * i : Nat) : Int) by omega]
  have e1 : evBin P .shl t cx cy (iv e) (iv ((7 * i : Nat) : Int)) = some (iv (IntKind.i64.wrap ((e : Int) * 2 ^ (7 * i)))) := by
    have h0 : ¬ ((7 * i : Nat) : Int) < 0 := by omega
    have h1 : min (7 * i) IntKind.i64.bits = 7 * i := Nat.min_eq_left (by show 7 * i ≤ 64; omega)
    have h2 : Op.shift .shl .i64 (e : Int) .i64 ((7 * i : Nat) : Int) = pure (.int .i64 (IntKind.i64.wrap ((e : Int) * 2 ^ (7 * i)))) := by
      unfold Op.shift
      rw [if_neg h0]
      simp only [Int.toNat_natCast, h1]
    have h3 : evBin P .shl t cx cy (iv e) (iv ((7 * i : Nat) : Int)) = scal P (Op.shift .shl .i64 (e : Int) .i64 ((7 * i : Nat) : Int)) := rfl
    rw [h3, h2]
    rfl
  have hp : (2 : Int) ^ (7 * i) = ((128 ^ i : Nat) : Int) := by
    rw [Int.natCast_pow, show ((128 : Nat) : Int) = 2 ^ 7 from rfl, ← Int.pow_mul]
  rw [e1, hp, ← Int.natCast_mul, wrap64_id (by omega)]
end Go.Evl.Zone

namespace Go.Evl.Zone
open Go Go.Evl
variable {P : Program}
def digT : CC := match L98_0 with
  | .block _ (.seq (.seq _ t) _) => t
  | c => c
def digR (B : Bytes) (at_ acc i : Nat) : Nat × Nat × Int := match dig i (B.drop (at_ + i)) with
  | .ok (n, q) => (acc + 128 ^ i * n, B.length - q.length - at_, 0)
  | .error e => (0, 0, e)
theorem wdig_loop (T : Typed P) {H : Heap} {r : Nat} {v : PV} {B : Bytes} {at_ : Nat} (hB : H.at_ r = rdBox v at_ 0) (hr : r < H.n) (hv : Bf H v B) (hat : at_ ≤ B.length) {K : Ex → St → Prop} :
    ∀ (k i acc : Nat) (st : St), i + k = 9 → acc < 128 ^ i → st.σ 0 = .ptr r 0 → st.σ 2 = iv acc → st.σ 3 = iv i → EqH H st.h → st.wl = [] → at_ + i ≤ B.length →
      (∀ st', st'.σ 2 = iv (digR B at_ acc i).1 → st'.σ 3 = iv (digR B at_ acc i).2.1 → st'.σ 4 = iv (digR B at_ acc i).2.2 → EqH H st'.h → st'.wl = [] → K .ret st') →
      V (env P) 98 digT st [.seq (.exit 2097152), .blk 1048576, .seq (.loop L98_0), .blk 2097152] K := by
  have hm' := hv.m
  intro k
  induction k with
  | zero =>
    intro i acc st hi hacc h0 h2 h3 he hw hle hend
    obtain rfl : i = 9 := by omega
    have hE : digR B at_ acc 9 = (0, 0, 3) := by
      unfold digR
      cases B.drop (at_ + 9) <;> simp [dig]
    rw [hE] at hend
    simp [digT, L98_0, h0, h2, h3]
    exact hend _ (by simp) (by simp) (by simp) (by repeat (first | exact he | refine EqH.grow0 ?_)) hw
  | succ k ih =>
    intro i acc st hi hacc h0 h2 h3 he hw hle hend
    have hb' := he.at_ r hr
    rw [hB] at hb'
    have i9 : ¬ (i : Int) = 9 := by omega
    have i9' : ¬ i = 9 := by omega
    have hmm : most = 68719476736 := rfl
    have w1 : IntKind.i64.wrap ((at_ : Int) + (i : Int)) = (at_ : Int) + i := wrap64_id (by omega)
    by_cases hs : at_ + i = B.length
    · have hE : digR B at_ acc i = (0, 0, 2) := by
        unfold digR
        rw [List.drop_eq_nil_of_le (by omega)]
        simp [dig, i9']
      rw [hE] at hend
      have hge : (at_ : Int) + i = B.length := by omega
      have wB : IntKind.i64.wrap (B.length : Int) = B.length := wrap64_id (by omega)
      rcases hv.cases with rfl | ⟨rr, xs, rfl, hrr, hrn, hxl, hx⟩
      all_goals
        simp [digT, L98_0, h0, h2, h3, hb', he.n, hr, hw, i9, w1, hge, wB]
        exact hend _ (by simp) (by simp) (by simp) (by repeat (first | exact he | refine EqH.grow0 ?_)) rfl
    · have hlt : at_ + i < B.length := by omega
      obtain ⟨c, hc⟩ : ∃ c, B[at_ + i]? = some c := ⟨_, List.getElem?_eq_getElem hlt⟩
      have hd : B.drop (at_ + i) = c :: B.drop (at_ + i + 1) := by
        rw [List.drop_eq_getElem_cons hlt]
        have := (List.getElem?_eq_some_iff.1 hc).2
        rw [this]
      have hne : ¬ (at_ : Int) + i = B.length := by omega
      have hp : 0 ≤ (at_ : Int) + i := by omega
      have hl : (at_ : Int) + i < B.length := by omega
      have ht : ((at_ : Int) + i).toNat = at_ + i := by omega
      have hcl : c.toNat < 256 := UInt8.toNat_lt c
      have cv : ∀ n : Int, 0 ≤ n ∧ n < 256 → scal P (Go.convert 5 3 (.int .u8 n)) = some (iv n) := fun n hn => by rw [cv_ii (by rw [T.t5]; rfl) T.t3, wrap64_id (by omega)]
      have hix := En_at hc
      have an := fun t cx cy => @andNot128 P (c.toNat : Int) (by omega) t cx cy
      obtain ⟨e, he'⟩ : ∃ e, e = c.toNat % 128 := ⟨_, rfl⟩
      have hel : e < 128 := by omega
      have e1 : (c.toNat : Int) % 128 = (e : Int) := by omega
      have cve := cv (e : Int) (by omega)
      obtain ⟨D, hD⟩ : ∃ D, D = 128 ^ i := ⟨_, rfl⟩
      have hDb : D ≤ 72057594037927936 := by
        rw [hD]
        exact Nat.le_trans (Nat.pow_le_pow_right (by omega) (show i ≤ 8 by omega)) (by decide)
      have hDp : 0 < D := by rw [hD]; exact Nat.pow_pos (by omega)
      have hed : e * D ≤ 127 * D := Nat.mul_le_mul_right _ (by omega)
      have sl := fun t cx cy => @shl7 P e i (by rw [← hD]; omega) (by omega) t cx cy
      rw [← hD] at hacc
      have oo := fun t cx cy => @or64 P acc (e * 128 ^ i) (by omega) (by rw [← hD]; omega) t cx cy
      rw [or_digit (by rw [← hD]; exact hacc)] at oo
      have w7 : IntKind.i64.wrap (7 * (i : Int)) = 7 * (i : Int) := wrap64_id (by omega)
      simp only [← hD] at sl oo
      obtain ⟨F, hF⟩ : ∃ F, F = e * D := ⟨_, rfl⟩
      simp only [← hF] at sl oo hed
      obtain ⟨A, hA⟩ : ∃ A, A = acc + F := ⟨_, rfl⟩
      simp only [← hA] at oo
      have w5 : IntKind.i64.wrap ((i : Int) + 1) = ((i + 1 : Nat) : Int) := by rw [wrap64_id (by omega)]; omega
      have hAl : A < 128 ^ (i + 1) := by rw [Nat.pow_succ, ← hD]; omega
      by_cases h128 : 128 ≤ c.toNat
      · have h128' : (128 : Int) ≤ (c.toNat : Int) := by omega
        have hE : digR B at_ acc i = digR B at_ A (i + 1) := by
          unfold digR
          rw [hd, dig, if_neg i9', if_pos h128, show at_ + (i + 1) = at_ + i + 1 by omega]
          cases dig (i + 1) (B.drop (at_ + i + 1)) with
          | error e => rfl
          | ok q =>
            obtain ⟨n, q⟩ := q
            have : acc + 128 ^ i * (c.toNat % 128 + 128 * n) = A + 128 ^ (i + 1) * n := by
              rw [hA, hF, ← he', Nat.pow_succ, ← hD, Nat.mul_add, Nat.mul_comm D e, Nat.add_assoc, Nat.mul_assoc]
            simp only [this]
        rw [hE] at hend
        rcases hv.cases with rfl | ⟨rr, xs, rfl, hrr, hrn, hxl, hx⟩
        · simp [digT, L98_0, h0, h2, h3, hb', he.n, hr, hw, i9, w1, hne, hp, hl, ht, hlt, hc, hix, an, e1, cve, w7, sl, oo, w5, h128']
          show V (env P) 98 (.loop L98_0) _ [.blk 2097152] K
          rw [V_loop]
          show V (env P) 98 (.block 1048576 (.seq (.seq .skip digT) (.exit 2097152))) _ _ K
          simp only [V_block, V_seq, V_skip, VN_seq]
          refine ih (i + 1) A _ (by omega) hAl (by simp [h0]) (by simp) (by simp) (by repeat (first | exact he | refine EqH.grow0 ?_)) rfl (by omega) hend
        · have hrr' := he.at_ rr hrn
          rw [hrr] at hrr'
          have hx' := hx _ _ hc
          simp [digT, L98_0, h0, h2, h3, hb', he.n, hr, hw, i9, w1, hne, hp, hl, ht, hlt, hrr', hrn, hx', loadR_row, an, e1, cve, w7, sl, oo, w5, h128']
          show V (env P) 98 (.loop L98_0) _ [.blk 2097152] K
          rw [V_loop]
          show V (env P) 98 (.block 1048576 (.seq (.seq .skip digT) (.exit 2097152))) _ _ K
          simp only [V_block, V_seq, V_skip, VN_seq]
          refine ih (i + 1) A _ (by omega) hAl (by simp [h0]) (by simp) (by simp) (by repeat (first | exact he | refine EqH.grow0 ?_)) rfl (by omega) hend
      · have h128' : ¬ (128 : Int) ≤ (c.toNat : Int) := by omega
        have hec : e = c.toNat := by omega
        by_cases hz : c.toNat = 0
        · by_cases hi0 : 0 < i
          · have hE : digR B at_ acc i = (0, 0, 3) := by
              unfold digR
              rw [hd, dig, if_neg i9', if_neg h128, if_pos ⟨hz, hi0⟩]
            rw [hE] at hend
            have i1 : (1 : Int) < (i : Int) + 1 := by omega
            have an0 := fun t cx cy => @andNot128 P 0 (by omega) t cx cy
            have cz := cv 0 (by omega)
            have sl0 := fun t cx cy => @shl7 P 0 i (by simp) (by omega) t cx cy
            have oo0 := fun t cx cy => @or64 P acc 0 (by omega) (by omega) t cx cy
            simp at sl0 oo0 an0
            rcases hv.cases with rfl | ⟨rr, xs, rfl, hrr, hrn, hxl, hx⟩
            · simp [digT, L98_0, h0, h2, h3, hb', he.n, hr, hw, i9, w1, hne, hp, hl, ht, hlt, hc, hix, an0, e1, cz, w7, sl0, oo0, w5, hz, i1, hi0]
              exact hend _ (by simp) (by simp) (by simp) (by repeat (first | exact he | refine EqH.grow0 ?_)) rfl
            · have hrr' := he.at_ rr hrn
              rw [hrr] at hrr'
              have hx' := hx _ _ hc
              simp [digT, L98_0, h0, h2, h3, hb', he.n, hr, hw, i9, w1, hne, hp, hl, ht, hlt, hrr', hrn, hx', loadR_row, an0, e1, cz, w7, sl0, oo0, w5, hz, i1, hi0]
              exact hend _ (by simp) (by simp) (by simp) (by repeat (first | exact he | refine EqH.grow0 ?_)) rfl
          · obtain rfl : i = 0 := by omega
            have hE : digR B at_ acc 0 = (A, 1, 0) := by
              unfold digR
              rw [hd, dig, if_neg i9', if_neg h128, if_neg (by omega)]
              have e2 : acc + 128 ^ 0 * c.toNat = A := by rw [hA, hF, ← hec, hD, Nat.mul_comm]
              simp only [e2, List.length_drop]
              congr 2
              omega
            rw [hE] at hend
            have e0 : e = 0 := by omega
            have F0 : F = 0 := by rw [hF, e0]; omega
            have acc0 : acc = 0 := by rw [hD] at hacc; simpa using hacc
            have A0 : A = 0 := by omega
            rw [A0] at hend
            have an0 := fun t cx cy => @andNot128 P 0 (by omega) t cx cy
            have cz := cv 0 (by omega)
            have sl0 := fun t cx cy => @shl7 P 0 0 (by simp) (by omega) t cx cy
            have oo0 := fun t cx cy => @or64 P 0 0 (by omega) (by omega) t cx cy
            have w0 : IntKind.i64.wrap 0 = 0 := by decide
            have w11 : IntKind.i64.wrap 1 = 1 := by decide
            simp at sl0 oo0 an0
            simp only [Nat.add_zero, Int.add_zero, show ((0 : Nat) : Int) = 0 from rfl] at w1 hne hp hl ht hlt hc hix
            rcases hv.cases with rfl | ⟨rr, xs, rfl, hrr, hrn, hxl, hx⟩
            · simp [digT, L98_0, h0, h2, h3, hb', he.n, hr, hw, i9, w1, hne, hp, hl, ht, hlt, hc, hix, an0, e1, cz, w0, w11, sl0, oo0, hz, acc0]
              exact hend _ (by simp) (by simp) (by simp) (by repeat (first | exact he | refine EqH.grow0 ?_)) rfl
            · have hrr' := he.at_ rr hrn
              rw [hrr] at hrr'
              have hx' := hx _ _ hc
              simp [digT, L98_0, h0, h2, h3, hb', he.n, hr, hw, i9, w1, hne, hp, hl, ht, hlt, hrr', hrn, hx', loadR_row, an0, e1, cz, w0, w11, sl0, oo0, hz, acc0]
              exact hend _ (by simp) (by simp) (by simp) (by repeat (first | exact he | refine EqH.grow0 ?_)) rfl
        · have hz' : ¬ (c.toNat : Int) = 0 := by omega
          have hE : digR B at_ acc i = (A, i + 1, 0) := by
            unfold digR
            rw [hd, dig, if_neg i9', if_neg h128, if_neg (by omega)]
            have e2 : acc + 128 ^ i * c.toNat = A := by rw [hA, hF, ← hec, hD, Nat.mul_comm]
            simp only [e2, List.length_drop]
            congr 2
            omega
          rw [hE] at hend
          rcases hv.cases with rfl | ⟨rr, xs, rfl, hrr, hrn, hxl, hx⟩
          · simp [digT, L98_0, h0, h2, h3, hb', he.n, hr, hw, i9, w1, hne, hp, hl, ht, hlt, hc, hix, an, e1, cve, w7, sl, oo, w5, h128', hz, hz']
            exact hend _ (by simp) (by simp) (by simp) (by repeat (first | exact he | refine EqH.grow0 ?_)) rfl
          · have hrr' := he.at_ rr hrn
            rw [hrr] at hrr'
            have hx' := hx _ _ hc
            simp [digT, L98_0, h0, h2, h3, hb', he.n, hr, hw, i9, w1, hne, hp, hl, ht, hlt, hrr', hrn, hx', loadR_row, an, e1, cve, w7, sl, oo, w5, h128', hz, hz']
            exact hend _ (by simp) (by simp) (by simp) (by repeat (first | exact he | refine EqH.grow0 ?_)) rfl
end Go.Evl.Zone

namespace Go.Evl.Zone
open Go Go.Evl
variable {P : Program}
theorem wdigits_IC (T : Typed P) {H : Heap} {r a : Nat} {v : PV} {B : Bytes} {K : PV → Heap → List Nat → Prop} (hB : H.at_ r = rdBox v a 0) (hr : r < H.n) (hv : Bf H v B) (ha : a ≤ B.length)
    (hK : K (.tup [iv (digR B a 0 0).1, iv (digR B a 0 0).2.1, iv (digR B a 0 0).2.2]) H []) : IC (env P) 98 [.ptr r 0] H K := by
  refine IC_rd (cf := c98) rfl rfl ?_
  show V (env P) 98 (.seq _ (.block 2097152 (.seq (.block 1048576 (.seq (.seq _ (.seq _ digT)) (.exit 2097152))) (.loop L98_0)))) _ [] _
  simp
  refine wdig_loop T hB hr hv ha 9 0 0 _ (by omega) (by omega) (by simp) (by simp) (by simp) (by repeat (first | exact EqH.refl | refine EqH.grow0 ?_)) rfl (by omega) fun st' h2 h3 h4 he hw => ?_
  refine Rd.mk _ ?_ ?_ he.at_ (by simp [hw]) hK
  · simp [c98, resV, resP, h2, h3, h4]
  · rfl
structure TT (P : Program) : Prop extends TI P where
  tr : ∃ e, P.underlying 96 = some (.pointer e)
theorem TT.ty {P : Program} (T : TT P) : Typed P := T.toTI.toTyped3.toTyped2.toTyped
theorem TT.nil (T : TT P) {r : Nat} {cx : Bool} : evBin P .eql 96 cx true (.ptr r 0) (.val (.pointer none)) = some (bv false) := by
  obtain ⟨e, h⟩ := T.tr
  simp [evBin, pnil, h, toV]
theorem werr_IC (T : TT P) {H : Heap} {r : Nat} {v : PV} {B : Bytes} {q : Src} {K : PV → Heap → List Nat → Prop} (h : RdS H r v B q) (hK : K (iv q.bad) H []) : IC (env P) 43 [.ptr r 0] H K := by
  obtain ⟨a, ha, hq, hB⟩ := h.at_
  have hr := h.hr
  refine IC_rd (cf := c43) rfl rfl ?_
  have hn := @TT.nil P T r
  simp [c43, hB, hr, hn]
  exact Rd.mk (iv q.bad) ⟨_, by simp; rfl⟩ rfl (by intro i hi; simp [hi]) (by simp) hK
theorem Bey.putr {H h : Heap} {r : Nat} {b : Blk} (a : Bey H r h) : Bey H r (h.put r b) := ⟨by simpa using a.n, fun i hi hne => by
  simp only [at_put]
  rw [if_neg hne, a.at_ i hi hne]⟩
theorem digR_num {m a : Nat} {B : Bytes} (ha : a ≤ B.length) : ∃ k, (digR B a 0 0).2.1 = k ∧ (rNum m ⟨B.drop a, 0⟩ = if (digR B a 0 0).2.2 ≠ 0 then (0, ⟨B.drop a, (digR B a 0 0).2.2⟩) else if (digR B a 0 0).1 ≤ m then ((digR B a 0 0).1, ⟨B.drop (a + k), 0⟩) else (0, ⟨B.drop a, 3⟩)) ∧ a + k ≤ B.length := by
  unfold rNum digR
  simp only [ne_eq, not_true_eq_false, if_false, Nat.add_zero]
  cases hd : dig 0 (B.drop a) with
  | error e =>
    refine ⟨0, rfl, ?_, by omega⟩
    have : ¬ e = 0 := fun q => dig_err (B.drop a) 0 (by rw [hd, q])
    simp only
    rw [if_pos this]
  | ok x =>
    obtain ⟨n, q⟩ := x
    obtain ⟨k, h1, h2⟩ := dig_len _ _ _ _ hd
    subst h2
    have hl : (B.drop a).length = B.length - a := by simp
    refine ⟨k, by simp; omega, ?_, by omega⟩
    simp only [Nat.pow_zero, Nat.one_mul, Nat.zero_add, not_true_eq_false, if_false, List.drop_drop]
theorem wnum_IC (T : TT P) {H : Heap} {r m : Nat} {v : PV} {B : Bytes} {q : Src} {K : PV → Heap → List Nat → Prop} (h : RdS H r v B q) (hm : m < 9223372036854775808)
    (hK : ∀ H' wl, RdS H' r v B (rNum m q).2 → Oth H r H' → (∀ i ∈ wl, i = r) → K (iv (rNum m q).1) H' wl) : IC (env P) 42 [.ptr r 0, iv m] H K := by
  obtain ⟨a, ha, hq, hB⟩ := h.at_
  have hr := h.hr
  have hmo : most = 68719476736 := rfl
  have hmm := h.b.m
  refine IC_rdx (cf := c42) rfl rfl h ?_
  simp [c42]
  refine VA_inl (g := 43) (caps := []) rfl rfl ?_
  simp
  refine werr_IC T (h.grow (m := 0)) ?_
  simp
  by_cases hb : q.bad = 0
  · simp [hb]
    refine VA_inl (g := 98) (caps := []) rfl rfl ?_
    simp
    have h0 := h.grow (m := 0 + 0)
    refine wdigits_IC T.ty (v := v) (B := B) (a := a) ?_ (by simpa using hr) ?_ ha ?_
    · simp [hr, hB, hb]
    · exact (h.grow (m := 0)).b
    · obtain ⟨k, e1, e2, e3⟩ := digR_num (m := m) ha
      obtain ⟨n, hn⟩ : ∃ n, n = (digR B a 0 0).1 := ⟨_, rfl⟩
      obtain ⟨e, he⟩ : ∃ e, e = (digR B a 0 0).2.2 := ⟨_, rfl⟩
      rw [e1, ← hn, ← he]
      rw [← hn, ← he] at e2
      have hqq : q = ⟨B.drop a, 0⟩ := by
        obtain ⟨s, b⟩ := q
        simp only at hq hb
        rw [hq, hb]
      rw [hqq, e2] at hK
      have w1 : IntKind.i64.wrap ((a : Int) + (k : Int)) = ((a + k : Nat) : Int) := by rw [wrap64_id (by omega)]; omega
      by_cases h0 : e = 0
      · subst h0
        by_cases h1 : n ≤ m
        · have h1' : ¬ (m : Int) < (n : Int) := by omega
          have h1'' : ¬ m < n := by omega
          rw [if_neg (by simp), if_pos h1] at hK
          simp [h1', h1'', hB, hr, hb, w1]
          exact Fin'.mk (iv n) ⟨B.drop (a + k), 0⟩ (a + k) ⟨_, by simp; rfl, by simp⟩ (by simp) (by repeat (first | exact Bey.refl | refine Bey.grow ?_ | refine Bey.putr ?_)) e3 rfl (by simp [hr]) hK
        · have h1' : (m : Int) < (n : Int) := by omega
          have h1'' : m < n := by omega
          rw [if_neg (by simp), if_neg h1] at hK
          simp [h1', h1'', hB, hr, hb]
          exact Fin'.mk (iv 0) ⟨B.drop a, 3⟩ a ⟨_, by simp; rfl, by simp⟩ (by simp) (by repeat (first | exact Bey.refl | refine Bey.grow ?_ | refine Bey.putr ?_)) ha rfl (by simp [hr]) hK
      · rw [if_pos h0] at hK
        simp [h0, hB, hr, hb]
        exact Fin'.mk (iv 0) ⟨B.drop a, e⟩ a ⟨_, by simp; rfl, by simp⟩ (by simp) (by repeat (first | exact Bey.refl | refine Bey.grow ?_ | refine Bey.putr ?_)) ha rfl (by simp [hr]) hK
  · have e1 : rNum m q = (0, q) := by simp [rNum, hb]
    rw [e1] at hK
    simp [hb]
    exact Fin'.mk (iv 0) q a ⟨_, by simp; rfl, by simp⟩ (by simp) (by repeat (first | exact Bey.refl | refine Bey.grow ?_ | refine Bey.putr ?_)) ha hq (by simp [hr, hB]) hK
end Go.Evl.Zone

namespace Go.Evl.Zone
open Go Go.Evl
variable {P : Program}
theorem wtext_IC (T : TT P) {H : Heap} {r m : Nat} {v : PV} {B : Bytes} {q : Src} {K : PV → Heap → List Nat → Prop} (h : RdS H r v B q) (hm : m < 9223372036854775808)
    (hK : ∀ H' wl, RdS H' r v B (rText m q).2 → Oth H r H' → (∀ i ∈ wl, i = r) → K (sv (rText m q).1) H' wl) : IC (env P) 99 [.ptr r 0, iv m] H K := by
  obtain ⟨a, ha, hq, hB⟩ := h.at_
  have hr := h.hr
  refine IC_rdr (cf := c99) rfl rfl hr h.b ?_
  have h0 : RdS (H.grow 0) r v B q := h.next (a' := a) ((EqH.refl.grow0).one hr hB) ha hq
  simp [c99]
  refine VA_inl (g := 42) (caps := []) rfl rfl ?_
  try simp
  refine wnum_IC T h0 hm fun H1 wl h1 ho hw => ?_
  have ho : Oth H r H1 := Oth.trans (EqH.refl.grow0.one hr hB).oth ho
  obtain ⟨a1, ha1, hq1, hB1⟩ := h1.at_
  have hr1 := h1.hr
  have hn1 := ho.n
  have eoth : ∀ {b : Blk}, OneH H r b ((H1.grow 0).put r b) := fun {b} => (ho.grow0.put).one (by simp)
  have e2 : ∀ (a2 : Nat) (bad : Int), a2 ≤ B.length → ∀ s2, (rText m q) = (s2, ⟨B.drop a2, bad⟩) → ∀ H' wl, OneH H r (rdBox v a2 bad) H' → (∀ i ∈ wl, i = r) → K (sv s2) H' wl := by
    intro a2 bad hle s2 hx H' wl hH hwl
    rw [hx] at hK
    exact hK H' wl (h.next (q' := ⟨B.drop a2, bad⟩) hH hle rfl) hH.oth hwl
  try simp
  refine VA_inl (g := 43) (caps := []) rfl rfl ?_
  try simp
  refine werr_IC T (h1.grow (m := 0)) ?_
  try simp
  by_cases hb : (rNum m q).2.bad = 0
  · have hmm := h.b.m
    rw [hb] at hB1
    have hmo : most = 68719476736 := rfl
    have hx1 : ∀ x, rNum m q = x → rText m q = (if x.2.bad ≠ 0 then ([], x.2) else if x.2.s.length < x.1 then ([], ⟨x.2.s, 2⟩) else (x.2.s.take x.1, ⟨x.2.s.drop x.1, 0⟩)) := by rintro _ rfl; rfl
    generalize hx : rNum m q = x at *
    have hx1 := hx1 x rfl
    obtain ⟨n, s, b⟩ := x
    simp only at hb hq1 hB1 h1 hx1
    subst hb hq1
    have hlen : (B.drop a1).length = B.length - a1 := by simp
    have w1 : IntKind.i64.wrap ((B.length : Int) - (a1 : Int)) = (B.length : Int) - a1 := wrap64_id (by omega)
    by_cases hl : B.length - a1 < n
    · have hl' : (B.length : Int) - a1 < (n : Int) := by omega
      rw [if_neg (by simp), if_pos (by rw [hlen]; exact hl)] at hx1
      have e3 := e2 a1 2 ha1 _ hx1
      rcases h1.b.cases with rfl | ⟨rr, xs, rfl, hrr, hrn, hxl, hxx⟩
      all_goals
        simp [hB1, hr1, hn1, hr, w1, hl']
        exact ⟨hw, a1, 2, eoth.grow0 hr, fun H' wl h1 h2 => e3 H' wl h1 h2⟩
    · have hl' : ¬ (B.length : Int) - a1 < (n : Int) := by omega
      rw [if_neg (by simp), if_neg (by rw [hlen]; exact hl)] at hx1
      have w2 : IntKind.i64.wrap ((a1 : Int) + (n : Int)) = (a1 : Int) + n := wrap64_id (by omega)
      have hp : 0 ≤ (a1 : Int) + n := by omega
      have ht : ((a1 : Int) + n).toNat = a1 + n := by omega
      have w3 : IntKind.i64.wrap ((a1 : Int) + (n : Int) - n) = (a1 : Int) := by rw [wrap64_id (by omega)]; omega
      have w4 : IntKind.i64.wrap (a1 : Int) = (a1 : Int) := wrap64_id (by omega)
      simp only [List.drop_drop] at hx1
      have e3 := e2 (a1 + n) 0 (by omega) _ hx1
      have tx : ∀ bl, ∃ y is is2, sliceP (((H1.grow 0).put r bl).grow 0) 1 v (some a1) (some (a1 + n)) none = some (y, is) ∧ b2sV (((H1.grow 0).put r bl).grow 0) y = some ⟨sv ((B.drop a1).take n), ((H1.grow 0).put r bl).grow 0, [], some is2⟩ := fun bl =>
        (h1.b.oth hB1 (Oth.refl.grow0.put.grow0)).text (by omega) EqH.refl
      rcases h1.b.cases with rfl | ⟨rr, xs, rfl, hrr, hrn, hxl, hxx⟩
      · obtain ⟨y, is, is2, t1, t2⟩ := tx (.box [.im (En B) true, iv ((a1 : Int) + n), iv 0])
        simp [hB1, hr1, hn1, hr, w1, w2, hl', hp, ht, t1, t2, w3, w4]
        exact ⟨hw, a1 + n, 0, eoth.grow0 hr, fun H' wl h1 h2 => e3 H' wl h1 h2⟩
      · obtain ⟨y, is, is2, t1, t2⟩ := tx (.box [.sl rr 1 xs.length 0 B.length, iv ((a1 : Int) + n), iv 0])
        simp [hB1, hr1, hn1, hr, w1, w2, hl', hp, ht, t1, t2, w3, w4]
        exact ⟨hw, a1 + n, 0, eoth.grow0 hr, fun H' wl h1 h2 => e3 H' wl h1 h2⟩
  · have hx1 : rText m q = ([], (rNum m q).2) := by unfold rText; rw [if_pos hb]
    have e3 := e2 a1 (rNum m q).2.bad ha1 [] (by rw [hx1, ← hq1])
    simp [hB1, hr1, hb]
    exact ⟨hw, a1, _, (ho.grow0).one (by simp [hB1, hr1]), fun H' wl h1 h2 => e3 H' wl h1 h2⟩
theorem wend_IC (T : TT P) {H : Heap} {r : Nat} {v : PV} {B : Bytes} {q : Src} {K : PV → Heap → List Nat → Prop} (h : RdS H r v B q)
    (hK : ∀ H' wl, RdS H' r v B q → Oth H r H' → (∀ i ∈ wl, i = r) → K (iv (rEnd q)) H' wl) : IC (env P) 47 [.ptr r 0] H K := by
  obtain ⟨a, ha, hq, hB⟩ := h.at_
  have hr := h.hr
  have hnil : (q.s = []) ↔ ¬ a < B.length := by rw [hq, List.drop_eq_nil_iff]; omega
  refine IC_rdx (cf := c47) rfl rfl h ?_
  simp [c47]
  refine VA_inl (g := 43) (caps := []) rfl rfl ?_
  try simp
  refine werr_IC T (h.grow (m := 0)) ?_
  try simp
  by_cases hb : q.bad = 0
  · by_cases hl : a < B.length
    · have e : rEnd q = 3 := by simp [rEnd, hb, hnil, hl]
      rw [e] at hK
      rcases h.b.cases with rfl | ⟨rr, xs, rfl, hrr, hrn, hxl, hxx⟩ <;> simp [hB, hr, hb, hl]
      all_goals exact Fin'.mk _ q a ⟨_, by simp; rfl, by simp⟩ (by simp) (by repeat (first | exact Bey.refl | refine Bey.grow ?_)) ha hq (by simp [hr, hB, hb]) hK
    · have e : rEnd q = q.bad := by simp [rEnd, hb, hnil, hl]
      rw [e] at hK
      rcases h.b.cases with rfl | ⟨rr, xs, rfl, hrr, hrn, hxl, hxx⟩ <;> simp [hB, hr, hb, hl]
      all_goals
        refine VA_inl (g := 43) (caps := []) rfl rfl ?_
        try simp
        refine werr_IC T (h.grow (m := 0)) ?_
        try simp
        exact Fin'.mk _ q a ⟨_, by simp; rfl, by simp⟩ (by simp) (by repeat (first | exact Bey.refl | refine Bey.grow ?_)) ha hq (by simp [hr, hB, hb]) hK
  · have e : rEnd q = q.bad := by simp [rEnd, hb]
    rw [e] at hK
    simp [hB, hr, hb]
    refine VA_inl (g := 43) (caps := []) rfl rfl ?_
    try simp
    refine werr_IC T (h.grow (m := 0)) ?_
    try simp
    exact Fin'.mk _ q a ⟨_, by simp; rfl, by simp⟩ (by simp) (by repeat (first | exact Bey.refl | refine Bey.grow ?_)) ha hq (by simp [hr, hB]) hK
end Go.Evl.Zone
