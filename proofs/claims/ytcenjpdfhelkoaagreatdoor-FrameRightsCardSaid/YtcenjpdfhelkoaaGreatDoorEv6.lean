/- The evaluator's texts CEnc to CLRights, joined. -/
import Derived.Test.YtcenjpdfhelkoaaGreatDoorEv5
set_option linter.all false
set_option linter.deprecated false
set_option linter.unusedVariables false
set_option linter.unusedSimpArgs false
set_option linter.unnecessarySimpa false
/- How lists of things lie in memory: each thing has some cells. -/
namespace Go.Evl.Zone
open Go Go.Evl
set_option linter.unusedSimpArgs false
set_option linter.unusedVariables false
variable {P : Program}

abbrev Bytes := List UInt8
abbrev iv (n : Int) : PV := .val (.int .i64 n)
abbrev bv (b : Bool) : PV := .val (.bool b)

/-- A thing's cells. -/
class Enc (α : Type) where
  c : α → List PV
  k : Nat
  len : ∀ a, (c a).length = k
  pl : ∀ a, plains (c a) = some (c a)

def En {α : Type} [Enc α] (l : List α) : List (List PV) := l.map Enc.c
abbrev lv {α : Type} [Enc α] (l : List α) : PV := .im (En l) false

section
variable {α : Type} [Enc α]
@[simp] theorem En_length (l : List α) : (En l).length = l.length := by simp [En]
@[simp] theorem En_nil : En ([] : List α) = [] := rfl
theorem En_cons (a : α) (l : List α) : En (a :: l) = Enc.c a :: En l := rfl
theorem En_append (a b : List α) : En (a ++ b) = En a ++ En b := by simp [En]
theorem En_one (a : α) : En [a] = [Enc.c a] := rfl
@[simp] theorem allLen_En {k : Nat} (h : Enc.k α = k) (l : List α) : allLen k (En l) = true := by
  rw [allLen_iff]
  intro x hx
  simp only [En, List.mem_map] at hx
  obtain ⟨a, _, rfl⟩ := hx
  rw [Enc.len, h]
theorem plainss_En (l : List α) : plainss (En l) = some (En l) := plainss_ok fun y hy => by
  simp only [En, List.mem_map] at hy
  obtain ⟨a, _, rfl⟩ := hy
  exact Enc.pl a
theorem En_at {l : List α} {i : Nat} {q : α} (h : l[i]? = some q) : ∀ hi, (En l)[i]'hi = Enc.c q := fun hi => by
  have h2 := (List.getElem?_eq_some_iff.1 h).2
  simp only [En, List.getElem_map, h2]
end

instance : Enc Int := ⟨fun n => [iv n], 1, fun _ => rfl, fun _ => rfl⟩
instance : Enc UInt8 := ⟨fun b => [.val (.int .u8 (b.toNat : Int))], 1, fun _ => rfl, fun _ => rfl⟩
instance : Enc Bytes := ⟨fun s => [sv s], 1, fun _ => rfl, fun _ => rfl⟩
@[simp] theorem Enc_Int (n : Int) : Enc.c n = [iv n] := rfl
@[simp] theorem Enc_u8 (b : UInt8) : Enc.c b = [.val (.int .u8 (b.toNat : Int))] := rfl
@[simp] theorem Enc_Bytes (s : Bytes) : Enc.c s = [sv s] := rfl
@[simp] theorem Enc_kInt : Enc.k Int = 1 := rfl
@[simp] theorem Enc_ku8 : Enc.k UInt8 = 1 := rfl
@[simp] theorem Enc_kBytes : Enc.k Bytes = 1 := rfl

theorem bytesC_En (s : Bytes) : bytesC ⟨s.toArray⟩ = En s := by simp [bytesC, En]
theorem bytesOf_En : ∀ s : Bytes, bytesOf (En s) = some s
  | [] => rfl
  | b :: s => by
    rw [En_cons, bytesOf, bytesOf_En s]
    simp [byteOf?]

theorem get_at {α : Type} {l : List α} {i : Nat} {q : α} (h : l[i]? = some q) : ∀ hi, l[i]'hi = q := fun _ => (List.getElem?_eq_some_iff.1 h).2
end Go.Evl.Zone


/- Names: the document's functions and the program's. -/
namespace Go.Evl.Zone
open Go Go.Evl
set_option linter.unusedSimpArgs false
set_option linter.unusedVariables false
variable {P : Program}

def dig19 (b : UInt8) : Bool := decide (49 ≤ b.toNat) && decide (b.toNat ≤ 57)

/-- May it be a name? -/
def idR : Bytes → Bool
  | [] => false
  | b :: r => decide (r.length ≤ 5) && decide (b.toNat = 48) && r.all dig19

theorem loop_r1Right {s : Bytes} {ks : List Fr'} {K : Ex → St → Prop} (hs : s.length ≤ 6) : ∀ (rest : Bytes) (i : Nat) (st : St), s.drop i = rest → i ≤ s.length → st.σ 0 = sv s → st.σ 3 = iv i →
    (∀ st', rest.all dig19 = false → st'.σ 2 = bv false → K .ret st') → (∀ st', rest.all dig19 = true → VN (env P) 61 st' ks K) → V (env P) 61 (.loop L61_0) st (.blk 0 :: ks) K
  | [], i, st, hr, hi, h0, h3, hret, hend => by
    obtain ⟨hii, hlt, ht⟩ := drop_nil hr hi
    rw [V_loop]
    simp [L61_0, h0, h3, sv_size, hlt]
    exact hend _ rfl
  | b :: rest, i, st, hr, hi, h0, h3, hret, hend => by
    obtain ⟨hq, hlt, hr', ht⟩ := drop_cons hr
    have hix := get_at hq
    have hw := wrapS (i := i) (by omega)
    rw [V_loop]
    by_cases lo : b.toNat < 49
    · have lo' : (b.toNat : Int) < 49 := by omega
      simp [L61_0, h0, h3, sv_size, hlt, hq, hix, lo, lo']
      exact hret _ (by simp [dig19]; omega) (by simp)
    · have lo' : ¬ (b.toNat : Int) < 49 := by omega
      by_cases up : 57 < b.toNat
      · have up' : (57 : Int) < (b.toNat : Int) := by omega
        simp [L61_0, h0, h3, sv_size, hlt, hq, hix, lo, lo', up, up']
        exact hret _ (by simp [dig19]; omega) (by simp)
      · have up' : ¬ (57 : Int) < (b.toNat : Int) := by omega
        have hd : dig19 b = true := by simp [dig19]; omega
        simp only [List.all_cons, hd, Bool.true_and] at hret hend
        simp [L61_0, h0, h3, sv_size, hlt, hq, hix, lo, lo', up, up', hw]
        exact loop_r1Right hs rest (i + 1) _ hr' (by omega) (by simp [h0]) (by simp) hret hend

theorem r1Right_ans {s : Bytes} : ans (env P) 61 [sv s] = some (bv (idR s)) := by
  refine ans_V rfl rfl ?_
  cases s with
  | nil => simp [c61, sv_size, idR]
  | cons b r =>
    have h1 : ¬ ((r.length : Int) + 1 < 1) := by omega
    by_cases h2 : 5 < r.length
    · have h2' : (6 : Int) < (r.length : Int) + 1 := by omega
      have h3 : ¬ r.length ≤ 5 := by omega
      simp [c61, sv_size, idR, h1, h2', h3]
    · have h2' : ¬ (6 : Int) < (r.length : Int) + 1 := by omega
      have h3 : r.length ≤ 5 := by omega
      by_cases h4 : b.toNat = 48
      · have h4' : (b.toNat : Int) = 48 := by omega
        simp [c61, sv_size, h1, h2', h4']
        refine loop_r1Right (s := b :: r) (by simp; omega) r 1 _ rfl (by simp) (by simp) (by simp) ?_ ?_
        · intro st' ha h; simp [h, idR, ha]
        · intro st' ha; simp [idR, ha, h3, h4]
      · have h4' : ¬ (b.toNat : Int) = 48 := by omega
        simp [c61, sv_size, h1, h2', h4', idR, h4]

theorem hasPrefix_ans {a b : Bytes} : ans (env P) 144 [sv a, sv b] = some (bv (decide (b <+: a))) := by
  have h : ans (env P) 212 [sv a, sv b] = some (bv (decide (b <+: a))) := by
    refine ans_V rfl rfl ?_
    have he := fun t cx cy => evBin_seql (P := P) (t := t) (cx := cx) (cy := cy) (a.take b.length) b
    by_cases hl : b.length ≤ a.length
    · have hl' : (b.length : Int) ≤ (a.length : Int) := by omega
      have hsl : ∀ H, sliceP H 0 (sv a) none (some b.length) none = some (sv (a.take b.length), []) := fun H => sv_slice (H := H) (a := 0) (b := b.length) (by omega) hl
      have hp : b <+: a ↔ a.take b.length = b := ⟨fun h => (List.prefix_iff_eq_take.1 h).symm, fun h => List.prefix_iff_eq_take.2 h.symm⟩
      simp [c212, sv_size, hl', hl, hsl, he, hp]
    · have hl' : ¬ (b.length : Int) ≤ (a.length : Int) := by omega
      have hp : ¬ b <+: a := fun h => hl h.length_le
      simp [c212, sv_size, hl', hl, hp]
  refine ans_V rfl rfl ?_
  simp [c144, h]

theorem loop_idRight {s : Bytes} {ks : List Fr'} {K : Ex → St → Prop} (hs : s.length ≤ 6) : ∀ (rest : Bytes) (i : Nat) (st : St), s.drop i = rest → i ≤ s.length → st.σ 15 = .im (En s) false → st.σ 16 = iv s.length → st.σ 17 = iv i →
    (∀ st', rest.all dig19 = false → st'.σ 2 = bv false → K .ret st') → (∀ st', rest.all dig19 = true → VN (env P) 50 st' ks K) → V (env P) 50 (.loop L50_0) st (.blk 0 :: ks) K
  | [], i, st, hr, hi, h0, h16, h3, hret, hend => by
    obtain ⟨hii, hlt, ht⟩ := drop_nil hr hi
    rw [V_loop]
    simp [L50_0, h0, h16, h3, hlt]
    exact hend _ rfl
  | b :: rest, i, st, hr, hi, h0, h16, h3, hret, hend => by
    obtain ⟨hq, hlt, hr', ht⟩ := drop_cons hr
    have hix := En_at hq
    have hw := wrapS (i := i) (by omega)
    rw [V_loop]
    by_cases lo : b.toNat ≤ 48
    · have lo' : (b.toNat : Int) ≤ 48 := by omega
      simp [L50_0, h0, h16, h3, hlt, hix, lo, lo']
      exact hret _ (by simp [dig19]; omega) (by simp)
    · have lo' : ¬ (b.toNat : Int) ≤ 48 := by omega
      by_cases up : 57 < b.toNat
      · have up' : (57 : Int) < (b.toNat : Int) := by omega
        simp [L50_0, h0, h16, h3, hlt, hix, lo, lo', up, up']
        exact hret _ (by simp [dig19]; omega) (by simp)
      · have up' : ¬ (57 : Int) < (b.toNat : Int) := by omega
        have hd : dig19 b = true := by simp [dig19]; omega
        simp only [List.all_cons, hd, Bool.true_and] at hret hend
        simp [L50_0, h0, h16, h3, hlt, hix, lo, lo', up, up', hw]
        exact loop_idRight hs rest (i + 1) _ hr' (by omega) (by simp [h0]) (by simp [h16]) (by simp) hret hend

theorem idRight_ans {s : Bytes} : ans (env P) 50 [sv s] = some (bv (idR s)) := by
  refine ans_V rfl rfl ?_
  have hp := hasPrefix_ans (P := P) (a := s) (b := [48])
  cases s with
  | nil => simp at hp; simp [c50, sv_size, idR, hp]
  | cons b r =>
    by_cases h4 : b = 48
    · subst h4
      simp at hp
      by_cases h2 : 5 < r.length
      · have h2' : (6 : Int) < (r.length : Int) + 1 := by omega
        have h3 : ¬ r.length ≤ 5 := by omega
        simp [c50, sv_size, idR, hp, h2', h3]
      · have h2' : ¬ (6 : Int) < (r.length : Int) + 1 := by omega
        have h3 : r.length ≤ 5 := by omega
        have hsl : ∀ H, sliceP H 0 (sv (48 :: r)) (some 1) none none = some (sv r, []) := by
          intro H
          have e := sv_slice (H := H) (l := 48 :: r) (a := 1) (b := r.length + 1) (by omega) (by simp)
          simp only [List.drop_succ_cons, List.drop_zero, Nat.add_sub_cancel, List.take_length] at e
          exact e
        simp [c50, sv_size, hp, h2', hsl, bytesC_En]
        refine loop_idRight (s := r) (by omega) r 0 _ rfl (by simp) (by simp [bytesC_En]) (by simp) (by simp) ?_ ?_
        · intro st' ha h; simp [h, idR, ha]
        · intro st' ha; simp [idR, ha, h3]
    · have h4' : ¬ b.toNat = 48 := fun e => h4 (UInt8.toNat_inj.1 e)
      have hp' : ¬ 48 = b := fun e => h4 e.symm
      simp [hp'] at hp
      simp [c50, sv_size, idR, hp, h4']

/-! ### Their order -/

abbrev cmpB (a b : Bytes) : Int := Lib.compareBytes a b

theorem idCompare_ans {a b : Bytes} : ans (env P) 216 [sv a, sv b] = some (iv (cmpB a b)) := by
  refine ans_V rfl rfl ?_
  have hp := fun {dst : Option Nat} {rest : List CI} {i slot slot' : Nat} {log : Log} {d : Option (Nat × List (Nat × Nat))} {K : Ex → St → Prop} {st : St} {ks : List Fr'} {xs : List O} => VA_prim (E := env P) (f := 216) (g := 252) (p := pCompare) (dst := dst) (rest := rest) (i := i) (slot := slot) (slot' := slot') (log := log) (d := d) (K := K) (st := st) (ks := ks) (xs := xs) rfl
  simp [c216, hp, pCompare]

/-- No text is as long. -/
def big : Nat := 9223372036854775807

theorem loop_cmp {s t : Bytes} {ks : List Fr'} {K : Ex → St → Prop} (hs : s.length ≤ big) (ht : t.length ≤ big) : ∀ (rest : Bytes) (i : Nat) (st : St), s.drop i = rest → i ≤ s.length → i ≤ t.length → st.σ 0 = sv s → st.σ 1 = sv t → st.σ 5 = iv i →
    (∀ st', st'.σ 4 = iv (cmpB rest (t.drop i)) → K .ret st') → (∀ st', st'.σ 0 = sv s → st'.σ 1 = sv t → cmpB rest (t.drop i) = (if s.length < t.length then -1 else if t.length < s.length then 1 else 0) → VN (env P) 156 st' ks K) → V (env P) 156 (.loop L156_0) st (.blk 0 :: ks) K
  | [], i, st, hr, hi, hj, h0, h1, h5, hret, hend => by
    obtain ⟨hii, hlt, hd⟩ := drop_nil hr hi
    rw [V_loop]
    simp [L156_0, h0, h1, h5, sv_size, hlt]
    refine hend _ (by simp [h0]) (by simp [h1]) ?_
    by_cases h : i = t.length
    · rw [List.drop_eq_nil_of_le (by omega), if_neg (by omega), if_neg (by omega)]; rfl
    · rw [if_pos (by omega), List.drop_eq_getElem_cons (by omega)]; rfl
  | b :: rest, i, st, hr, hi, hj, h0, h1, h5, hret, hend => by
    obtain ⟨hq, hlt, hr', _⟩ := drop_cons hr
    have hix := get_at hq
    have hw := wrapS (i := i) (by unfold big at hs; omega)
    rw [V_loop]
    by_cases h : i = t.length
    · have hlt' : ¬ i < t.length := by omega
      simp [L156_0, h0, h1, h5, sv_size, hlt, hlt']
      refine hend _ (by simp [h0]) (by simp [h1]) ?_
      rw [List.drop_eq_nil_of_le (by omega), if_neg (by omega), if_pos (by omega)]; rfl
    · have hlt' : i < t.length := by omega
      have hdr : t.drop i = t[i] :: t.drop (i + 1) := List.drop_eq_getElem_cons hlt'
      have htq : t[i]? = some t[i] := List.getElem?_eq_getElem hlt'
      rw [hdr] at hret hend
      generalize t[i] = c at *
      have hix' := get_at htq
      by_cases lo : b.toNat < c.toNat
      · have lo' : (b.toNat : Int) < (c.toNat : Int) := by omega
        have lo2 : b < c := UInt8.lt_iff_toNat_lt.2 lo
        simp [L156_0, h0, h1, h5, sv_size, hlt, hlt', hq, htq, hix, hix', lo, lo']
        exact hret _ (by simp [cmpB, Lib.compareBytes, lo2])
      · have lo' : ¬ (b.toNat : Int) < (c.toNat : Int) := by omega
        have lo2 : ¬ b < c := fun x => lo (UInt8.lt_iff_toNat_lt.1 x)
        by_cases up : c.toNat < b.toNat
        · have up' : (c.toNat : Int) < (b.toNat : Int) := by omega
          have up2 : c < b := UInt8.lt_iff_toNat_lt.2 up
          simp [L156_0, h0, h1, h5, sv_size, hlt, hlt', hq, htq, hix, hix', lo, lo', up, up']
          exact hret _ (by simp [cmpB, Lib.compareBytes, lo2, up2])
        · have up' : ¬ (c.toNat : Int) < (b.toNat : Int) := by omega
          have up2 : ¬ c < b := fun x => up (UInt8.lt_iff_toNat_lt.1 x)
          have e : cmpB (b :: rest) (c :: t.drop (i + 1)) = cmpB rest (t.drop (i + 1)) := by simp [cmpB, Lib.compareBytes, lo2, up2]
          rw [e] at hret hend
          simp [L156_0, h0, h1, h5, sv_size, hlt, hlt', hq, htq, hix, hix', lo, lo', up, up', hw]
          exact loop_cmp hs ht rest (i + 1) _ hr' (by omega) (by omega) (by simp [h0]) (by simp [h1]) (by simp) hret hend

theorem r1Compare_ans {s t : Bytes} (hs : s.length ≤ big) (ht : t.length ≤ big) : ans (env P) 156 [sv s, sv t] = some (iv (cmpB s t)) := by
  refine ans_V rfl rfl ?_
  simp [c156]
  refine loop_cmp hs ht s 0 _ rfl (by omega) (by omega) (by simp) (by simp) (by simp) ?_ ?_
  · intro st' h; simp at h; simp [h]
  · intro st' h0 h1 h
    simp only [List.drop_zero] at h
    rw [h]
    by_cases a : s.length < t.length
    · simp [h0, h1, sv_size, a]
    · by_cases b : t.length < s.length
      · simp [h0, h1, sv_size, a, b]
      · simp [h0, h1, sv_size, a, b]

end Go.Evl.Zone


/- The things that frames are made of. -/
namespace Go.Evl.Zone
open Go Go.Evl
set_option linter.unusedSimpArgs false
set_option linter.unusedVariables false
variable {P : Program}

/-- One, and how far. -/
structure At where
  id : Bytes
  n : Int
  deriving DecidableEq
/-- One's events. -/
structure KRow where
  id : Bytes
  upto : Int
  extra : List Int
  deriving DecidableEq
/-- How far one is. -/
structure MRow where
  id : Bytes
  vec : List At
  deriving DecidableEq

instance : Enc At := ⟨fun a => [sv a.id, iv a.n], 2, fun _ => rfl, fun _ => rfl⟩
instance : Enc KRow := ⟨fun a => [sv a.id, iv a.upto, lv a.extra], 3, fun _ => rfl, fun _ => rfl⟩
instance : Enc MRow := ⟨fun a => [sv a.id, lv a.vec], 2, fun _ => rfl, fun _ => rfl⟩
@[simp] theorem Enc_At (a : At) : Enc.c a = [sv a.id, iv a.n] := rfl
@[simp] theorem Enc_KRow (a : KRow) : Enc.c a = [sv a.id, iv a.upto, lv a.extra] := rfl
@[simp] theorem Enc_MRow (a : MRow) : Enc.c a = [sv a.id, lv a.vec] := rfl
@[simp] theorem Enc_kAt : Enc.k At = 2 := rfl
@[simp] theorem Enc_kKRow : Enc.k KRow = 3 := rfl
@[simp] theorem Enc_kMRow : Enc.k MRow = 2 := rfl

/-- Right each, and rising. -/
def chk {α : Type} (ok : α → Bool) (id : α → Bytes) : Option α → List α → Bool
  | _, [] => true
  | p, a :: r => ok a && (match p with
    | none => true
    | some p => decide (cmpB (id p) (id a) < 0)) && chk ok id (some a) r

/-- What stands ahead of a place. -/
def prevAt {α : Type} (L : List α) : Nat → Option α → Prop
  | 0, p => p = none
  | j + 1, p => ∃ q, L[j]? = some q ∧ p = some q

theorem prevAt_succ {α : Type} {L : List α} {i : Nat} {q : α} (h : L[i]? = some q) : prevAt L (i + 1) (some q) := ⟨q, h, rfl⟩

theorem prevAt_pos {α : Type} {L : List α} {i : Nat} {p : Option α} (hi : 0 < i) (h : prevAt L i p) : ∃ q, L[i - 1]? = some q ∧ p = some q := by
  cases i with
  | zero => omega
  | succ j => exact h

theorem wrapP {i : Nat} (h0 : 0 < i) (h : i < 9223372036854775807) : IntKind.i64.wrap ((i : Int) - 1) = ((i - 1 : Nat) : Int) := by rw [wrap64_id (by omega)]; omega

def atR (a : At) : Bool := idR a.id && decide (1 ≤ a.n) && decide (a.n ≤ 1048576)
def vecR (v : List At) : Bool := chk atR At.id none v

end Go.Evl.Zone


/- Vecs: are they right? -/
namespace Go.Evl.Zone
open Go Go.Evl
set_option linter.unusedSimpArgs false
set_option linter.unusedVariables false
variable {P : Program}

theorem vecOrder_ans {a b : At} : ans (env P) 223 [.agg (Enc.c a), .agg (Enc.c b)] = some (iv (cmpB a.id b.id)) := by
  refine ans_V rfl rfl ?_
  have h := idCompare_ans (P := P) (a := a.id) (b := b.id)
  simp [c223, h]

theorem rVec_loop {v : List At} (hb : ∀ a ∈ v, a.id.length ≤ big) {ks : List Fr'} {K : Ex → St → Prop} (hL : v.length ≤ most) : ∀ (rest : List At) (i : Nat) (prev : Option At) (st : St), v.drop i = rest → i ≤ v.length → prevAt v i prev → st.σ 0 = lv v → st.σ 3 = iv i →
    (∀ st', chk atR At.id prev rest = false → st'.σ 2 = bv false → K .ret st') → (∀ st', st'.σ 0 = lv v → chk atR At.id prev rest = true → VN (env P) 159 st' ks K) → V (env P) 159 (.loop L159_0) st (.blk 0 :: ks) K
  | [], i, prev, st, hr, hile, hp, h0, hi, hret, hend => by
    obtain ⟨hii, hlt, hd⟩ := drop_nil hr hile
    rw [V_loop]
    simp [L159_0, h0, hi, hlt]
    exact hend _ (by simp [h0]) rfl
  | q :: rest, i, prev, st, hr, hile, hp, h0, hi, hret, hend => by
    obtain ⟨hq, hlt, hr', _⟩ := drop_cons hr
    have hm := List.mem_of_getElem? hq
    have hc := En_at hq
    have hw := wrapS (i := i) (by unfold most at hL; omega)
    have hR := r1Right_ans (P := P) (s := q.id)

    rw [V_loop]
    rcases Nat.eq_zero_or_pos i with rfl | hpos
    · obtain rfl : prev = none := hp
      simp at hw
      simp [L159_0, h0, hi, hlt, hc, hw, hR]
      repeat' (first
        | (refine VG_sp (fun h => ?_) (fun h => ?_) <;> simp [h, h0, hi, hlt, hc, hw, hR])
        | (refine VB_sp (fun h => ?_) (fun h => ?_) <;> simp [h, h0, hi, hlt, hc, hw, hR]))
      all_goals first
        | exact hret _ (by simp_all [chk, atR, vecR] <;> (intros; first | omega | (exfalso; simp_all; done) | (exfalso; simp_all; omega))) (by simp)
        | exact rVec_loop hb hL rest 1 (some q) _ hr' (by omega) (prevAt_succ hq) (by simp [h0]) (by simp [hw]) (fun st' x y => hret st' (by simp_all [chk, atR, vecR]) y) (fun st' x0 x => hend st' x0 (by simp_all [chk, atR, vecR] <;> omega))
    · obtain ⟨p, hpj, rfl⟩ := prevAt_pos hpos hp
      have hcp := En_at hpj
      have hmp := List.mem_of_getElem? hpj
      have hw1 := wrapP hpos (by unfold most at hL; omega)
      have hjl : i - 1 < v.length := by omega
      have hcmp := r1Compare_ans (P := P) (hb p hmp) (hb q hm)
      try simp at hcmp
      simp [L159_0, h0, hi, hlt, hc, hw, hR, hcp, hw1, hjl, hcmp, hpos]
      repeat' (first
        | (refine VG_sp (fun h => ?_) (fun h => ?_) <;> simp [h, h0, hi, hlt, hc, hw, hR, hcp, hw1, hjl, hcmp, hpos])
        | (refine VB_sp (fun h => ?_) (fun h => ?_) <;> simp [h, h0, hi, hlt, hc, hw, hR, hcp, hw1, hjl, hcmp, hpos]))
      all_goals first
        | exact hret _ (by simp_all [chk, atR, vecR] <;> (intros; first | omega | (exfalso; simp_all; done) | (exfalso; simp_all; omega))) (by simp)
        | exact rVec_loop hb hL rest (i + 1) (some q) _ hr' (by omega) (prevAt_succ hq) (by simp [h0]) (by simp [hw]) (fun st' x y => hret st' (by simp_all [chk, atR, vecR]) y) (fun st' x0 x => hend st' x0 (by simp_all [chk, atR, vecR] <;> omega))

theorem rVec_ans {v : List At} (hb : ∀ a ∈ v, a.id.length ≤ big) (hL : v.length ≤ most) : ans (env P) 159 [lv v] = some (bv (chk atR At.id none v)) := by
  refine ans_V rfl rfl ?_
  simp [c159]
  refine rVec_loop hb hL v 0 none _ rfl (by omega) rfl (by simp) (by simp) ?_ ?_
  · intro st' h h2; simp [h, h2]
  · intro st' _ h; simp [h]

theorem pVec_loop {v : List At} {ks : List Fr'} {K : Ex → St → Prop} (hL : v.length ≤ most) : ∀ (rest : List At) (i : Nat) (prev : Option At) (st : St), v.drop i = rest → i ≤ v.length → prevAt v i prev → st.σ 0 = lv v → st.σ 5 = lv v → st.σ 6 = iv v.length → st.σ 7 = iv i →
    (∀ st', chk atR At.id prev rest = false → st'.σ 2 = bv false → K .ret st') → (∀ st', st'.σ 0 = lv v → chk atR At.id prev rest = true → VN (env P) 151 st' ks K) → V (env P) 151 (.loop L151_0) st (.blk 0 :: ks) K
  | [], i, prev, st, hr, hile, hp, h0, h5, h6, hi, hret, hend => by
    obtain ⟨hii, hlt, hd⟩ := drop_nil hr hile
    rw [V_loop]
    simp [L151_0, h0, h5, h6, hi, hlt]
    exact hend _ (by simp [h0]) rfl
  | q :: rest, i, prev, st, hr, hile, hp, h0, h5, h6, hi, hret, hend => by
    obtain ⟨hq, hlt, hr', _⟩ := drop_cons hr
    have hm := List.mem_of_getElem? hq
    have hc := En_at hq
    have hw := wrapS (i := i) (by unfold most at hL; omega)
    have hR := idRight_ans (P := P) (s := q.id)

    rw [V_loop]
    rcases Nat.eq_zero_or_pos i with rfl | hpos
    · obtain rfl : prev = none := hp
      simp at hw
      simp [L151_0, h0, h5, h6, hi, hlt, hc, hw, hR]
      repeat' (first
        | (refine VG_sp (fun h => ?_) (fun h => ?_) <;> simp [h, h0, h5, h6, hi, hlt, hc, hw, hR])
        | (refine VB_sp (fun h => ?_) (fun h => ?_) <;> simp [h, h0, h5, h6, hi, hlt, hc, hw, hR]))
      all_goals first
        | exact hret _ (by simp_all [chk, atR, vecR] <;> (intros; first | omega | (exfalso; simp_all; done) | (exfalso; simp_all; omega))) (by simp)
        | exact pVec_loop  hL rest 1 (some q) _ hr' (by omega) (prevAt_succ hq) (by simp [h0]) (by simp [h5]) (by simp [h6]) (by simp [hw]) (fun st' x y => hret st' (by simp_all [chk, atR, vecR]) y) (fun st' x0 x => hend st' x0 (by simp_all [chk, atR, vecR] <;> omega))
    · obtain ⟨p, hpj, rfl⟩ := prevAt_pos hpos hp
      have hcp := En_at hpj
      have hmp := List.mem_of_getElem? hpj
      have hw1 := wrapP hpos (by unfold most at hL; omega)
      have hjl : i - 1 < v.length := by omega
      have hcmp := vecOrder_ans (P := P) (a := p) (b := q)
      try simp at hcmp
      simp [L151_0, h0, h5, h6, hi, hlt, hc, hw, hR, hcp, hw1, hjl, hcmp, hpos]
      repeat' (first
        | (refine VG_sp (fun h => ?_) (fun h => ?_) <;> simp [h, h0, h5, h6, hi, hlt, hc, hw, hR, hcp, hw1, hjl, hcmp, hpos])
        | (refine VB_sp (fun h => ?_) (fun h => ?_) <;> simp [h, h0, h5, h6, hi, hlt, hc, hw, hR, hcp, hw1, hjl, hcmp, hpos]))
      all_goals first
        | exact hret _ (by simp_all [chk, atR, vecR] <;> (intros; first | omega | (exfalso; simp_all; done) | (exfalso; simp_all; omega))) (by simp)
        | exact pVec_loop  hL rest (i + 1) (some q) _ hr' (by omega) (prevAt_succ hq) (by simp [h0]) (by simp [h5]) (by simp [h6]) (by simp [hw]) (fun st' x y => hret st' (by simp_all [chk, atR, vecR]) y) (fun st' x0 x => hend st' x0 (by simp_all [chk, atR, vecR] <;> omega))

theorem pVec_ans {v : List At} (hL : v.length ≤ most) : ans (env P) 151 [lv v] = some (bv (chk atR At.id none v)) := by
  refine ans_V rfl rfl ?_
  simp [c151]
  refine pVec_loop  hL v 0 none _ rfl (by omega) rfl (by simp) (by simp) (by simp) (by simp) ?_ ?_
  · intro st' h h2; simp [h, h2]
  · intro st' _ h; simp [h]

end Go.Evl.Zone


/- Spans: are they right? -/
namespace Go.Evl.Zone
open Go Go.Evl
set_option linter.unusedSimpArgs false
set_option linter.unusedVariables false
variable {P : Program}

def spanR (u : Int) (l : List Int) : Bool := decide (0 ≤ u) && decide (u ≤ 1048576) && decide (l.length ≤ 4096) && go (u + 1) l
where go : Int → List Int → Bool
  | _, [] => true
  | last, n :: r => decide (last < n) && decide (n ≤ 1048576) && go n r
def spanC (u : Int) (l : List Int) : Int := IntKind.i64.wrap (u + l.length)
def krowR (r : KRow) : Bool := idR r.id && spanR r.upto r.extra && decide (1 ≤ spanC r.upto r.extra)
def knowR (k : List KRow) : Bool := chk krowR KRow.id none k
def mrowR (r : MRow) : Bool := idR r.id && vecR r.vec && decide (1 ≤ r.vec.length)
def matR (m : List MRow) : Bool := chk mrowR MRow.id none m

theorem r2Count_ans {u : Int} {l : List Int} : ans (env P) 226 [.agg [iv u, lv l]] = some (iv (spanC u l)) := by
  refine ans_V rfl rfl ?_
  simp [c226, spanC]

theorem spanCount_ans {u : Int} {l : List Int} : ans (env P) 214 [.agg [iv u, lv l]] = some (iv (spanC u l)) := by
  refine ans_V rfl rfl ?_
  simp [c214, spanC]

theorem r2Right_loop {u : Int} {l : List Int} {ks : List Fr'} {K : Ex → St → Prop} (hu : 0 ≤ u ∧ u ≤ 1048576) (hL : l.length ≤ most) : ∀ (rest : List Int) (i : Nat) (last : Int) (st : St), l.drop i = rest → i ≤ l.length → (i = 0 → last = u + 1) → (0 < i → u + 1 < last) → last ≤ 1048577 → (∃ p, st.σ 1 = .ptr p 0 ∧ st.h.at_ p = .box [iv u, lv l] ∧ p < st.h.n) → st.σ 4 = iv i → st.σ 3 = iv last →
    (∀ st', spanR.go last rest = false → st'.σ 2 = bv false → K .ret st') → (∀ st', spanR.go last rest = true → VN (env P) 225 st' ks K) → V (env P) 225 (.loop L225_0) st (.blk 0 :: ks) K
  | [], i, last, st, hr, hile, hz, hp0, hl, ⟨p, h1, hp, hpn⟩, hi, h3, hret, hend => by
    obtain ⟨hii, hlt, hd⟩ := drop_nil hr hile
    rw [V_loop]
    simp [L225_0, h1, hp, hpn, hi, h3, hlt]
    exact hend _ rfl
  | q :: rest, i, last, st, hr, hile, hz, hp0, hl, ⟨p, h1, hp, hpn⟩, hi, h3, hret, hend => by
    obtain ⟨hq, hlt, hr', _⟩ := drop_cons hr
    have hc := En_at hq
    have hw := wrapS (i := i) (by unfold most at hL; omega)
    have hwu : IntKind.i64.wrap (u + 1) = u + 1 := wrap64_id (by omega)
    rw [V_loop]
    simp [L225_0, h1, hp, hpn, hi, h3, hlt, hc, hw, hwu]
    repeat' (first
      | (refine VG_sp (fun h => ?_) (fun h => ?_) <;> simp [h, h1, hp, hpn, hi, h3, hlt, hc, hw, hwu])
      | (refine VB_sp (fun h => ?_) (fun h => ?_) <;> simp [h, h1, hp, hpn, hi, h3, hlt, hc, hw, hwu]))
    all_goals simp only [decide_eq_true_eq, decide_eq_false_iff_not, Bool.or_eq_false_iff, Bool.or_eq_true, Bool.and_eq_true, Bool.and_eq_false_iff] at *
    all_goals first
      | exact hret _ (by simp [spanR.go]; omega) (by simp)
      | exact r2Right_loop hu hL rest (i + 1) q _ hr' (by omega) (by omega) (by intro _; by_cases hi0 : i = 0; (have := hz hi0; omega); (have := hp0 (by omega); omega)) (by omega) ⟨p, by simp [h1], by simp [hp, hpn], by simp; omega⟩  (by simp [hw]) (by simp) (fun st' x y => hret st' (by simp only [spanR.go, Bool.and_eq_false_iff]; exact .inr x) y) (fun st' x => hend st' (by simp only [spanR.go, x, Bool.and_true, Bool.and_eq_true, decide_eq_true_eq]; omega))

theorem spanRight_loop {u : Int} {l : List Int} {ks : List Fr'} {K : Ex → St → Prop} (hu : 0 ≤ u ∧ u ≤ 1048576) (hL : l.length ≤ most) : ∀ (rest : List Int) (i : Nat) (last : Int) (st : St), l.drop i = rest → i ≤ l.length → (i = 0 → last = u + 1) → (0 < i → u + 1 < last) → last ≤ 1048577 → st.σ 24 = lv l → st.σ 25 = iv l.length → st.σ 26 = iv i → st.σ 3 = iv last →
    (∀ st', spanR.go last rest = false → st'.σ 2 = bv false → K .ret st') → (∀ st', spanR.go last rest = true → VN (env P) 213 st' ks K) → V (env P) 213 (.loop L213_0) st (.blk 0 :: ks) K
  | [], i, last, st, hr, hile, hz, hp0, hl, h24, h25, hi, h3, hret, hend => by
    obtain ⟨hii, hlt, hd⟩ := drop_nil hr hile
    rw [V_loop]
    simp [L213_0, h24, h25, hi, h3, hlt]
    exact hend _ rfl
  | q :: rest, i, last, st, hr, hile, hz, hp0, hl, h24, h25, hi, h3, hret, hend => by
    obtain ⟨hq, hlt, hr', _⟩ := drop_cons hr
    have hc := En_at hq
    have hw := wrapS (i := i) (by unfold most at hL; omega)
    have hwu : IntKind.i64.wrap (u + 1) = u + 1 := wrap64_id (by omega)
    rw [V_loop]
    simp [L213_0, h24, h25, hi, h3, hlt, hc, hw, hwu]
    repeat' (first
      | (refine VG_sp (fun h => ?_) (fun h => ?_) <;> simp [h, h24, h25, hi, h3, hlt, hc, hw, hwu])
      | (refine VB_sp (fun h => ?_) (fun h => ?_) <;> simp [h, h24, h25, hi, h3, hlt, hc, hw, hwu]))
    all_goals simp only [decide_eq_true_eq, decide_eq_false_iff_not, Bool.or_eq_false_iff, Bool.or_eq_true, Bool.and_eq_true, Bool.and_eq_false_iff] at *
    all_goals first
      | exact hret _ (by simp [spanR.go]; omega) (by simp)
      | exact spanRight_loop hu hL rest (i + 1) q _ hr' (by omega) (by omega) (by intro _; by_cases hi0 : i = 0; (have := hz hi0; omega); (have := hp0 (by omega); omega)) (by omega) (by simp [h24]) (by simp [h25]) (by simp [hw]) (by simp) (fun st' x y => hret st' (by simp only [spanR.go, Bool.and_eq_false_iff]; exact .inr x) y) (fun st' x => hend st' (by simp only [spanR.go, x, Bool.and_true, Bool.and_eq_true, decide_eq_true_eq]; omega))

theorem r2Right_ans {u : Int} {l : List Int} (hL : l.length ≤ most) : ans (env P) 225 [.agg [iv u, lv l]] = some (bv (spanR u l)) := by
  refine ans_V rfl rfl ?_
  by_cases hu : 0 ≤ u ∧ u ≤ 1048576
  · have hw : IntKind.i64.wrap (u + 1) = u + 1 := wrap64_id (by omega)
    have a1 : ¬ u < 0 := by omega
    have a2 : ¬ (1048576 : Int) < u := by omega
    by_cases a3 : (4096 : Int) < l.length
    · have a4 : ¬ l.length ≤ 4096 := by omega
      simp [c225, a1, a2, a3, spanR, a4]
    · have a4 : l.length ≤ 4096 := by omega
      simp [c225, a1, a2, a3, hw]
      refine r2Right_loop hu hL l 0 (u + 1) _ rfl (by omega) (fun _ => rfl) (by omega) (by omega) ⟨_, rfl, by simp, by simp⟩ (by simp) (by simp [hw]) ?_ ?_
      · intro st' h h2; simp [h2, spanR, h]
      · intro st' h; simp [spanR, h, hu.1, hu.2, a4]
  · by_cases a1 : u < 0
    · have a2 : ¬ 0 ≤ u := by omega
      simp [c225, a1, spanR, a2]
    · have a2 : (1048576 : Int) < u := by omega
      have a3 : ¬ u ≤ 1048576 := by omega
      simp [c225, a1, a2, spanR, a3]

theorem spanRight_ans {u : Int} {l : List Int} (hL : l.length ≤ most) : ans (env P) 213 [.agg [iv u, lv l]] = some (bv (spanR u l)) := by
  refine ans_V rfl rfl ?_
  by_cases hu : 0 ≤ u ∧ u ≤ 1048576
  · have hw : IntKind.i64.wrap (u + 1) = u + 1 := wrap64_id (by omega)
    have a1 : ¬ u < 0 := by omega
    have a2 : ¬ (1048576 : Int) < u := by omega
    by_cases a3 : (4096 : Int) < l.length
    · have a4 : ¬ l.length ≤ 4096 := by omega
      simp [c213, a1, a2, a3, spanR, a4]
    · have a4 : l.length ≤ 4096 := by omega
      simp [c213, a1, a2, a3, hw]
      refine spanRight_loop hu hL l 0 (u + 1) _ rfl (by omega) (fun _ => rfl) (by omega) (by omega) (by simp) (by simp) (by simp) (by simp [hw]) ?_ ?_
      · intro st' h h2; simp [h2, spanR, h]
      · intro st' h; simp [spanR, h, hu.1, hu.2, a4]
  · by_cases a1 : u < 0
    · have a2 : ¬ 0 ≤ u := by omega
      simp [c213, a1, spanR, a2]
    · have a2 : (1048576 : Int) < u := by omega
      have a3 : ¬ u ≤ 1048576 := by omega
      simp [c213, a1, a2, spanR, a3]

end Go.Evl.Zone


/- Knows and matrices: are they right? -/
namespace Go.Evl.Zone
open Go Go.Evl
set_option linter.unusedSimpArgs false
set_option linter.unusedVariables false
variable {P : Program}

theorem knowOrder_ans {a b : KRow} : ans (env P) 215 [.agg (Enc.c a), .agg (Enc.c b)] = some (iv (cmpB a.id b.id)) := by
  refine ans_V rfl rfl ?_
  have h := idCompare_ans (P := P) (a := a.id) (b := b.id)
  simp [c215, h]

theorem matOrder_ans {a b : MRow} : ans (env P) 253 [.agg (Enc.c a), .agg (Enc.c b)] = some (iv (cmpB a.id b.id)) := by
  refine ans_V rfl rfl ?_
  have h := idCompare_ans (P := P) (a := a.id) (b := b.id)
  simp [c253, h]

theorem spanC_nn {u : Int} {l : List Int} (h : spanR u l = true) : 0 ≤ spanC u l := by
  simp [spanR] at h
  unfold spanC
  rw [wrap64_id (by omega)]; omega

theorem rKnow_loop {v : List KRow} (hb : ∀ a ∈ v, a.id.length ≤ big) (he : ∀ a ∈ v, a.extra.length ≤ most) {ks : List Fr'} {K : Ex → St → Prop} (hL : v.length ≤ most) : ∀ (rest : List KRow) (i : Nat) (prev : Option KRow) (st : St), v.drop i = rest → i ≤ v.length → prevAt v i prev → st.σ 0 = lv v → st.σ 3 = iv i →
    (∀ st', chk krowR KRow.id prev rest = false → st'.σ 2 = bv false → K .ret st') → (∀ st', st'.σ 0 = lv v → chk krowR KRow.id prev rest = true → VN (env P) 154 st' ks K) → V (env P) 154 (.loop L154_0) st (.blk 0 :: ks) K
  | [], i, prev, st, hr, hile, hp, h0, hi, hret, hend => by
    obtain ⟨hii, hlt, hd⟩ := drop_nil hr hile
    rw [V_loop]
    simp [L154_0, h0, hi, hlt]
    exact hend _ (by simp [h0]) rfl
  | q :: rest, i, prev, st, hr, hile, hp, h0, hi, hret, hend => by
    obtain ⟨hq, hlt, hr', _⟩ := drop_cons hr
    have hm := List.mem_of_getElem? hq
    have hc := En_at hq
    have hw := wrapS (i := i) (by unfold most at hL; omega)
    have hR := r1Right_ans (P := P) (s := q.id)
    have hS := r2Right_ans (P := P) (u := q.upto) (l := q.extra) (he q hm)
    have hC := r2Count_ans (P := P) (u := q.upto) (l := q.extra)
    rw [V_loop]
    rcases Nat.eq_zero_or_pos i with rfl | hpos
    · obtain rfl : prev = none := hp
      simp at hw
      simp [L154_0, h0, hi, hlt, hc, hw, hR, hS, hC]
      repeat' (first
        | (refine VG_sp (fun h => ?_) (fun h => ?_) <;> simp [h, h0, hi, hlt, hc, hw, hR, hS, hC])
        | (refine VB_sp (fun h => ?_) (fun h => ?_) <;> simp [h, h0, hi, hlt, hc, hw, hR, hS, hC]))
      all_goals first
        | exact hret _ (by simp_all [chk, krowR, vecR] <;> (intros; first | omega | (exfalso; simp_all; done) | (exfalso; simp_all; omega))) (by simp)
        | exact rKnow_loop hb he hL rest 1 (some q) _ hr' (by omega) (prevAt_succ hq) (by simp [h0]) (by simp [hw]) (fun st' x y => hret st' (by simp_all [chk, krowR, vecR]) y) (fun st' x0 x => hend st' x0 (by simp_all [chk, krowR, vecR] <;> omega))
    · obtain ⟨p, hpj, rfl⟩ := prevAt_pos hpos hp
      have hcp := En_at hpj
      have hmp := List.mem_of_getElem? hpj
      have hw1 := wrapP hpos (by unfold most at hL; omega)
      have hjl : i - 1 < v.length := by omega
      have hcmp := r1Compare_ans (P := P) (hb p hmp) (hb q hm)
      try simp at hcmp
      simp [L154_0, h0, hi, hlt, hc, hw, hR, hS, hC, hcp, hw1, hjl, hcmp, hpos]
      repeat' (first
        | (refine VG_sp (fun h => ?_) (fun h => ?_) <;> simp [h, h0, hi, hlt, hc, hw, hR, hS, hC, hcp, hw1, hjl, hcmp, hpos])
        | (refine VB_sp (fun h => ?_) (fun h => ?_) <;> simp [h, h0, hi, hlt, hc, hw, hR, hS, hC, hcp, hw1, hjl, hcmp, hpos]))
      all_goals first
        | exact hret _ (by simp_all [chk, krowR, vecR] <;> (intros; first | omega | (exfalso; simp_all; done) | (exfalso; simp_all; omega))) (by simp)
        | exact rKnow_loop hb he hL rest (i + 1) (some q) _ hr' (by omega) (prevAt_succ hq) (by simp [h0]) (by simp [hw]) (fun st' x y => hret st' (by simp_all [chk, krowR, vecR]) y) (fun st' x0 x => hend st' x0 (by simp_all [chk, krowR, vecR] <;> omega))

theorem rKnow_ans {v : List KRow} (hb : ∀ a ∈ v, a.id.length ≤ big) (he : ∀ a ∈ v, a.extra.length ≤ most) (hL : v.length ≤ most) : ans (env P) 154 [lv v] = some (bv (chk krowR KRow.id none v)) := by
  refine ans_V rfl rfl ?_
  simp [c154]
  refine rKnow_loop hb he hL v 0 none _ rfl (by omega) rfl (by simp) (by simp) ?_ ?_
  · intro st' h h2; simp [h, h2]
  · intro st' _ h; simp [h]

theorem pKnow_loop {v : List KRow} (he : ∀ a ∈ v, a.extra.length ≤ most) {ks : List Fr'} {K : Ex → St → Prop} (hL : v.length ≤ most) : ∀ (rest : List KRow) (i : Nat) (prev : Option KRow) (st : St), v.drop i = rest → i ≤ v.length → prevAt v i prev → st.σ 0 = lv v → st.σ 5 = lv v → st.σ 6 = iv v.length → st.σ 7 = iv i →
    (∀ st', chk krowR KRow.id prev rest = false → st'.σ 2 = bv false → K .ret st') → (∀ st', st'.σ 0 = lv v → chk krowR KRow.id prev rest = true → VN (env P) 145 st' ks K) → V (env P) 145 (.loop L145_0) st (.blk 0 :: ks) K
  | [], i, prev, st, hr, hile, hp, h0, h5, h6, hi, hret, hend => by
    obtain ⟨hii, hlt, hd⟩ := drop_nil hr hile
    rw [V_loop]
    simp [L145_0, h0, h5, h6, hi, hlt]
    exact hend _ (by simp [h0]) rfl
  | q :: rest, i, prev, st, hr, hile, hp, h0, h5, h6, hi, hret, hend => by
    obtain ⟨hq, hlt, hr', _⟩ := drop_cons hr
    have hm := List.mem_of_getElem? hq
    have hc := En_at hq
    have hw := wrapS (i := i) (by unfold most at hL; omega)
    have hR := idRight_ans (P := P) (s := q.id)
    have hS := spanRight_ans (P := P) (u := q.upto) (l := q.extra) (he q hm)
    have hC := spanCount_ans (P := P) (u := q.upto) (l := q.extra)
    have hC0 := @spanC_nn q.upto q.extra
    rw [V_loop]
    rcases Nat.eq_zero_or_pos i with rfl | hpos
    · obtain rfl : prev = none := hp
      simp at hw
      simp [L145_0, h0, h5, h6, hi, hlt, hc, hw, hR, hS, hC]
      repeat' (first
        | (refine VG_sp (fun h => ?_) (fun h => ?_) <;> simp [h, h0, h5, h6, hi, hlt, hc, hw, hR, hS, hC])
        | (refine VB_sp (fun h => ?_) (fun h => ?_) <;> simp [h, h0, h5, h6, hi, hlt, hc, hw, hR, hS, hC]))
      all_goals first
        | exact hret _ (by simp_all [chk, krowR, vecR] <;> (intros; first | omega | (exfalso; simp_all; done) | (exfalso; simp_all; omega))) (by simp)
        | exact pKnow_loop he hL rest 1 (some q) _ hr' (by omega) (prevAt_succ hq) (by simp [h0]) (by simp [h5]) (by simp [h6]) (by simp [hw]) (fun st' x y => hret st' (by simp_all [chk, krowR, vecR]) y) (fun st' x0 x => hend st' x0 (by simp_all [chk, krowR, vecR] <;> omega))
    · obtain ⟨p, hpj, rfl⟩ := prevAt_pos hpos hp
      have hcp := En_at hpj
      have hmp := List.mem_of_getElem? hpj
      have hw1 := wrapP hpos (by unfold most at hL; omega)
      have hjl : i - 1 < v.length := by omega
      have hcmp := knowOrder_ans (P := P) (a := p) (b := q)
      try simp at hcmp
      simp [L145_0, h0, h5, h6, hi, hlt, hc, hw, hR, hS, hC, hcp, hw1, hjl, hcmp, hpos]
      repeat' (first
        | (refine VG_sp (fun h => ?_) (fun h => ?_) <;> simp [h, h0, h5, h6, hi, hlt, hc, hw, hR, hS, hC, hcp, hw1, hjl, hcmp, hpos])
        | (refine VB_sp (fun h => ?_) (fun h => ?_) <;> simp [h, h0, h5, h6, hi, hlt, hc, hw, hR, hS, hC, hcp, hw1, hjl, hcmp, hpos]))
      all_goals first
        | exact hret _ (by simp_all [chk, krowR, vecR] <;> (intros; first | omega | (exfalso; simp_all; done) | (exfalso; simp_all; omega))) (by simp)
        | exact pKnow_loop he hL rest (i + 1) (some q) _ hr' (by omega) (prevAt_succ hq) (by simp [h0]) (by simp [h5]) (by simp [h6]) (by simp [hw]) (fun st' x y => hret st' (by simp_all [chk, krowR, vecR]) y) (fun st' x0 x => hend st' x0 (by simp_all [chk, krowR, vecR] <;> omega))

theorem pKnow_ans {v : List KRow} (he : ∀ a ∈ v, a.extra.length ≤ most) (hL : v.length ≤ most) : ans (env P) 145 [lv v] = some (bv (chk krowR KRow.id none v)) := by
  refine ans_V rfl rfl ?_
  simp [c145]
  refine pKnow_loop he hL v 0 none _ rfl (by omega) rfl (by simp) (by simp) (by simp) (by simp) ?_ ?_
  · intro st' h h2; simp [h, h2]
  · intro st' _ h; simp [h]

theorem rMat_loop {v : List MRow} (hb : ∀ a ∈ v, a.id.length ≤ big) (he : ∀ a ∈ v, a.vec.length ≤ most) (hv : ∀ a ∈ v, ∀ x ∈ a.vec, x.id.length ≤ big) {ks : List Fr'} {K : Ex → St → Prop} (hL : v.length ≤ most) : ∀ (rest : List MRow) (i : Nat) (prev : Option MRow) (st : St), v.drop i = rest → i ≤ v.length → prevAt v i prev → st.σ 0 = lv v → st.σ 3 = iv i →
    (∀ st', chk mrowR MRow.id prev rest = false → st'.σ 2 = bv false → K .ret st') → (∀ st', st'.σ 0 = lv v → chk mrowR MRow.id prev rest = true → VN (env P) 155 st' ks K) → V (env P) 155 (.loop L155_0) st (.blk 0 :: ks) K
  | [], i, prev, st, hr, hile, hp, h0, hi, hret, hend => by
    obtain ⟨hii, hlt, hd⟩ := drop_nil hr hile
    rw [V_loop]
    simp [L155_0, h0, hi, hlt]
    exact hend _ (by simp [h0]) rfl
  | q :: rest, i, prev, st, hr, hile, hp, h0, hi, hret, hend => by
    obtain ⟨hq, hlt, hr', _⟩ := drop_cons hr
    have hm := List.mem_of_getElem? hq
    have hc := En_at hq
    have hw := wrapS (i := i) (by unfold most at hL; omega)
    have hR := r1Right_ans (P := P) (s := q.id)
    have hS := rVec_ans (P := P) (v := q.vec) (hv q hm) (he q hm)
    rw [V_loop]
    rcases Nat.eq_zero_or_pos i with rfl | hpos
    · obtain rfl : prev = none := hp
      simp at hw
      simp [L155_0, h0, hi, hlt, hc, hw, hR, hS]
      repeat' (first
        | (refine VG_sp (fun h => ?_) (fun h => ?_) <;> simp [h, h0, hi, hlt, hc, hw, hR, hS])
        | (refine VB_sp (fun h => ?_) (fun h => ?_) <;> simp [h, h0, hi, hlt, hc, hw, hR, hS]))
      all_goals first
        | exact hret _ (by simp_all [chk, mrowR, vecR] <;> (intros; first | omega | (exfalso; simp_all; done) | (exfalso; simp_all; omega))) (by simp)
        | exact rMat_loop hb he hv hL rest 1 (some q) _ hr' (by omega) (prevAt_succ hq) (by simp [h0]) (by simp [hw]) (fun st' x y => hret st' (by simp_all [chk, mrowR, vecR]) y) (fun st' x0 x => hend st' x0 (by simp_all [chk, mrowR, vecR] <;> omega))
    · obtain ⟨p, hpj, rfl⟩ := prevAt_pos hpos hp
      have hcp := En_at hpj
      have hmp := List.mem_of_getElem? hpj
      have hw1 := wrapP hpos (by unfold most at hL; omega)
      have hjl : i - 1 < v.length := by omega
      have hcmp := r1Compare_ans (P := P) (hb p hmp) (hb q hm)
      try simp at hcmp
      simp [L155_0, h0, hi, hlt, hc, hw, hR, hS, hcp, hw1, hjl, hcmp, hpos]
      repeat' (first
        | (refine VG_sp (fun h => ?_) (fun h => ?_) <;> simp [h, h0, hi, hlt, hc, hw, hR, hS, hcp, hw1, hjl, hcmp, hpos])
        | (refine VB_sp (fun h => ?_) (fun h => ?_) <;> simp [h, h0, hi, hlt, hc, hw, hR, hS, hcp, hw1, hjl, hcmp, hpos]))
      all_goals first
        | exact hret _ (by simp_all [chk, mrowR, vecR] <;> (intros; first | omega | (exfalso; simp_all; done) | (exfalso; simp_all; omega))) (by simp)
        | exact rMat_loop hb he hv hL rest (i + 1) (some q) _ hr' (by omega) (prevAt_succ hq) (by simp [h0]) (by simp [hw]) (fun st' x y => hret st' (by simp_all [chk, mrowR, vecR]) y) (fun st' x0 x => hend st' x0 (by simp_all [chk, mrowR, vecR] <;> omega))

theorem rMat_ans {v : List MRow} (hb : ∀ a ∈ v, a.id.length ≤ big) (he : ∀ a ∈ v, a.vec.length ≤ most) (hv : ∀ a ∈ v, ∀ x ∈ a.vec, x.id.length ≤ big) (hL : v.length ≤ most) : ans (env P) 155 [lv v] = some (bv (chk mrowR MRow.id none v)) := by
  refine ans_V rfl rfl ?_
  simp [c155]
  refine rMat_loop hb he hv hL v 0 none _ rfl (by omega) rfl (by simp) (by simp) ?_ ?_
  · intro st' h h2; simp [h, h2]
  · intro st' _ h; simp [h]

theorem pMat_loop {v : List MRow} (he : ∀ a ∈ v, a.vec.length ≤ most) {ks : List Fr'} {K : Ex → St → Prop} (hL : v.length ≤ most) : ∀ (rest : List MRow) (i : Nat) (prev : Option MRow) (st : St), v.drop i = rest → i ≤ v.length → prevAt v i prev → st.σ 0 = lv v → st.σ 5 = lv v → st.σ 6 = iv v.length → st.σ 7 = iv i →
    (∀ st', chk mrowR MRow.id prev rest = false → st'.σ 2 = bv false → K .ret st') → (∀ st', st'.σ 0 = lv v → chk mrowR MRow.id prev rest = true → VN (env P) 217 st' ks K) → V (env P) 217 (.loop L217_0) st (.blk 0 :: ks) K
  | [], i, prev, st, hr, hile, hp, h0, h5, h6, hi, hret, hend => by
    obtain ⟨hii, hlt, hd⟩ := drop_nil hr hile
    rw [V_loop]
    simp [L217_0, h0, h5, h6, hi, hlt]
    exact hend _ (by simp [h0]) rfl
  | q :: rest, i, prev, st, hr, hile, hp, h0, h5, h6, hi, hret, hend => by
    obtain ⟨hq, hlt, hr', _⟩ := drop_cons hr
    have hm := List.mem_of_getElem? hq
    have hc := En_at hq
    have hw := wrapS (i := i) (by unfold most at hL; omega)
    have hR := idRight_ans (P := P) (s := q.id)
    have hS := pVec_ans (P := P) (v := q.vec) (he q hm)
    have hne : ¬ q.vec = [] → 1 ≤ q.vec.length := fun h => List.length_pos_iff.2 h
    rw [V_loop]
    rcases Nat.eq_zero_or_pos i with rfl | hpos
    · obtain rfl : prev = none := hp
      simp at hw
      simp [L217_0, h0, h5, h6, hi, hlt, hc, hw, hR, hS]
      repeat' (first
        | (refine VG_sp (fun h => ?_) (fun h => ?_) <;> simp [h, h0, h5, h6, hi, hlt, hc, hw, hR, hS])
        | (refine VB_sp (fun h => ?_) (fun h => ?_) <;> simp [h, h0, h5, h6, hi, hlt, hc, hw, hR, hS]))
      all_goals first
        | exact hret _ (by simp_all [chk, mrowR, vecR] <;> (intros; first | omega | (exfalso; simp_all; done) | (exfalso; simp_all; omega))) (by simp)
        | exact pMat_loop he hL rest 1 (some q) _ hr' (by omega) (prevAt_succ hq) (by simp [h0]) (by simp [h5]) (by simp [h6]) (by simp [hw]) (fun st' x y => hret st' (by simp_all [chk, mrowR, vecR]) y) (fun st' x0 x => hend st' x0 (by simp_all [chk, mrowR, vecR] <;> omega))
    · obtain ⟨p, hpj, rfl⟩ := prevAt_pos hpos hp
      have hcp := En_at hpj
      have hmp := List.mem_of_getElem? hpj
      have hw1 := wrapP hpos (by unfold most at hL; omega)
      have hjl : i - 1 < v.length := by omega
      have hcmp := matOrder_ans (P := P) (a := p) (b := q)
      try simp at hcmp
      simp [L217_0, h0, h5, h6, hi, hlt, hc, hw, hR, hS, hcp, hw1, hjl, hcmp, hpos]
      repeat' (first
        | (refine VG_sp (fun h => ?_) (fun h => ?_) <;> simp [h, h0, h5, h6, hi, hlt, hc, hw, hR, hS, hcp, hw1, hjl, hcmp, hpos])
        | (refine VB_sp (fun h => ?_) (fun h => ?_) <;> simp [h, h0, h5, h6, hi, hlt, hc, hw, hR, hS, hcp, hw1, hjl, hcmp, hpos]))
      all_goals first
        | exact hret _ (by simp_all [chk, mrowR, vecR] <;> (intros; first | omega | (exfalso; simp_all; done) | (exfalso; simp_all; omega))) (by simp)
        | exact pMat_loop he hL rest (i + 1) (some q) _ hr' (by omega) (prevAt_succ hq) (by simp [h0]) (by simp [h5]) (by simp [h6]) (by simp [hw]) (fun st' x y => hret st' (by simp_all [chk, mrowR, vecR]) y) (fun st' x0 x => hend st' x0 (by simp_all [chk, mrowR, vecR] <;> omega))

theorem pMat_ans {v : List MRow} (he : ∀ a ∈ v, a.vec.length ≤ most) (hL : v.length ≤ most) : ans (env P) 217 [lv v] = some (bv (chk mrowR MRow.id none v)) := by
  refine ans_V rfl rfl ?_
  simp [c217]
  refine pMat_loop he hL v 0 none _ rfl (by omega) rfl (by simp) (by simp) (by simp) (by simp) ?_ ?_
  · intro st' h h2; simp [h, h2]
  · intro st' _ h; simp [h]

end Go.Evl.Zone


/- Structs that are compared. -/
namespace Go.Evl.Zone
open Go Go.Evl Go.Evl.Fl
set_option linter.unusedSimpArgs false
set_option linter.unusedVariables false
variable {P : Program}

/-- A struct's fields: their types and places. -/
structure Sty (P : Program) (t : TypeId) (L : List (TypeId × Nat)) : Prop where
  fs : ∃ fs : Array Field, P.underlying t = some (.struct fs) ∧ fs.toList.map (fun f => (f.type, f.offset)) = L ∧ (fs.toList.all fun f => f.name != "_") = true
  held : P.stoodInHeld t = false
  guard : P.eqGuardType P.depth t = false

theorem eqFields_all {d : Nat} {xs ys : Array Value} (r : TypeId × Nat → Bool) : ∀ (fs : List Field), (fs.all fun f => f.name != "_") = true →
    (∀ f ∈ fs, ∃ a b, pureRun P (part f.type xs f.offset) = some a ∧ pureRun P (part f.type ys f.offset) = some b ∧ pureRun P (Op.equalIn d f.type a b) = some (r (f.type, f.offset))) →
    pureRun P (Op.eqFields d xs ys fs) = some ((fs.map fun f => (f.type, f.offset)).all r)
  | [], _, _ => rfl
  | f :: fs, hn, h => by
    simp only [List.all_cons, Bool.and_eq_true, bne, Bool.not_eq_true'] at hn
    obtain ⟨a, b, h1, h2, h3⟩ := h f (by simp)
    exact pureRun_eqCons hn.1 h1 h2 h3 (eqFields_all r fs hn.2 fun g hg => h g (by simp [hg]))

theorem sty_eql {t : TypeId} {L : List (TypeId × Nat)} {cx cy : Bool} {xs ys : List PV} {vs us : List Value} (S : Sty P t L) (r : TypeId × Nat → Bool) (hx : toVs xs = some vs) (hy : toVs ys = some us)
    (h : ∀ p ∈ L, ∃ a b, pureRun P (part p.1 vs.toArray p.2) = some a ∧ pureRun P (part p.1 us.toArray p.2) = some b ∧ pureRun P (Op.equalIn 9999 p.1 a b) = some (r p)) :
    evBin P .eql t cx cy (.agg xs) (.agg ys) = some (bv (L.all r)) ∧ evBin P .neq t cx cy (.agg xs) (.agg ys) = some (bv (!L.all r)) := by
  obtain ⟨fs, ht, hf, hn⟩ := S.fs
  refine evBin_struct_eql ht S.held S.guard hx hy ?_
  rw [eqFields_all r fs.toList hn, hf]
  intro f hfm
  exact h (f.type, f.offset) (by rw [← hf]; exact List.mem_map.2 ⟨f, hfm, rfl⟩)

theorem evBin_bb {t : TypeId} {cx cy : Bool} {a b : Bool} (h : P.underlying t = some .bool) : evBin P .eql t cx cy (.val (.bool a)) (.val (.bool b)) = some (.val (.bool (a == b))) := by
  simp only [evBin, toV, scal, pureRun_bind]
  have h1 : pureRun P (eqGuard .eql t (if cx then .const (.bool a) else .tmp 0) (if cy then .const (.bool b) else .tmp 0) (.bool a) (.bool b)) = some () := by
    unfold eqGuard
    cases cx <;> cases cy <;> rfl
  rw [h1]
  simp only [Option.bind_some]
  simp only [binOp, pureRun_bind]
  have h2 : pureRun P (Op.equal t (.bool a) (.bool b)) = some (a == b) := by
    unfold Op.equal
    rw [show Op.maxDepth = (Op.maxDepth - 1) + 1 from rfl, Op.equalIn]
    simp only [pureRun_bind, pureRun_under, h, Option.bind_some]
    rfl
  rw [h2]
  simp only [Option.bind_some]
  rfl


end Go.Evl.Zone


/- Items: are they right? -/
namespace Go.Evl.Zone
open Go Go.Evl
set_option linter.unusedSimpArgs false
set_option linter.unusedVariables false
variable {P : Program}

open Go.Evl.Fl
/-- What is written, and by whom. -/
structure Item where
  key : Int
  id : Bytes
  seq : Int
  stamp : Int
  dead : Bool
  x : Int
  y : Int
  text : Bytes
  held : Bool
  deriving DecidableEq

abbrev fw (n : Int) : Nat := FloatKind.f64.nearest n
abbrev cw (x y : Int) : PV := .val (.complex .f64 (fw x) (fw y))

/-- As the program has it; as the document has it. -/
abbrev itP (q : Item) : List PV := [iv q.key, sv q.id, iv q.seq, iv q.stamp, bv q.dead, cw q.x q.y, sv q.text, bv q.held]
abbrev itR (q : Item) : List PV := [iv q.key, sv q.id, iv q.seq, iv q.stamp, bv q.dead, iv q.x, iv q.y, sv q.text, bv q.held]
def EnP (l : List Item) : List (List PV) := l.map itP
abbrev lvP (l : List Item) : PV := .im (EnP l) false
@[simp] theorem EnP_length (l : List Item) : (EnP l).length = l.length := by simp [EnP]
@[simp] theorem EnP_nil : EnP [] = [] := rfl
theorem EnP_append (a b : List Item) : EnP (a ++ b) = EnP a ++ EnP b := by simp [EnP]
@[simp] theorem allLen_EnP (l : List Item) : allLen 8 (EnP l) = true := by
  rw [allLen_iff]
  intro x hx
  simp only [EnP, List.mem_map] at hx
  obtain ⟨a, _, rfl⟩ := hx
  rfl
theorem plainss_EnP (l : List Item) : plainss (EnP l) = some (EnP l) := plainss_ok fun y hy => by
  simp only [EnP, List.mem_map] at hy
  obtain ⟨a, _, rfl⟩ := hy
  rfl
theorem EnP_at {l : List Item} {i : Nat} {q : Item} (h : l[i]? = some q) : ∀ hi, (EnP l)[i]'hi = itP q := fun hi => by
  have h2 := (List.getElem?_eq_some_iff.1 h).2
  simp only [EnP, List.getElem_map, h2]
def EnR (l : List Item) : List (List PV) := l.map itR
abbrev lvR (l : List Item) : PV := .im (EnR l) false
@[simp] theorem EnR_length (l : List Item) : (EnR l).length = l.length := by simp [EnR]
@[simp] theorem EnR_nil : EnR [] = [] := rfl
@[simp] theorem allLen_EnR (l : List Item) : allLen 9 (EnR l) = true := by
  rw [allLen_iff]
  intro x hx
  simp only [EnR, List.mem_map] at hx
  obtain ⟨a, _, rfl⟩ := hx
  rfl
theorem EnR_at {l : List Item} {i : Nat} {q : Item} (h : l[i]? = some q) : ∀ hi, (EnR l)[i]'hi = itR q := fun hi => by
  have h2 := (List.getElem?_eq_some_iff.1 h).2
  simp only [EnR, List.getElem_map, h2]
def smI (n : Int) : Prop := -1099511627776 ≤ n ∧ n ≤ 1099511627776
def Item.sm (q : Item) : Prop := smI q.x ∧ smI q.y
theorem sm_is {n : Int} (h : smI n) : Is (fw n) n := Is.nearest (by unfold smI at h; omega)
theorem is00 : Is 0 0 := is_const (n := 0) (by decide +kernel) (by decide)

def verR (q : Item) : Bool := idR q.id && decide (1 ≤ q.seq) && decide (q.seq ≤ 1048576) && decide (1 ≤ q.stamp) && decide (q.stamp ≤ 1048576)
def itemR (q : Item) : Bool := decide (0 ≤ q.key) && decide (q.key ≤ 31) && verR q && near q.x && near q.y && decide (q.text.length ≤ 16) && !(q.dead && (decide (¬ (q.x = 0 ∧ q.y = 0)) || q.held)) && (q.held || decide (q.text = []))

theorem order_is {a b : Nat} {m n : Int} (ha : Is a m) (hb : Is b n) : (FloatKind.f64.format.order a b == some .eq) = decide (m = n) := by
  have ho : FloatKind.f64.format.order a b = some (compare m n) := ha.order hb
  rw [ho]
  simp only [compare, compareOfLessAndEq]
  rcases Int.lt_trichotomy m n with h | h | h
  · have h3 : ¬ m = n := by omega
    simp [h, h3]
  · subst h; simp
  · have h0 : ¬ m < n := by omega
    have h3 : ¬ m = n := by omega
    simp [h0, h3]

theorem evBin_cneq {t : TypeId} {cx cy : Bool} {a b c d : Nat} {p q r s : Int} (ha : Is a p) (hb : Is b q) (hc : Is c r) (hd : Is d s) : evBin P .neq t cx cy (.val (.complex .f64 a b)) (.val (.complex .f64 c d)) = some (bv (!(decide (p = r) && decide (q = s)))) := by
  have : evBin P .neq t cx cy (.val (.complex .f64 a b)) (.val (.complex .f64 c d)) = some (bv (!(FloatKind.f64.format.order a c == some .eq && FloatKind.f64.format.order b d == some .eq))) := rfl
  rw [this, order_is ha hc, order_is hb hd]
/-- What is asked of the program's types. -/
structure TI (P : Program) : Prop extends Typed3 P where
  t4 : P.underlying 4 = some .bool
  t9 : P.underlying 9 = some .string
  place : Sty P 88 [(3, 0), (3, 1)]
  tid : P.underlying 33 = some .string
  at_ : Sty P 236 [(33, 0), (3, 1)]
  rat : Sty P 234 [(9, 0), (3, 1)]
  ver : Sty P 140 [(33, 0), (3, 1), (3, 2)]
  verS : szOf P 140 = some 3
  item : Sty P 142 [(3, 0), (140, 1), (4, 4), (95, 5), (9, 6), (4, 7)]
  rver : Sty P 116 [(9, 0), (3, 1), (3, 2)]
  rverS : szOf P 116 = some 3
  placeS : szOf P 88 = some 2
  ritem : Sty P 118 [(3, 0), (116, 1), (4, 4), (88, 5), (9, 7), (4, 8)]

theorem place_neq (T : TI P) {cx cy : Bool} {a b c d : Int} : evBin P .neq 88 cx cy (.agg [iv a, iv b]) (.agg [iv c, iv d]) = some (bv (!(decide (a = c) && decide (b = d)))) := by
  have h := (sty_eql (cx := cx) (cy := cy) (xs := [iv a, iv b]) (ys := [iv c, iv d]) (vs := [.int .i64 a, .int .i64 b]) (us := [.int .i64 c, .int .i64 d]) T.place (fun p => if p.2 = 0 then a == c else b == d) rfl rfl (by
    intro p hp
    simp only [List.mem_cons, List.not_mem_nil, or_false] at hp
    rcases hp with rfl | rfl
    · exact ⟨_, _, pureRun_part T.t3 rfl rfl, pureRun_part T.t3 rfl rfl, pureRun_equal_int T.t3⟩
    · exact ⟨_, _, pureRun_part T.t3 rfl rfl, pureRun_part T.t3 rfl rfl, pureRun_equal_int T.t3⟩)).2
  rw [h]
  congr 3
  simp [beq_iff_eq, Bool.beq_eq_decide_eq]

theorem verRight_ans {q : Item} : ans (env P) 227 [.agg [sv q.id, iv q.seq, iv q.stamp]] = some (bv (verR q)) := by
  refine ans_V rfl rfl ?_
  have hR := idRight_ans (P := P) (s := q.id)
  simp [c227, hR]
  repeat' (first
    | (refine VG_sp (fun h => ?_) (fun h => ?_) <;> simp [h, hR])
    | (refine VB_sp (fun h => ?_) (fun h => ?_) <;> simp [h, hR]))
  all_goals first
    | (simp_all [verR]; done)
    | (simp_all [verR] <;> intros <;> first | omega | (exfalso; omega) | (simp_all; done) | (simp_all; omega) | (exfalso; simp_all; done))

theorem itemRight_ans {q : Item} (hs : q.sm) : ans (env P) 162 [.agg (itP q)] = some (bv (itemR q)) := by
  refine ans_V rfl rfl ?_
  have hV := verRight_ans (P := P) (q := q)
  have hW := whole_is (P := P) (sm_is hs.1) (sm_is hs.2)
  have hN := fun t cx cy => evBin_cneq (P := P) (t := t) (cx := cx) (cy := cy) (sm_is hs.1) (sm_is hs.2) is00 is00
  have hE := fun t cx cy => evBin_seql (P := P) (t := t) (cx := cx) (cy := cy) q.text []
  have hk : (32 ≤ q.key) = ¬ (q.key ≤ 31) := by simp; omega
  simp [c162, hV, hW, hN, hE, hk, sv_size]
  repeat' (first
    | (refine VG_sp (fun h => ?_) (fun h => ?_) <;> simp [h, hV, hW, hN, hE, hk, sv_size])
    | (refine VB_sp (fun h => ?_) (fun h => ?_) <;> simp [h, hV, hW, hN, hE, hk, sv_size]))
  all_goals first
    | (simp_all [itemR]; done)
    | (simp_all [itemR] <;> intros <;> first | omega | (exfalso; omega) | (simp_all; done) | (simp_all; omega) | (exfalso; simp_all; done))

theorem r7Right_ans (T : TI P) {q : Item} : ans (env P) 157 [.agg (itR q)] = some (bv (itemR q)) := by
  refine ans_V rfl rfl ?_
  have hR := r1Right_ans (P := P) (s := q.id)
  have hW := refWhole_ans (P := P) (x := q.x) (y := q.y)
  have hN := fun cx cy => place_neq (P := P) (cx := cx) (cy := cy) T (a := q.x) (b := q.y) (c := 0) (d := 0)
  simp [c157, hR, hW, hN, sv_size]
  repeat' (first
    | (refine VG_sp (fun h => ?_) (fun h => ?_) <;> simp [h, hR, hW, hN, sv_size])
    | (refine VB_sp (fun h => ?_) (fun h => ?_) <;> simp [h, hR, hW, hN, sv_size]))
  all_goals first
    | (simp_all [itemR, verR]; done)
    | (simp_all [itemR, verR] <;> intros <;> first | omega | (exfalso; omega) | (simp_all; done) | (simp_all; omega) | (exfalso; simp_all; done))

end Go.Evl.Zone


/- Slices that grow, in rows that lie behind some others. -/
namespace Go.Evl.Zone
open Go Go.Evl
set_option linter.unusedSimpArgs false
set_option linter.unusedVariables false
variable {P : Program}

/-- A slice of just these elements to which one may append; its row, if it has one, isn't among the first N blocks. -/
structure LN (N : Nat) (H : Heap) (k : Nat) (v : PV) (ys : List (List PV)) : Prop where
  l : Lst H k v ys
  b : ∀ r k' g off len, v = .sl r k' g off len → N ≤ r

theorem LN.nil {N : Nat} {H : Heap} {k : Nat} : LN N H k (.im [] true) [] := ⟨Lst.nil, by intros; simp_all⟩
theorem LN.ext {N : Nat} {H H' : Heap} {k : Nat} {v : PV} {ys : List (List PV)} (h : LN N H k v ys) (e : Gr H H') : LN N H' k v ys := ⟨h.l.ext e, h.b⟩
theorem LN.grow {N m : Nat} {H : Heap} {k : Nat} {v : PV} {ys : List (List PV)} (h : LN N H k v ys) : LN N (H.grow m) k v ys := ⟨h.l.grow, h.b⟩
theorem LN.putN {N s : Nat} {H : Heap} {k : Nat} {v : PV} {ys : List (List PV)} {b : Blk} (h : LN N H k v ys) (hs : H.at_ s = .dead ∨ ∃ cs, H.at_ s = .box cs) : LN N (H.put s b) k v ys := ⟨h.l.putN hs, h.b⟩

theorem LN.app {N : Nat} {H : Heap} {slot k : Nat} {v : PV} {ys zs : List (List PV)} (h : LN N H k v ys) (hd : H.at_ slot = .dead) (hs : slot < H.n) (hN : N ≤ slot) (hz : allLen k zs = true) (hm : ys.length + zs.length ≤ most) :
    ∃ (v' : PV) (H' : Heap) (wr rd : List Nat), appendP H slot k v zs = some (v', H', wr, rd) ∧ LN N H' k v' (ys ++ zs) ∧ H'.n = H.n ∧ (∀ i cs, H.at_ i = .box cs → H'.at_ i = .box cs) ∧ (∀ i, i < N → H'.at_ i = H.at_ i) ∧ (∀ i ∈ wr, N ≤ i) := by
  have hl := h.l
  obtain ⟨v', H', wr, rd, e, e1, e2, e3, _, _⟩ := hl.app hd hs hz hm
  have key : (∀ r k' g off len, v' = .sl r k' g off len → N ≤ r) ∧ (∀ i, i < N → H'.at_ i = H.at_ i) ∧ (∀ i ∈ wr, N ≤ i) := by
    unfold appendP at e
    split at e
    · split at e <;> simp at e
      · obtain ⟨rfl, rfl, rfl, _⟩ := e; exact ⟨h.b, fun _ _ => rfl, by simp⟩
      · obtain ⟨rfl, rfl, rfl, _⟩ := e; exact ⟨h.b, fun _ _ => rfl, by simp⟩
    · split at e
      · split at e
        · simp at e
          obtain ⟨rfl, rfl, rfl, _⟩ := e
          refine ⟨?_, ?_, ?_⟩
          · intro r k' g off len q; simp at q; omega
          · intro i hi; simp only [at_put]; rw [if_neg (by omega)]
          · intro i hi; simp at hi; omega
        · simp at e
      · rename_i r k' g off len
        have hr := h.b r k' g off len rfl
        split at e
        · split at e
          · split at e
            · simp at e
              obtain ⟨rfl, rfl, rfl, _⟩ := e
              refine ⟨?_, ?_, ?_⟩
              · intro r2 k2 g2 o2 l2 q; simp at q; omega
              · intro i hi; simp only [at_put]; rw [if_neg (by omega)]
              · intro i hi; simp at hi; omega
            · split at e
              · simp at e
                obtain ⟨rfl, rfl, rfl, _⟩ := e
                refine ⟨?_, ?_, ?_⟩
                · intro r2 k2 g2 o2 l2 q; simp at q; omega
                · intro i hi; simp only [at_put]; rw [if_neg (by omega)]
                · intro i hi; simp at hi; omega
              · simp at e
          · simp at e
        · simp at e
      · simp at e
  exact ⟨v', H', wr, rd, e, ⟨e1, key.1⟩, e2, e3, key.2.1, key.2.2⟩

theorem VP_appN {E : Env} {f : FuncId} {N : Nat} {H : Heap} {slot k : Nat} {v : PV} {ys zs : List (List PV)} {G : PV × Heap × List Nat × List Nat → Option ORes} {dst : Option Nat} {rest : List CI} {i slot' : Nat} {st : St} {log : Log} {d : Option (Nat × List (Nat × Nat))} {ks : List Fr'} {K : Ex → St → Prop}
    (hl : LN N H k v ys) (hd : H.at_ slot = .dead) (hs : slot < H.n) (hN : N ≤ slot) (hz : allLen k zs = true) (hm : ys.length + zs.length ≤ most)
    (h : ∀ v' H' wr rd, LN N H' k v' (ys ++ zs) → H'.n = H.n → (∀ i cs, H.at_ i = .box cs → H'.at_ i = .box cs) → (∀ i, i < N → H'.at_ i = H.at_ i) → (∀ i ∈ wr, N ≤ i) → VP E f (G (v', H', wr, rd)) dst rest i slot' st log d ks K) : VP E f (ob (appendP H slot k v zs) G) dst rest i slot' st log d ks K := by
  obtain ⟨v', H', wr, rd, e1, e2, e3, e4, e5, e6⟩ := hl.app hd hs hN hz hm
  rw [e1]
  exact h v' H' wr rd e2 e3 e4 e5 e6

/-- What a function that only looks leaves. -/
def Rd (res : List CR) (H : Heap) (K : PV → Heap → List Nat → Prop) (s : St) : Prop := ∃ v, (∃ is, (resV s res).bind (expV s.h) = some (v, is)) ∧ flatV v = true ∧ (∀ i, i < H.n → s.h.at_ i = H.at_ i) ∧ (∀ i ∈ s.wl, H.n ≤ i) ∧ K v H []

theorem Rd.mk {res : List CR} {H : Heap} {K : PV → Heap → List Nat → Prop} {s : St} (v : PV) (h : ∃ is, (resV s res).bind (expV s.h) = some (v, is)) (hf : flatV v = true) (hh : ∀ i, i < H.n → s.h.at_ i = H.at_ i) (hw : ∀ i ∈ s.wl, H.n ≤ i) (hk : K v H []) : Rd res H K s := ⟨v, h, hf, hh, hw, hk⟩

theorem IC_rd {E : Env} {g : FuncId} {cf : CF} {as : List PV} {H : Heap} {K : PV → Heap → List Nat → Prop} (hp : E.prim g = none) (hc : E.tab g = some cf) (h : V E g cf.body ⟨start as, H, []⟩ [] fun _ s => Rd cf.res H K s) : IC E g as H K := IC_read hp hc h

end Go.Evl.Zone


/- Numbers and texts as bytes: how they are laid. -/
namespace Go.Evl.Zone
open Go Go.Evl
set_option linter.unusedSimpArgs false
set_option linter.unusedVariables false
variable {P : Program}

/-- A number's bytes. -/
def vint (n : Nat) : Bytes := if n < 128 then [UInt8.ofNat n] else UInt8.ofNat (n % 128 + 128) :: vint (n / 128)
termination_by n
decreasing_by omega

/-- A text's. -/
def ptext (s : Bytes) : Bytes := vint s.length ++ s

theorem vint_len : ∀ (k n : Nat), n < 128 ^ (k + 1) → (vint n).length ≤ k + 1
  | 0, n, h => by rw [vint, if_pos (by simpa using h)]; simp
  | k + 1, n, h => by
    rw [vint]
    split
    · simp
    · simp only [List.length_cons]
      have := vint_len k (n / 128) (by rw [Nat.pow_succ] at h; omega)
      omega
theorem vint_len9 {n : Nat} (h : n < 9223372036854775808) : (vint n).length ≤ 9 := vint_len 8 n (by simpa using h)

theorem wrapU {n : Int} : IntKind.u8.wrap n = n % 256 := rfl

theorem or128 {n : Int} (h : 0 ≤ n ∧ n < 256) : ∀ {t : TypeId} {cx cy : Bool}, evBin P .or t cx cy (.val (.int .u8 n)) (.val (.int .u8 128)) = some (.val (.int .u8 (n % 128 + 128))) := by
  intro t cx cy
  have e : evBin P .or t cx cy (.val (.int .u8 n)) (.val (.int .u8 128)) = some (.val (.int .u8 (IntKind.u8.wrap ((BitVec.ofInt 8 n ||| BitVec.ofInt 8 128).toNat : Int)))) := rfl
  rw [e]
  obtain ⟨m, rfl⟩ : ∃ m : Nat, n = m := ⟨n.toNat, by omega⟩
  have key : ∀ m : Fin 256, IntKind.u8.wrap ((BitVec.ofInt 8 (m.val : Int) ||| BitVec.ofInt 8 128).toNat : Int) = (m.val : Int) % 128 + 128 := by decide +kernel
  rw [key ⟨m, by omega⟩]

theorem shr7 {n : Int} (h : 0 ≤ n) : ∀ {t : TypeId} {cx cy : Bool}, evBin P .shr t cx cy (.val (.int .i64 n)) (.val (.int .u64 7)) = some (.val (.int .i64 (n / 128))) := by
  intro t cx cy
  have e : evBin P .shr t cx cy (.val (.int .i64 n)) (.val (.int .u64 7)) = some (.val (.int .i64 (n.fdiv (2 ^ 7)))) := rfl
  rw [e, Int.fdiv_eq_ediv_of_nonneg _ (by decide)]
  rfl

theorem u8_of {m : Nat} (h : m < 256) : ((UInt8.ofNat m).toNat : Int) = m := by
  rw [UInt8.toNat_ofNat_of_lt' (by simpa using h)]

theorem max0 {t : TypeId} {ts : Array TypeId} {n : Int} : evFun P .max ts t [.int .i64 n, .int .i64 0] = some (iv (max n 0)) := by
  have : evFun P .max ts t [.int .i64 n, .int .i64 0] = some (.val (.int .i64 (if 0 > n then 0 else n))) := rfl
  rw [this]
  congr 3
  split <;> omega

theorem cvU8 (T : Typed P) {n : Int} : scal P (Go.convert 3 5 (.int .i64 n)) = some (.val (.int .u8 (n % 256))) := by
  rw [cv_ii (by rw [T.t3]; rfl) T.t5, wrapU]

theorem En_u8 {m : Nat} (h : m < 256) : En [UInt8.ofNat m] = [[.val (.int .u8 (m : Int))]] := by
  rw [En_one, Enc_u8, u8_of h]


theorem loop_wput (T : Typed P) {H : Heap} {ks : List Fr'} {K : Ex → St → Prop} (n : Nat) (D : Bytes) (st : St) (v : PV) (hn : n < 9223372036854775808) (h1 : st.σ 1 = iv n) (h5 : st.σ 5 = v) (hl : LN H.n st.h 1 v (En D)) (hm : D.length + (vint n).length ≤ most) (hg : Gr H st.h)
    (hend : ∀ st' v m D', st'.σ 1 = iv (m : Nat) → m < 128 → st'.σ 5 = v → LN H.n st'.h 1 v (En D') → D' ++ [UInt8.ofNat m] = D ++ vint n → Gr H st'.h → VN (env P) 66 st' ks K) : V (env P) 66 (.loop L66_0) st (.blk 0 :: ks) K := by
  rw [V_loop]
  by_cases h : n < 128
  · have h' : ¬ (128 : Int) ≤ n := by omega
    simp [L66_0, h1, h5, h']
    refine hend _ v n D (by simp [h1]) h (by simp [h5]) (by simpa using hl.grow) ?_ hg.grow
    rw [vint, if_pos h]
  · have h' : (128 : Int) ≤ n := by omega
    have hc := cvU8 (P := P) T (n := (n : Int))
    have ho := fun t cx cy => @or128 P ((n : Int) % 256) (by omega) t cx cy
    have hs := fun t cx cy => @shr7 P (n : Int) (by omega) t cx cy
    have he : (n : Int) % 256 % 128 + 128 = ((n % 128 + 128 : Nat) : Int) := by omega
    have hd : (n : Int) / 128 = ((n / 128 : Nat) : Int) := by omega
    rw [he] at ho
    rw [hd] at hs
    have hv : vint n = UInt8.ofNat (n % 128 + 128) :: vint (n / 128) := by rw [vint, if_neg h]
    rw [hv] at hm hend
    simp only [List.length_cons] at hm
    have hE : [[PV.val (.int .u8 ((n % 128 + 128 : Nat) : Int))]] = En [UInt8.ofNat (n % 128 + 128)] := (En_u8 (by omega)).symm
    obtain ⟨q, hq⟩ : ∃ q, q = n % 128 + 128 := ⟨_, rfl⟩
    obtain ⟨r, hr⟩ : ∃ r, r = n / 128 := ⟨_, rfl⟩
    rw [← hq] at ho hend hE
    rw [← hr] at hs hm hend
    simp [L66_0, h1, h5, h', hc, ho, hs, chunks, elems, allLen]
    have hgn := hg.n
    refine VP_appN (ys := En D) (N := H.n) (by repeat (first | exact hl | refine LN.grow ?_)) (by simp) (by simp) (by simpa using hgn) rfl (by simp; omega) fun v' H' wr rd e2 e3 _ e5 _ => ?_
    simp [h1, hs]
    refine loop_wput T r (D ++ [UInt8.ofNat q]) _ v' (by omega) (by simp) (by simp) ?_ (by simp; omega) (Gr.grow ⟨by simp [e3]; omega, fun i hi => by rw [e5 i hi]; simp only [at_grow]; rw [if_pos (by omega), hg.at_ i hi]⟩) (fun st' v m D' a b c d e f => hend st' v m D' a b c d (by rw [e]; simp) f)
    rw [En_append, ← hE]
    simpa using e2.grow
termination_by n
decreasing_by omega


theorem loop_rput (T : Typed P) {H : Heap} {ks : List Fr'} {K : Ex → St → Prop} (n : Nat) (D : Bytes) (st : St) (v : PV) (hn : n < 9223372036854775808) (h1 : st.σ 1 = iv n) (h5 : st.σ 5 = v) (hl : LN H.n st.h 1 v (En D)) (hm : D.length + (vint n).length ≤ most) (hg : Gr H st.h)
    (hend : ∀ st' v m D', st'.σ 1 = iv (m : Nat) → m < 128 → st'.σ 5 = v → LN H.n st'.h 1 v (En D') → D' ++ [UInt8.ofNat m] = D ++ vint n → Gr H st'.h → VN (env P) 74 st' ks K) : V (env P) 74 (.loop L74_0) st (.blk 0 :: ks) K := by
  rw [V_loop]
  by_cases h : n < 128
  · have h' : ¬ (128 : Int) ≤ n := by omega
    simp [L74_0, h1, h5, h']
    refine hend _ v n D (by simp [h1]) h (by simp [h5]) (by simpa using hl.grow) ?_ hg.grow
    rw [vint, if_pos h]
  · have h' : (128 : Int) ≤ n := by omega
    have hc := cvU8 (P := P) T (n := ((n % 128 + 128 : Nat) : Int))
    have hr0 : (n : Int).tmod 128 = ((n % 128 : Nat) : Int) := by rw [Int.tmod_eq_emod_of_nonneg (by omega)]; omega
    have hw0 : IntKind.i64.wrap (((n % 128 : Nat) : Int) + 128) = ((n % 128 + 128 : Nat) : Int) := by rw [wrap64_id (by omega)]; omega
    have hd0 : IntKind.i64.wrap ((n : Int).tdiv 128) = ((n / 128 : Nat) : Int) := by rw [Int.tdiv_eq_ediv_of_nonneg (by omega), wrap64_id (by omega)]; omega
    have he : ((n % 128 + 128 : Nat) : Int) % 256 = ((n % 128 + 128 : Nat) : Int) := by omega
    have hq1 := fun t cx cy => @evBin_rem P t cx cy .i64 (n : Int) 128 (by decide)
    have hq2 := fun t cx cy => @evBin_quo P t cx cy .i64 (n : Int) 128 (by decide)
    rw [he] at hc
    rw [hr0] at hq1
    rw [hd0] at hq2
    have hv : vint n = UInt8.ofNat (n % 128 + 128) :: vint (n / 128) := by rw [vint, if_neg h]
    rw [hv] at hm hend
    simp only [List.length_cons] at hm
    have hE : [[PV.val (.int .u8 ((n % 128 + 128 : Nat) : Int))]] = En [UInt8.ofNat (n % 128 + 128)] := (En_u8 (by omega)).symm
    obtain ⟨q, hq⟩ : ∃ q, q = n % 128 + 128 := ⟨_, rfl⟩
    obtain ⟨r, hr⟩ : ∃ r, r = n / 128 := ⟨_, rfl⟩
    obtain ⟨u, hs⟩ : ∃ u, u = n % 128 := ⟨_, rfl⟩
    rw [← hq] at hc hw0 hend hE
    rw [← hr] at hq2 hm hend
    rw [← hs] at hq1 hw0
    simp [L74_0, h1, h5, h', hc, hq1, hq2, hw0, chunks, elems, allLen]
    have hgn := hg.n
    refine VP_appN (ys := En D) (N := H.n) (by repeat (first | exact hl | refine LN.grow ?_)) (by simp) (by simp) (by simpa using hgn) rfl (by simp; omega) fun v' H' wr rd e2 e3 _ e5 _ => ?_
    simp [h1, hq2]
    refine loop_rput T r (D ++ [UInt8.ofNat q]) _ v' (by omega) (by simp) (by simp) ?_ (by simp; omega) (Gr.grow ⟨by simp [e3]; omega, fun i hi => by rw [e5 i hi]; simp only [at_grow]; rw [if_pos (by omega), hg.at_ i hi]⟩) (fun st' v m D' a b c d e f => hend st' v m D' a b c d (by rw [e]; simp) f)
    rw [En_append, ← hE]
    simpa using e2.grow
termination_by n
decreasing_by omega

theorem pClone_ok {H : Heap} {k : Nat} {x : PV} {ys : List (List PV)} {is : List Nat} (h : elems H k x = some (ys, is)) (hk : allLen k ys = true) (hm : ys.length ≤ most) (hs : isStr x = false) :
    ∃ v H' wl, pClone k [x] H = some ⟨v, H', wl, some is⟩ ∧ LN H.n H' k v ys ∧ Gr H H' := by
  by_cases h0 : ys.length = 0
  · have : ys = [] := List.length_eq_zero_iff.1 h0
    subst this
    exact ⟨.im [] true, H.grow 1, [], by simp [pClone, h, hs], LN.nil, Gr.refl.grow⟩
  · refine ⟨_, _, _, by unfold pClone; simp only [h, hs]; rw [if_neg (by simp), if_neg h0, if_pos hm], ?_, (Gr.refl.grow).put (Nat.le_refl _)⟩
    exact ⟨.row H.n ys rfl (by simp) (Nat.le_refl _) List.take_length (by simp) hk, by intro r k' g off len q; simp at q; omega⟩

theorem clP {f : FuncId} {dst : Option Nat} {rest : List CI} {i slot slot' : Nat} {log : Log} {d : Option (Nat × List (Nat × Nat))} {K : Ex → St → Prop} {st : St} {ks : List Fr'} {xs : List O} :
    VA (env P) f (.call (.c (.fn 119 [])) xs) dst rest i slot slot' st log d ks K ↔ VP (env P) f (pClone 1 (xs.map (evO st.σ)) st.h) dst rest i slot' st log d ks K := VA_prim rfl

theorem wput_V (T : Typed P) {H : Heap} {b : Bytes} {fl : Bool} {n : Int} {K : Ex → St → Prop} (hn : n < 9223372036854775808) (hm : b.length + 12 ≤ most)
    (hend : ∀ st' v, st'.σ 4 = v → LN H.n st'.h 1 v (En (b ++ vint n.toNat)) → H.n < st'.h.n → Gr H st'.h → K .ret st') : V (env P) 66 c66.body ⟨start [.im (En b) fl, iv n], H, []⟩ [] K := by
  have he : elems (H.grow 0) 1 (.im (En b) fl) = some (En b, []) := by simp [elems]
  obtain ⟨v, H', wl, e1, e2, e3⟩ := pClone_ok he (by simp) (by simp; omega) rfl
  have hx := fun ts t => max0 (P := P) (t := t) (ts := ts) (n := n)
  have hmx : max n 0 = ((n.toNat : Nat) : Int) := by omega
  have hg := e3.n
  simp at hg
  rw [hmx] at hx
  have hn' : n.toNat < 9223372036854775808 := by omega
  have h9 := vint_len9 hn'
  simp [c66, clP, e1, hx]
  have hgr : Gr H H' := ⟨by simpa using e3.n, fun i hi => by rw [e3.at_ i (by simpa using hi)]; simp [hi]⟩
  simp at e2
  refine loop_wput T (H := H) n.toNat b _ v (by omega) (by simp) (by simp) (by repeat (first | exact e2 | refine LN.grow ?_)) (by omega) (by repeat (first | exact hgr | refine Gr.grow ?_)) ?_
  intro st' v2 m D' h1 hm2 h5 hl hD hG
  have hGn := hG.n
  have hc := cvU8 (P := P) T (n := (m : Int))
  have hmod : (m : Int) % 256 = m := by omega
  rw [hmod] at hc
  have hDl : D'.length + 1 ≤ most := by
    have := congrArg List.length hD
    simp at this
    omega
  simp [h1, h5, hc, chunks, elems, allLen]
  refine VP_appN (ys := En D') (N := H.n) (by repeat (first | exact hl | refine LN.grow ?_)) (by simp) (by simp) (by simpa using hGn) rfl (by simp; omega) fun v' H2 wr rd a2 a3 _ a5 _ => ?_
  simp
  refine hend _ v' (by simp) ?_ (by simp [a3]; omega) ⟨by simp [a3]; omega, fun i hi => by rw [a5 i hi]; simp only [at_grow]; rw [if_pos (by omega), hG.at_ i hi]⟩
  rw [← hD, En_append, En_u8 (by omega)]
  exact a2

theorem wput_ans (T : Typed P) {b : Bytes} {n : Int} (hn : n < 9223372036854775808) (hm : b.length + 12 ≤ most) : ans (env P) 66 [lv b, iv n] = some (lv (b ++ vint n.toNat)) := by
  refine ans_V rfl rfl ?_
  refine wput_V T hn hm fun st' v h4 hl _ _ => ?_
  simp [c66, h4]
  exact hl.l.expV (plainss_En _)

theorem wput_KC (T : Typed P) {H : Heap} {b : Bytes} {fl : Bool} {n : Int} {K : PV → Heap → List Nat → Prop} (hn : n < 9223372036854775808) (hm : b.length + 12 ≤ most)
    (h : ∀ v H' wl, LN H.n H' 1 v (En (b ++ vint n.toNat)) → Gr H H' → K v H' wl) : KC (env P) 66 [.im (En b) fl, iv n] H K := by
  refine KC_of rfl rfl (wput_V T hn hm fun st' v h4 hl hg hG => ⟨v, by simp [c66, h4], ?_⟩)
  rw [if_neg (by omega)]
  exact h _ _ _ hl hG

theorem wputText_ans (T : Typed P) {b s : Bytes} (hm : b.length + s.length + 12 ≤ most) : ans (env P) 70 [lv b, sv s] = some (lv (b ++ ptext s)) := by
  refine ans_V rfl rfl ?_
  have hs : ((s.length : Nat) : Int) < 9223372036854775808 := by unfold most at hm; omega
  have h9 := vint_len9 (n := s.length) (by omega)
  simp [c70, sv_size]
  refine VA_keep (g := 66) (caps := []) rfl rfl ?_
  simp
  refine wput_KC T hs (by omega) fun v H' wl hl hG => ?_
  have h0 := hG.at_ 0 (by simp)
  have h1 := hG.n
  simp at h0 h1
  simp [elems, bytesC_En]
  refine VP_app (ys := En (b ++ vint s.length)) (by simpa using hl.l) h0 (by omega) (by simp) (by simp; omega) fun v' H2 wr rd a2 a3 _ => ?_
  simp
  rw [← En_append, List.append_assoc] at a2
  exact a2.expV (plainss_En _)

end Go.Evl.Zone


/- Numbers and texts as bytes: the document's. -/
namespace Go.Evl.Zone
open Go Go.Evl
set_option linter.unusedSimpArgs false
set_option linter.unusedVariables false
variable {P : Program}

theorem rput_V (T : Typed P) {H : Heap} {b : Bytes} {fl : Bool} {n : Nat} {K : Ex → St → Prop} (hn : n < 9223372036854775808) (hm : b.length + 12 ≤ most)
    (hend : ∀ st' v, st'.σ 4 = v → LN H.n st'.h 1 v (En (b ++ vint n)) → H.n < st'.h.n → Gr H st'.h → K .ret st') : V (env P) 74 c74.body ⟨start [.im (En b) fl, iv n], H, []⟩ [] K := by
  have h9 := vint_len9 hn
  have h0 : ¬ ((n : Int) < 0) := by omega
  simp [c74, h0, chunks, elems, allLen]
  refine VP_appN (ys := En ([] : Bytes)) (N := H.n) LN.nil (by simp) (by simp) (by simp) (by simp) (by simp; omega) fun v H' wr rd e2 e3 _ e5 _ => ?_
  simp
  rw [← En_append, List.nil_append] at e2
  have hgr : Gr H H' := ⟨by rw [e3]; simp, fun i hi => by rw [e5 i hi]; simp [hi]⟩
  refine loop_rput T (H := H) n b _ v (by omega) (by simp) (by simp) (by repeat (first | exact e2 | refine LN.grow ?_)) (by omega) (by repeat (first | exact hgr | refine Gr.grow ?_)) ?_
  intro st' v2 m D' h1 hm2 h5 hl hD hG
  have hGn := hG.n
  have hc := cvU8 (P := P) T (n := (m : Int))
  have hmod : (m : Int) % 256 = m := by omega
  rw [hmod] at hc
  have hDl : D'.length + 1 ≤ most := by
    have := congrArg List.length hD
    simp at this
    omega
  simp [h1, h5, hc, chunks, elems, allLen]
  refine VP_appN (ys := En D') (N := H.n) (by repeat (first | exact hl | refine LN.grow ?_)) (by simp) (by simp) (by simpa using hGn) rfl (by simp; omega) fun v' H2 wr rd a2 a3 _ a5 _ => ?_
  simp
  refine hend _ v' (by simp) ?_ (by simp [a3]; omega) ⟨by simp [a3]; omega, fun i hi => by rw [a5 i hi]; simp only [at_grow]; rw [if_pos (by omega), hG.at_ i hi]⟩
  rw [← hD, En_append, En_u8 (by omega)]
  exact a2

theorem rput_ans (T : Typed P) {b : Bytes} {n : Nat} (hn : n < 9223372036854775808) (hm : b.length + 12 ≤ most) : ans (env P) 74 [lv b, iv n] = some (lv (b ++ vint n)) := by
  refine ans_V rfl rfl ?_
  refine rput_V T hn hm fun st' v h4 hl _ _ => ?_
  simp [c74, h4]
  exact hl.l.expV (plainss_En _)

theorem rput_KC (T : Typed P) {H : Heap} {b : Bytes} {fl : Bool} {n : Nat} {K : PV → Heap → List Nat → Prop} (hn : n < 9223372036854775808) (hm : b.length + 12 ≤ most)
    (h : ∀ v H' wl, LN H.n H' 1 v (En (b ++ vint n)) → Gr H H' → K v H' wl) : KC (env P) 74 [.im (En b) fl, iv n] H K := by
  refine KC_of rfl rfl (rput_V T hn hm fun st' v h4 hl hg hG => ⟨v, by simp [c74, h4], ?_⟩)
  rw [if_neg (by omega)]
  exact h _ _ _ hl hG

theorem rputText_ans (T : Typed P) {b s : Bytes} (hm : b.length + s.length + 12 ≤ most) : ans (env P) 73 [lv b, sv s] = some (lv (b ++ ptext s)) := by
  refine ans_V rfl rfl ?_
  have hs : s.length < 9223372036854775808 := by unfold most at hm; omega
  have h9 := vint_len9 (n := s.length) hs
  simp [c73, sv_size]
  refine VA_keep (g := 74) (caps := []) rfl rfl ?_
  simp
  refine rput_KC T hs (by omega) fun v H' wl hl hG => ?_
  have h0 := hG.at_ 0 (by simp)
  have h1 := hG.n
  simp at h0 h1
  simp [elems, bytesC_En]
  refine VP_app (ys := En (b ++ vint s.length)) (by simpa using hl.l) h0 (by omega) (by simp) (by simp; omega) fun v' H2 wr rd a2 a3 _ => ?_
  simp
  rw [← En_append, List.append_assoc] at a2
  exact a2.expV (plainss_En _)

end Go.Evl.Zone


/- What is laid: Vecs. -/
namespace Go.Evl.Zone
open Go Go.Evl
set_option linter.unusedSimpArgs false
set_option linter.unusedVariables false
variable {P : Program}

def pAt (a : At) : Bytes := ptext a.id ++ vint a.n.toNat
def pVec (v : List At) : Bytes := vint v.length ++ (v.map pAt).flatten
def vI (n : Int) : Bytes := vint n.toNat
def pKRow (r : KRow) : Bytes := ptext r.id ++ vI r.upto ++ vint r.extra.length ++ (r.extra.map vI).flatten
def pKnow (k : List KRow) : Bytes := vint k.length ++ (k.map pKRow).flatten
def pMRow (r : MRow) : Bytes := ptext r.id ++ pVec r.vec
/-- A number that may be laid. -/
def okN (n : Int) : Prop := 0 ≤ n ∧ n < 9223372036854775808

theorem wputI (T : Typed P) {b : Bytes} {n : Int} (hn : okN n) (hm : b.length + 12 ≤ most) : ans (env P) 66 [lv b, iv n] = some (lv (b ++ vI n)) := wput_ans T hn.2 hm
theorem rputI (T : Typed P) {b : Bytes} {n : Int} (hn : okN n) (hm : b.length + 12 ≤ most) : ans (env P) 74 [lv b, iv n] = some (lv (b ++ vI n)) := by
  have h := rput_ans (P := P) T (b := b) (n := n.toNat) (by have := hn.2; omega) hm
  rw [show ((n.toNat : Nat) : Int) = n from by have := hn.1; omega] at h
  exact h
theorem wputL (T : Typed P) {b : Bytes} {n : Nat} (hn : n ≤ most) (hm : b.length + 12 ≤ most) : ans (env P) 66 [lv b, iv n] = some (lv (b ++ vint n)) := by
  have := wput_ans (P := P) T (b := b) (n := (n : Int)) (by unfold most at hn; omega) hm
  simpa using this
theorem rputL (T : Typed P) {b : Bytes} {n : Nat} (hn : n ≤ most) (hm : b.length + 12 ≤ most) : ans (env P) 74 [lv b, iv n] = some (lv (b ++ vint n)) := rput_ans T (by unfold most at hn; omega) hm
theorem vI_len {n : Int} (h : okN n) : (vI n).length ≤ 9 := vint_len9 (by have := h.1; have := h.2; omega)
theorem vL_len {n : Nat} (h : n ≤ most) : (vint n).length ≤ 9 := vint_len9 (by unfold most at h; omega)
theorem putId_ans (T : Typed P) {b s : Bytes} (hm : b.length + s.length + 12 ≤ most) : ans (env P) 65 [lv b, sv s] = some (lv (b ++ ptext s)) := by
  have h := wputText_ans (P := P) T hm
  refine ans_V rfl rfl ?_
  simp [c65, h]
theorem ptext_len {s : Bytes} : (ptext s).length = (vint s.length).length + s.length := by simp [ptext]

theorem pputVec_loop  {v : List At} (T : Typed P) (hn : ∀ a ∈ v, okN a.n) {ks : List Fr'} {K : Ex → St → Prop} (hL : v.length ≤ most) : ∀ (rest : List At) (i : Nat) (D : Bytes) (st : St), v.drop i = rest → i ≤ v.length → st.σ 11 = lv v → st.σ 12 = iv v.length → st.σ 13 = iv i → st.σ 0 = lv D → D.length + (rest.map pAt).flatten.length + 240 ≤ most →
    (∀ st', st'.σ 0 = lv (D ++ (rest.map pAt).flatten) → VN (env P) 67 st' ks K) → V (env P) 67 (.loop L67_0) st (.blk 0 :: ks) K
  | [], i, D, st, hr, hile, h11, h12, hi, ha, hm, hend => by
    obtain ⟨hii, hlt, hd⟩ := drop_nil hr hile
    rw [V_loop]
    simp [L67_0, h11, h12, hi, hlt]
    exact hend _ (by simp [ha])
  | q :: rest, i, D, st, hr, hile, h11, h12, hi, ha, hm, hend => by
    obtain ⟨hq, hlt, hr', _⟩ := drop_cons hr
    have hmq := List.mem_of_getElem? hq
    have hc := En_at hq
    have hw := wrapS (i := i) (by unfold most at hL; omega)
    simp only [List.map_cons, List.flatten_cons, List.length_append] at hm
    obtain ⟨D1, hD1⟩ : ∃ x, x = D ++ ptext q.id := ⟨_, rfl⟩
    have hl1 := congrArg List.length hD1
    simp only [List.length_append] at hl1
    have hk1 := putId_ans (P := P) T (b := D) (s := q.id) (by simp only [pAt, ptext_len, List.length_append] at hm; omega)
    rw [← hD1] at hk1
    obtain ⟨D2, hD2⟩ : ∃ x, x = D1 ++ vI q.n := ⟨_, rfl⟩
    have hl2 := congrArg List.length hD2
    simp only [List.length_append] at hl2
    have hk2 := wputI (P := P) T (b := D1) (hn q hmq) (by simp only [pAt, ptext_len, List.length_append] at hm hl1; omega)
    rw [← hD2] at hk2
    rw [V_loop]
    simp [L67_0, h11, h12, hi, ha, hlt, hc, hw, hk1, hk2]
    refine pputVec_loop T hn hL rest (i + 1) D2 _ hr' (by omega) (by simp [h11]) (by simp [h12]) (by simp) (by simp) (by simp only [pAt, List.length_append] at hm hl1 hl2; simp only [vI] at hl2; omega) (fun st' a => hend st' (by rw [a]; simp [hD1, hD2, pAt, vI]))

theorem pputVec_ans (T : Typed P) {b : Bytes} {v : List At} (hn : ∀ a ∈ v, okN a.n) (hL : v.length ≤ most) (hm : b.length + (pVec v).length + 260 ≤ most) : ans (env P) 67 [lv b, lv v] = some (lv (b ++ pVec v)) := by
  refine ans_V rfl rfl ?_
  simp only [pVec, List.length_append] at hm
  have h := wputL (P := P) T (b := b) (n := v.length) hL (by omega)
  simp [c67, h]
  refine pputVec_loop T hn hL v 0 (b ++ vint v.length) _ rfl (by omega) (by simp) (by simp) (by simp) (by simp) (by simp only [List.length_append]; omega) ?_
  intro st' ha
  simp [ha, pVec, plainss_En]

theorem rputVec_loop  {v : List At} (T : Typed P) (hn : ∀ a ∈ v, okN a.n) {ks : List Fr'} {K : Ex → St → Prop} (hL : v.length ≤ most) : ∀ (rest : List At) (i : Nat) (D : Bytes) (st : St), v.drop i = rest → i ≤ v.length → st.σ 1 = lv v → st.σ 5 = iv i → st.σ 0 = lv D → D.length + (rest.map pAt).flatten.length + 240 ≤ most →
    (∀ st', st'.σ 0 = lv (D ++ (rest.map pAt).flatten) → VN (env P) 75 st' ks K) → V (env P) 75 (.loop L75_0) st (.blk 0 :: ks) K
  | [], i, D, st, hr, hile, h1, hi, ha, hm, hend => by
    obtain ⟨hii, hlt, hd⟩ := drop_nil hr hile
    rw [V_loop]
    simp [L75_0, h1, hi, hlt]
    exact hend _ (by simp [ha])
  | q :: rest, i, D, st, hr, hile, h1, hi, ha, hm, hend => by
    obtain ⟨hq, hlt, hr', _⟩ := drop_cons hr
    have hmq := List.mem_of_getElem? hq
    have hc := En_at hq
    have hw := wrapS (i := i) (by unfold most at hL; omega)
    simp only [List.map_cons, List.flatten_cons, List.length_append] at hm
    obtain ⟨D1, hD1⟩ : ∃ x, x = D ++ ptext q.id := ⟨_, rfl⟩
    have hl1 := congrArg List.length hD1
    simp only [List.length_append] at hl1
    have hk1 := rputText_ans (P := P) T (b := D) (s := q.id) (by simp only [pAt, ptext_len, List.length_append] at hm; omega)
    rw [← hD1] at hk1
    obtain ⟨D2, hD2⟩ : ∃ x, x = D1 ++ vI q.n := ⟨_, rfl⟩
    have hl2 := congrArg List.length hD2
    simp only [List.length_append] at hl2
    have hk2 := rputI (P := P) T (b := D1) (hn q hmq) (by simp only [pAt, ptext_len, List.length_append] at hm hl1; omega)
    rw [← hD2] at hk2
    rw [V_loop]
    simp [L75_0, h1, hi, ha, hlt, hc, hw, hk1, hk2]
    refine rputVec_loop T hn hL rest (i + 1) D2 _ hr' (by omega) (by simp [h1]) (by simp) (by simp) (by simp only [pAt, List.length_append] at hm hl1 hl2; simp only [vI] at hl2; omega) (fun st' a => hend st' (by rw [a]; simp [hD1, hD2, pAt, vI]))

theorem rputVec_ans (T : Typed P) {b : Bytes} {v : List At} (hn : ∀ a ∈ v, okN a.n) (hL : v.length ≤ most) (hm : b.length + (pVec v).length + 260 ≤ most) : ans (env P) 75 [lv b, lv v] = some (lv (b ++ pVec v)) := by
  refine ans_V rfl rfl ?_
  simp only [pVec, List.length_append] at hm
  have h := rputL (P := P) T (b := b) (n := v.length) hL (by omega)
  simp [c75, h]
  refine rputVec_loop T hn hL v 0 (b ++ vint v.length) _ rfl (by omega) (by simp) (by simp) (by simp) (by simp only [List.length_append]; omega) ?_
  intro st' ha
  simp [ha, pVec, plainss_En]

end Go.Evl.Zone


/- What is laid: items. -/
namespace Go.Evl.Zone
open Go Go.Evl Go.Evl.Fl
set_option linter.unusedSimpArgs false
set_option linter.unusedVariables false
variable {P : Program}

def pItem (q : Item) : Bytes := vI q.key ++ ptext q.id ++ vI q.seq ++ vI q.stamp ++
  (if q.dead then vI 0 else (if q.held then vI 2 else vI 1) ++ vI (q.x + 1000) ++ vI (q.y + 1000) ++ (if q.held then ptext q.text else []))

theorem kind_ans {q : Item} : ans (env P) 163 [.agg (itP q)] = some (iv (if q.dead then 0 else if q.held then 2 else 1)) := by
  refine ans_V rfl rfl ?_
  simp [c163]
  repeat' (first
    | (refine VG_sp (fun h => ?_) (fun h => ?_) <;> simp [h])
    | (refine VB_sp (fun h => ?_) (fun h => ?_) <;> simp [h]))

theorem itemR_facts {q : Item} (h : itemR q = true) : okN q.key ∧ okN q.seq ∧ okN q.stamp ∧ okN (q.x + 1000) ∧ okN (q.y + 1000) ∧ q.id.length ≤ 6 ∧ q.text.length ≤ 16 ∧ q.sm ∧ IntKind.i64.wrap (q.x + 1000) = q.x + 1000 ∧ IntKind.i64.wrap (q.y + 1000) = q.y + 1000 ∧ (q.dead = true → q.held = false) := by
  simp [itemR, verR, near] at h
  obtain ⟨⟨⟨⟨⟨⟨⟨a1, a2⟩, a3⟩, a4⟩, a5⟩, a6⟩, a7⟩, a8⟩ := h
  have hid : q.id.length ≤ 6 := by
    have := a3.1.1.1.1
    cases hq : q.id with
    | nil => simp
    | cons x r => rw [hq] at this; simp [idR] at this; simp; omega
  unfold okN Item.sm smI
  refine ⟨by omega, by omega, by omega, by omega, by omega, hid, a6, ⟨by omega, by omega⟩, wrap64_id (by omega), wrap64_id (by omega), ?_⟩
  intro hd
  simp [hd] at a7
  exact a7.2

theorem item_len {q : Item} (h : itemR q = true) : (pItem q).length ≤ 120 := by
  obtain ⟨h1, h2, h3, h4, h5, h6, h7, _⟩ := itemR_facts h
  have a1 := vI_len h1
  have a2 := vI_len h2
  have a3 := vI_len h3
  have a4 := vI_len h4
  have a5 := vI_len h5
  have a6 := vL_len (n := q.id.length) (by unfold most; omega)
  have a7 := vL_len (n := q.text.length) (by unfold most; omega)
  have b0 := vI_len (n := 0) ⟨by omega, by omega⟩
  have b1 := vI_len (n := 1) ⟨by omega, by omega⟩
  have b2 := vI_len (n := 2) ⟨by omega, by omega⟩
  unfold pItem
  simp only [List.length_append, ptext_len]
  split
  · omega
  · simp only [List.length_append]
    split <;> (simp only [ptext_len, List.length_nil]; omega)

theorem r7Put_ans (T : TI P) {b : Bytes} {q : Item} (hr : itemR q = true) (hm : b.length + 200 ≤ most) : ans (env P) 77 [lv b, .agg (itR q)] = some (lv (b ++ pItem q)) := by
  obtain ⟨h1, h2, h3, h4, h5, h6, h7, h8, w1, w2, _⟩ := itemR_facts hr
  have T1 := T.toTyped3.toTyped2.toTyped
  have hR := r7Right_ans (P := P) T (q := q)
  rw [hr] at hR
  obtain ⟨D1, e1⟩ : ∃ x, x = b ++ vI q.key := ⟨_, rfl⟩
  have l1 := congrArg List.length e1
  obtain ⟨D2, e2⟩ : ∃ x, x = D1 ++ ptext q.id := ⟨_, rfl⟩
  have l2 := congrArg List.length e2
  obtain ⟨D3, e3⟩ : ∃ x, x = D2 ++ vI q.seq := ⟨_, rfl⟩
  have l3 := congrArg List.length e3
  obtain ⟨D4, e4⟩ : ∃ x, x = D3 ++ vI q.stamp := ⟨_, rfl⟩
  have l4 := congrArg List.length e4
  have a1 := vI_len h1
  have a2 := vI_len h2
  have a3 := vI_len h3
  have a4 := vI_len h4
  have a5 := vI_len h5
  have a6 := vL_len (n := q.id.length) (by unfold most; omega)
  have b0 := vI_len (n := 0) ⟨by omega, by omega⟩
  have b1 := vI_len (n := 1) ⟨by omega, by omega⟩
  have b2 := vI_len (n := 2) ⟨by omega, by omega⟩
  simp only [List.length_append, ptext_len] at l1 l2 l3 l4
  have k1 := rputI (P := P) T1 (b := b) h1 (by omega)
  have k2 := rputText_ans (P := P) T1 (b := D1) (s := q.id) (by omega)
  have k3 := rputI (P := P) T1 (b := D2) h2 (by omega)
  have k4 := rputI (P := P) T1 (b := D3) h3 (by omega)
  rw [← e1] at k1
  rw [← e2] at k2
  rw [← e3] at k3
  rw [← e4] at k4
  refine ans_V rfl rfl ?_
  by_cases hd : q.dead = true
  · have k5 := rputI (P := P) T1 (b := D4) (n := 0) ⟨by omega, by omega⟩ (by omega)
    simp only [itR, hd] at hR
    simp [c77, hR, k1, k2, k3, k4, k5, hd]
    simp [pItem, hd, e1, e2, e3, e4, plainss_En]
  · simp only [Bool.not_eq_true] at hd
    by_cases hh : q.held = true
    · have k5 := rputI (P := P) T1 (b := D4) (n := 2) ⟨by omega, by omega⟩ (by omega)
      obtain ⟨D5, e5⟩ : ∃ x, x = D4 ++ vI 2 := ⟨_, rfl⟩
      have l5 := congrArg List.length e5
      obtain ⟨D6, e6⟩ : ∃ x, x = D5 ++ vI (q.x + 1000) := ⟨_, rfl⟩
      have l6 := congrArg List.length e6
      obtain ⟨D7, e7⟩ : ∃ x, x = D6 ++ vI (q.y + 1000) := ⟨_, rfl⟩
      have l7 := congrArg List.length e7
      simp only [List.length_append] at l5 l6 l7
      have k6 := rputI (P := P) T1 (b := D5) h4 (by omega)
      have k7 := rputI (P := P) T1 (b := D6) h5 (by omega)
      have k8 := rputText_ans (P := P) T1 (b := D7) (s := q.text) (by omega)
      rw [← e5] at k5
      rw [← e6] at k6
      rw [← e7] at k7
      simp only [itR, hd, hh] at hR
      simp [c77, hR, k1, k2, k3, k4, k5, k6, k7, k8, hd, hh, w1, w2]
      simp [pItem, hd, hh, e1, e2, e3, e4, e5, e6, e7, plainss_En]
    · simp only [Bool.not_eq_true] at hh
      have k5 := rputI (P := P) T1 (b := D4) (n := 1) ⟨by omega, by omega⟩ (by omega)
      obtain ⟨D5, e5⟩ : ∃ x, x = D4 ++ vI 1 := ⟨_, rfl⟩
      have l5 := congrArg List.length e5
      obtain ⟨D6, e6⟩ : ∃ x, x = D5 ++ vI (q.x + 1000) := ⟨_, rfl⟩
      have l6 := congrArg List.length e6
      simp only [List.length_append] at l5 l6
      have k6 := rputI (P := P) T1 (b := D5) h4 (by omega)
      have k7 := rputI (P := P) T1 (b := D6) h5 (by omega)
      rw [← e5] at k5
      rw [← e6] at k6
      simp only [itR, hd, hh] at hR
      simp [c77, hR, k1, k2, k3, k4, k5, k6, k7, hd, hh, w1, w2]
      simp [pItem, hd, hh, e1, e2, e3, e4, e5, e6, plainss_En]

end Go.Evl.Zone


/- What is laid: items, as the program lays them. -/
namespace Go.Evl.Zone
open Go Go.Evl Go.Evl.Fl
set_option linter.unusedSimpArgs false
set_option linter.unusedVariables false
variable {P : Program}

set_option maxHeartbeats 1000000 in
theorem itemPut_ans (T : TI P) {b : Bytes} {q : Item} (hr : itemR q = true) (hm : b.length + 200 ≤ most) : ans (env P) 72 [lv b, .agg (itP q)] = some (lv (b ++ pItem q)) := by
  obtain ⟨h1, h2, h3, h4, h5, h6, h7, h8, w1, w2, h9⟩ := itemR_facts hr
  have T1 := T.toTyped3.toTyped2.toTyped
  have hR := itemRight_ans (P := P) (q := q) h8
  rw [hr] at hR
  have hK := kind_ans (P := P) (q := q)
  have cx : scal P (Go.convert 226 3 (.float .f64 (fw q.x))) = some (iv q.x) := cv_fi (by rw [T1.t41]; rfl) T1.t3 (sm_is h8.1).toInt (by have := h8.1; unfold smI at this; show -9223372036854775808 ≤ q.x ∧ q.x ≤ 9223372036854775807; omega)
  have cy : scal P (Go.convert 226 3 (.float .f64 (fw q.y))) = some (iv q.y) := cv_fi (by rw [T1.t41]; rfl) T1.t3 (sm_is h8.2).toInt (by have := h8.2; unfold smI at this; show -9223372036854775808 ≤ q.y ∧ q.y ≤ 9223372036854775807; omega)
  obtain ⟨D1, e1⟩ : ∃ x, x = b ++ vI q.key := ⟨_, rfl⟩
  have l1 := congrArg List.length e1
  obtain ⟨D2, e2⟩ : ∃ x, x = D1 ++ ptext q.id := ⟨_, rfl⟩
  have l2 := congrArg List.length e2
  obtain ⟨D3, e3⟩ : ∃ x, x = D2 ++ vI q.seq := ⟨_, rfl⟩
  have l3 := congrArg List.length e3
  obtain ⟨D4, e4⟩ : ∃ x, x = D3 ++ vI q.stamp := ⟨_, rfl⟩
  have l4 := congrArg List.length e4
  have a1 := vI_len h1
  have a2 := vI_len h2
  have a3 := vI_len h3
  have a4 := vI_len h4
  have a5 := vI_len h5
  have a6 := vL_len (n := q.id.length) (by unfold most; omega)
  have b0 := vI_len (n := 0) ⟨by omega, by omega⟩
  have b1 := vI_len (n := 1) ⟨by omega, by omega⟩
  have b2 := vI_len (n := 2) ⟨by omega, by omega⟩
  simp only [List.length_append, ptext_len] at l1 l2 l3 l4
  have k1 := wputI (P := P) T1 (b := b) h1 (by omega)
  have k2 := wputText_ans (P := P) T1 (b := D1) (s := q.id) (by omega)
  have k3 := wputI (P := P) T1 (b := D2) h2 (by omega)
  have k4 := wputI (P := P) T1 (b := D3) h3 (by omega)
  rw [← e1] at k1
  rw [← e2] at k2
  rw [← e3] at k3
  rw [← e4] at k4
  have u1 : IntKind.i64.wrap 1 = 1 := rfl
  have u2 : IntKind.i64.wrap 2 = 2 := rfl
  have u3 : IntKind.i64.wrap 3 = 3 := rfl
  refine ans_V rfl rfl ?_
  by_cases hd : q.dead = true
  · have hh := h9 hd
    have k5 := wputI (P := P) T1 (b := D4) (n := 0) ⟨by omega, by omega⟩ (by omega)
    simp only [itP, hd, hh] at hR hK
    simp [c72, hR, hK, k1, k2, k3, k4, k5, hd, hh]
    rw [V_loop]
    simp [L72_0, k3, u1]
    rw [V_loop]
    simp [k4, u2]
    rw [V_loop]
    simp [k5, u3]
    rw [V_loop]
    simp
    simp [pItem, hd, e1, e2, e3, e4, plainss_En]
  · simp only [Bool.not_eq_true] at hd
    by_cases hh : q.held = true
    · have k5 := wputI (P := P) T1 (b := D4) (n := 2) ⟨by omega, by omega⟩ (by omega)
      obtain ⟨D5, e5⟩ : ∃ x, x = D4 ++ vI 2 := ⟨_, rfl⟩
      have l5 := congrArg List.length e5
      obtain ⟨D6, e6⟩ : ∃ x, x = D5 ++ vI (q.x + 1000) := ⟨_, rfl⟩
      have l6 := congrArg List.length e6
      obtain ⟨D7, e7⟩ : ∃ x, x = D6 ++ vI (q.y + 1000) := ⟨_, rfl⟩
      have l7 := congrArg List.length e7
      simp only [List.length_append] at l5 l6 l7
      have k6 := wputI (P := P) T1 (b := D5) h4 (by omega)
      have k7 := wputI (P := P) T1 (b := D6) h5 (by omega)
      have k8 := wputText_ans (P := P) T1 (b := D7) (s := q.text) (by omega)
      rw [← e5] at k5
      rw [← e6] at k6
      rw [← e7] at k7
      simp only [itP, hd, hh] at hR hK
      simp [c72, hR, hK, k1, k2, k3, k4, k5, hd, hh]
      rw [V_loop]
      simp [L72_0, k3, u1]
      rw [V_loop]
      simp [k4, u2]
      rw [V_loop]
      simp [k5, u3]
      rw [V_loop]
      simp [k6, k7, k8, hd, hh, w1, w2, cx, cy, fun_real, fun_imag]
      simp [pItem, hd, hh, e1, e2, e3, e4, e5, e6, e7, plainss_En]
    · simp only [Bool.not_eq_true] at hh
      have k5 := wputI (P := P) T1 (b := D4) (n := 1) ⟨by omega, by omega⟩ (by omega)
      obtain ⟨D5, e5⟩ : ∃ x, x = D4 ++ vI 1 := ⟨_, rfl⟩
      have l5 := congrArg List.length e5
      obtain ⟨D6, e6⟩ : ∃ x, x = D5 ++ vI (q.x + 1000) := ⟨_, rfl⟩
      have l6 := congrArg List.length e6
      simp only [List.length_append] at l5 l6
      have k6 := wputI (P := P) T1 (b := D5) h4 (by omega)
      have k7 := wputI (P := P) T1 (b := D6) h5 (by omega)
      rw [← e5] at k5
      rw [← e6] at k6
      simp only [itP, hd, hh] at hR hK
      simp [c72, hR, hK, k1, k2, k3, k4, k5, hd, hh]
      rw [V_loop]
      simp [L72_0, k3, u1]
      rw [V_loop]
      simp [k4, u2]
      rw [V_loop]
      simp [k5, u3]
      rw [V_loop]
      simp [k6, k7, hd, hh, w1, w2, cx, cy, fun_real, fun_imag]
      simp [pItem, hd, hh, e1, e2, e3, e4, e5, e6, plainss_En]

end Go.Evl.Zone


/- Frames: what is laid of their lists. -/
namespace Go.Evl.Zone
open Go Go.Evl
set_option linter.unusedSimpArgs false
set_option linter.unusedVariables false
variable {P : Program}

/-- What one sends to another one. -/
structure Frame where
  kind : Int
  from_ : Bytes
  to : Bytes
  know : List KRow
  clock : Int
  members : List Bytes
  certs : List At
  rows : List MRow
  zone : List RS
  items : List Item
  whole : Bool
  floor : List At

noncomputable abbrev fP (f : Frame) : List PV := [iv f.kind, sv f.from_, sv f.to, lv f.know, iv f.clock, lv f.members, lv f.certs, lv f.rows, .im (stepsV (toSI f.zone)) false, lvP f.items, bv f.whole, lv f.floor]
abbrev fR (f : Frame) : List PV := [iv f.kind, sv f.from_, sv f.to, lv f.know, iv f.clock, lv f.members, lv f.certs, lv f.rows, .im (rsV f.zone) false, lvR f.items, bv f.whole, lv f.floor]

def pRows (m : List MRow) : Bytes := vint m.length ++ (m.map pMRow).flatten
def pMem (l : List Bytes) : Bytes := vint l.length ++ (l.map ptext).flatten

theorem pkI_loop  {v : List Int} (T : Typed P) (hn : ∀ n ∈ v, okN n) {ks : List Fr'} {K : Ex → St → Prop} (hL : v.length ≤ most) : ∀ (rest : List Int) (i : Nat) (D : Bytes) (st : St), v.drop i = rest → i ≤ v.length → st.σ 35 = lv v → st.σ 36 = iv v.length → st.σ 37 = iv i → st.σ 0 = lv D → D.length + (rest.map vI).flatten.length + 240 ≤ most →
    (∀ st', st'.σ 0 = lv (D ++ (rest.map vI).flatten) → st'.σ 13 = st.σ 13 → st'.σ 14 = st.σ 14 → st'.σ 15 = st.σ 15 → VN (env P) 69 st' ks K) → V (env P) 69 (.loop L69_0) st (.blk 2 :: ks) K
  | [], i, D, st, hr, hile, h35, h36, hi, ha, hm, hend => by
    obtain ⟨hii, hlt, hd⟩ := drop_nil hr hile
    rw [V_loop]
    simp [L69_0, h35, h36, hi, hlt]
    exact hend _ (by simp [ha]) (by simp) (by simp) (by simp)
  | q :: rest, i, D, st, hr, hile, h35, h36, hi, ha, hm, hend => by
    obtain ⟨hq, hlt, hr', _⟩ := drop_cons hr
    have hmq := List.mem_of_getElem? hq
    have hc := En_at hq
    have hw := wrapS (i := i) (by unfold most at hL; omega)
    simp only [List.map_cons, List.flatten_cons, List.length_append] at hm
    obtain ⟨D1, hD1⟩ : ∃ x, x = D ++ vI q := ⟨_, rfl⟩
    have hl1 := congrArg List.length hD1
    simp only [List.length_append] at hl1
    have hk1 := wputI (P := P) T (b := D) (hn q hmq) (by omega)
    rw [← hD1] at hk1
    rw [V_loop]
    simp [L69_0, h35, h36, hi, ha, hlt, hc, hw, hk1]
    refine pkI_loop T hn hL rest (i + 1) D1 _ hr' (by omega) (by simp [h35]) (by simp [h36]) (by simp) (by simp) (by simp only [vI, List.length_append] at hm hl1; omega) (fun st' a k13 k14 k15 => hend st' (by rw [a]; simp [hD1, vI]) (by rw [k13]; simp) (by rw [k14]; simp) (by rw [k15]; simp))

theorem pKRow_len (r : KRow) : (pKRow r).length = (vint r.id.length).length + r.id.length + (vI r.upto).length + (vint r.extra.length).length + (r.extra.map vI).flatten.length := by
  simp only [pKRow, ptext_len, List.length_append]

theorem pputKnow_loop {v : List KRow} (T : Typed P) (hn : ∀ r ∈ v, okN r.upto ∧ (∀ n ∈ r.extra, okN n) ∧ r.extra.length ≤ most) {ks : List Fr'} {K : Ex → St → Prop} (hL : v.length ≤ most) : ∀ (rest : List KRow) (i : Nat) (D : Bytes) (st : St), v.drop i = rest → i ≤ v.length → st.σ 13 = lv v → st.σ 14 = iv v.length → st.σ 15 = iv i → st.σ 0 = lv D → D.length + (rest.map pKRow).flatten.length + 240 ≤ most →
    (∀ st', st'.σ 0 = lv (D ++ (rest.map pKRow).flatten) → VN (env P) 69 st' ks K) → V (env P) 69 (.loop L69_1) st (.blk 0 :: ks) K
  | [], i, D, st, hr, hile, h13, h14, hi, ha, hm, hend => by
    obtain ⟨hii, hlt, hd⟩ := drop_nil hr hile
    rw [V_loop]
    simp [L69_1, h13, h14, hi, hlt]
    exact hend _ (by simp [ha])
  | q :: rest, i, D, st, hr, hile, h13, h14, hi, ha, hm, hend => by
    obtain ⟨hq, hlt, hr', _⟩ := drop_cons hr
    obtain ⟨n1, n2, n3⟩ := hn q (List.mem_of_getElem? hq)
    have hc := En_at hq
    have hw := wrapS (i := i) (by unfold most at hL; omega)
    simp only [List.map_cons, List.flatten_cons, List.length_append, pKRow_len] at hm
    obtain ⟨D1, e1⟩ : ∃ x, x = D ++ ptext q.id := ⟨_, rfl⟩
    have l1 := congrArg List.length e1
    obtain ⟨D2, e2⟩ : ∃ x, x = D1 ++ vI q.upto := ⟨_, rfl⟩
    have l2 := congrArg List.length e2
    obtain ⟨D3, e3⟩ : ∃ x, x = D2 ++ vint q.extra.length := ⟨_, rfl⟩
    have l3 := congrArg List.length e3
    simp only [List.length_append, ptext_len] at l1 l2 l3
    have k1 := putId_ans (P := P) T (b := D) (s := q.id) (by omega)
    have k2 := wputI (P := P) T (b := D1) n1 (by omega)
    have k3 := wputL (P := P) T (b := D2) n3 (by omega)
    rw [← e1] at k1
    rw [← e2] at k2
    rw [← e3] at k3
    rw [V_loop]
    simp [L69_1, h13, h14, hi, ha, hlt, hc, hw, k1, k2, k3]
    refine pkI_loop T n2 n3 q.extra 0 D3 _ rfl (by omega) (by simp) (by simp) (by simp) (by simp) (by omega) ?_
    intro st' a k13 k14 k15
    simp at k13 k14 k15
    simp [k15, hi, hw]
    refine pputKnow_loop T hn hL rest (i + 1) (D3 ++ (q.extra.map vI).flatten) _ hr' (by omega) (by simp [k13, h13]) (by simp [k14, h14]) (by simp) (by simp [a]) (by simp only [List.length_append]; omega) (fun st' a => hend st' (by rw [a]; simp [e1, e2, e3, pKRow]))

theorem pputKnow_ans (T : Typed P) {b : Bytes} {v : List KRow} (hn : ∀ r ∈ v, okN r.upto ∧ (∀ n ∈ r.extra, okN n) ∧ r.extra.length ≤ most) (hL : v.length ≤ most) (hm : b.length + (pKnow v).length + 260 ≤ most) : ans (env P) 69 [lv b, lv v] = some (lv (b ++ pKnow v)) := by
  refine ans_V rfl rfl ?_
  simp only [pKnow, List.length_append] at hm
  have h := wputL (P := P) T (b := b) (n := v.length) hL (by omega)
  simp [c69, h]
  refine pputKnow_loop T hn hL v 0 (b ++ vint v.length) _ rfl (by omega) (by simp) (by simp) (by simp) (by simp) (by simp only [List.length_append]; omega) ?_
  intro st' ha
  simp [ha, pKnow, plainss_En]

theorem pmem_loop  {v : List Bytes} {f : Frame} (T : Typed P) {ks : List Fr'} {K : Ex → St → Prop} (hL : v.length ≤ most) : ∀ (rest : List Bytes) (i : Nat) (D : Bytes) (st : St), v.drop i = rest → i ≤ v.length → (∃ p, st.σ 3 = .ptr p 0 ∧ st.h.at_ p = .box (fP f) ∧ p < st.h.n) → st.σ 15 = lv v → st.σ 16 = iv v.length → st.σ 17 = iv i → st.σ 0 = lv D → D.length + (rest.map ptext).flatten.length + 240 ≤ most →
    (∀ st', (∃ p, st'.σ 3 = .ptr p 0 ∧ st'.h.at_ p = .box (fP f) ∧ p < st'.h.n) → st'.σ 0 = lv (D ++ (rest.map ptext).flatten) → VN (env P) 68 st' ks K) → V (env P) 68 (.loop L68_0) st (.blk 0 :: ks) K
  | [], i, D, st, hr, hile, ⟨p, hb, hp, hpn⟩, h15, h16, hi, ha, hm, hend => by
    obtain ⟨hii, hlt, hd⟩ := drop_nil hr hile
    rw [V_loop]
    simp [L68_0, hb, hp, hpn, h15, h16, hi, hlt]
    exact hend _ ⟨p, by simp [hb], by simp [hp, hpn], by simp; omega⟩ (by simp [ha])
  | q :: rest, i, D, st, hr, hile, ⟨p, hb, hp, hpn⟩, h15, h16, hi, ha, hm, hend => by
    obtain ⟨hq, hlt, hr', _⟩ := drop_cons hr
    have hmq := List.mem_of_getElem? hq
    have hc := En_at hq
    have hw := wrapS (i := i) (by unfold most at hL; omega)
    simp only [List.map_cons, List.flatten_cons, List.length_append] at hm
    have hne : ¬ p = st.h.n := by omega
    obtain ⟨D1, hD1⟩ : ∃ x, x = D ++ ptext q := ⟨_, rfl⟩
    have hl1 := congrArg List.length hD1
    simp only [List.length_append] at hl1
    have hk1 := putId_ans (P := P) T (b := D) (s := q) (by simp only [ptext_len] at hm; omega)
    rw [← hD1] at hk1
    rw [V_loop]
    simp [L68_0, hb, hp, hpn, h15, h16, hi, ha, hlt, hc, hw, hk1]
    refine pmem_loop (f := f) T hL rest (i + 1) D1 _ hr' (by omega) ⟨p, by simp [hb], by simp [hp, hpn, hne], by simp; omega⟩ (by simp [h15]) (by simp [h16]) (by simp) (by simp) (by simp only [ptext_len, List.length_append] at hm hl1; omega) (fun st' x a => hend st' x (by rw [a]; simp [hD1, ptext_len]))

theorem prow_loop  {v : List MRow} (T : Typed P) (hn : ∀ r ∈ v, (∀ a ∈ r.vec, okN a.n) ∧ r.vec.length ≤ most) {ks : List Fr'} {K : Ex → St → Prop} (hL : v.length ≤ most) : ∀ (rest : List MRow) (i : Nat) (D : Bytes) (st : St), v.drop i = rest → i ≤ v.length → st.σ 34 = lv v → st.σ 35 = iv v.length → st.σ 36 = iv i → st.σ 0 = lv D → D.length + (rest.map pMRow).flatten.length + 300 ≤ most →
    (∀ st', st'.σ 0 = lv (D ++ (rest.map pMRow).flatten) → VN (env P) 68 st' ks K) → V (env P) 68 (.loop L68_1) st (.blk 2 :: ks) K
  | [], i, D, st, hr, hile, h34, h35, hi, ha, hm, hend => by
    obtain ⟨hii, hlt, hd⟩ := drop_nil hr hile
    rw [V_loop]
    simp [L68_1, h34, h35, hi, hlt]
    exact hend _ (by simp [ha])
  | q :: rest, i, D, st, hr, hile, h34, h35, hi, ha, hm, hend => by
    obtain ⟨hq, hlt, hr', _⟩ := drop_cons hr
    have hmq := List.mem_of_getElem? hq
    have hc := En_at hq
    have hw := wrapS (i := i) (by unfold most at hL; omega)
    simp only [List.map_cons, List.flatten_cons, List.length_append] at hm
    obtain ⟨D1, hD1⟩ : ∃ x, x = D ++ ptext q.id := ⟨_, rfl⟩
    have hl1 := congrArg List.length hD1
    simp only [List.length_append] at hl1
    have hk1 := putId_ans (P := P) T (b := D) (s := q.id) (by simp only [pMRow, ptext_len, List.length_append] at hm; omega)
    rw [← hD1] at hk1
    obtain ⟨D2, hD2⟩ : ∃ x, x = D1 ++ pVec q.vec := ⟨_, rfl⟩
    have hl2 := congrArg List.length hD2
    simp only [List.length_append] at hl2
    have hk2 := pputVec_ans (P := P) T (b := D1) (v := q.vec) (hn q hmq).1 (hn q hmq).2 (by simp only [pMRow, List.length_append] at hm hl1; omega)
    rw [← hD2] at hk2
    rw [V_loop]
    simp [L68_1, h34, h35, hi, ha, hlt, hc, hw, hk1, hk2]
    refine prow_loop T hn hL rest (i + 1) D2 _ hr' (by omega) (by simp [h34]) (by simp [h35]) (by simp) (by simp) (by simp only [pMRow, List.length_append] at hm hl1 hl2; omega) (fun st' a => hend st' (by rw [a]; simp [hD1, hD2, pMRow]))

theorem pputRows_ans (T : Typed P) {b : Bytes} {f : Frame} (hc : ∀ a ∈ f.certs, okN a.n) (hr : ∀ r ∈ f.rows, (∀ a ∈ r.vec, okN a.n) ∧ r.vec.length ≤ most) (h1 : f.members.length ≤ most) (h2 : f.certs.length ≤ most) (h3 : f.rows.length ≤ most) (hm : b.length + (pMem f.members).length + (pVec f.certs).length + (pRows f.rows).length + 400 ≤ most) : ans (env P) 68 [lv b, .agg (fP f)] = some (lv (b ++ pMem f.members ++ pVec f.certs ++ pRows f.rows)) := by
  refine ans_V rfl rfl ?_
  obtain ⟨D1, e1⟩ : ∃ x, x = b ++ vint f.members.length := ⟨_, rfl⟩
  have l1 := congrArg List.length e1
  obtain ⟨D2, e2⟩ : ∃ x, x = D1 ++ (f.members.map ptext).flatten := ⟨_, rfl⟩
  have l2 := congrArg List.length e2
  obtain ⟨D3, e3⟩ : ∃ x, x = D2 ++ pVec f.certs := ⟨_, rfl⟩
  have l3 := congrArg List.length e3
  obtain ⟨D4, e4⟩ : ∃ x, x = D3 ++ vint f.rows.length := ⟨_, rfl⟩
  have l4 := congrArg List.length e4
  simp only [List.length_append] at l1 l2 l3 l4
  simp only [pMem, pRows, List.length_append] at hm
  have k1 := wputL (P := P) T (b := b) (n := f.members.length) h1 (by omega)
  have k3 := pputVec_ans (P := P) T (b := D2) (v := f.certs) hc h2 (by omega)
  have k4 := wputL (P := P) T (b := D3) (n := f.rows.length) h3 (by omega)
  rw [← e1] at k1
  rw [← e3] at k3
  rw [← e4] at k4
  simp [c68, k1]
  refine pmem_loop (f := f) T h1 f.members 0 D1 _ rfl (by omega) ⟨0, by simp, by simp, by simp⟩ (by simp) (by simp) (by simp) (by simp) (by omega) ?_
  rintro st' ⟨p, hb, hp, hpn⟩ a
  rw [← e2] at a
  simp [hb, hp, hpn, a, k3, k4]
  refine prow_loop T hr h3 f.rows 0 D4 _ rfl (by omega) (by simp) (by simp) (by simp) (by simp) (by omega) ?_
  intro st2 a2
  simp [a2, plainss_En, pMem, pRows, e1, e2, e3, e4]

end Go.Evl.Zone


/- Frames: are they right? -/
namespace Go.Evl.Zone
open Go Go.Evl
set_option linter.unusedSimpArgs false
set_option linter.unusedVariables false
variable {P : Program}

theorem idR_len {s : Bytes} (h : idR s = true) : s.length ≤ 6 := by
  cases s with
  | nil => simp
  | cons b r => simp [idR] at h; simp; omega

abbrev idB (s : Bytes) : Bytes := s

def idOK (s : Bytes) : Bool := idR s
def memR (l : List Bytes) : Bool := chk idOK idB none l && decide (l.length ≤ 64)
def vecOK (v : List At) : Bool := decide (v.length ≤ 64) && vecR v
def rowsOK (m : List MRow) : Bool := decide (m.length ≤ 64) && matR m && m.all fun r => decide (r.vec.length ≤ 64)
def itOK (kind : Int) (q : Item) : Bool := itemR q && !(decide (kind = 1) && (q.dead || q.held))
def itemsOK (kind : Int) (l : List Item) : Bool := decide (l.length ≤ 32) && l.all (itOK kind)
def listsR (f : Frame) : Bool := decide (f.know.length ≤ 64) && knowR f.know && decide (0 ≤ f.clock) && decide (f.clock ≤ 1048576) && memR f.members && vecOK f.certs && rowsOK f.rows && itemsOK f.kind f.items && decide (f.floor = [])
def bareR (f : Frame) : Bool := decide (f.know = []) && decide (f.clock = 0) && decide (f.members = []) && decide (f.certs = []) && decide (f.rows = []) && decide (f.zone = []) && decide (f.items = []) && !f.whole
noncomputable def frameR (f : Frame) : Bool := idR f.from_ && idR f.to && (if f.kind = 1 then listsR f && zoneRight (toSI f.zone) && !f.whole else if f.kind = 2 then listsR f && decide (f.zone = []) else if f.kind = 3 then bareR f && vecOK f.floor else false)

theorem pMem_loop {v : List Bytes} {ks : List Fr'} {K : Ex → St → Prop} (hL : v.length ≤ most) : ∀ (rest : List Bytes) (i : Nat) (prev : Option Bytes) (st : St), v.drop i = rest → i ≤ v.length → prevAt v i prev → st.σ 0 = lv v → st.σ 5 = lv v → st.σ 6 = iv v.length → st.σ 7 = iv i →
    (∀ st', chk idOK idB prev rest = false → st'.σ 2 = bv false → K .ret st') → (∀ st', st'.σ 0 = lv v → chk idOK idB prev rest = true → VN (env P) 146 st' ks K) → V (env P) 146 (.loop L146_0) st (.blk 0 :: ks) K
  | [], i, prev, st, hr, hile, hp, h0, h5, h6, hi, hret, hend => by
    obtain ⟨hii, hlt, hd⟩ := drop_nil hr hile
    rw [V_loop]
    simp [L146_0, h0, h5, h6, hi, hlt]
    exact hend _ (by simp [h0]) rfl
  | q :: rest, i, prev, st, hr, hile, hp, h0, h5, h6, hi, hret, hend => by
    obtain ⟨hq, hlt, hr', _⟩ := drop_cons hr
    have hm := List.mem_of_getElem? hq
    have hc := En_at hq
    have hw := wrapS (i := i) (by unfold most at hL; omega)
    have hR := idRight_ans (P := P) (s := q)
    rw [V_loop]
    rcases Nat.eq_zero_or_pos i with rfl | hpos
    · obtain rfl : prev = none := hp
      simp at hw
      simp [L146_0, h0, h5, h6, hi, hlt, hc, hw, hR]
      repeat' (first
        | (refine VG_sp (fun h => ?_) (fun h => ?_) <;> simp [h, h0, h5, h6, hi, hlt, hc, hw, hR])
        | (refine VB_sp (fun h => ?_) (fun h => ?_) <;> simp [h, h0, h5, h6, hi, hlt, hc, hw, hR]))
      all_goals first
        | exact hret _ (by simp_all [chk, idOK, vecR] <;> (intros; (try simp only [idB] at *); first | omega | (exfalso; simp_all; done) | (exfalso; simp_all; omega))) (by simp)
        | exact pMem_loop  hL rest 1 (some q) _ hr' (by omega) (prevAt_succ hq) (by simp [h0]) (by simp [h5]) (by simp [h6]) (by simp [hw]) (fun st' x y => hret st' (by simp_all [chk, idOK, vecR]) y) (fun st' x0 x => hend st' x0 (by simp_all [chk, idOK, vecR] <;> omega))
    · obtain ⟨p, hpj, rfl⟩ := prevAt_pos hpos hp
      have hcp := En_at hpj
      have hmp := List.mem_of_getElem? hpj
      have hw1 := wrapP hpos (by unfold most at hL; omega)
      have hjl : i - 1 < v.length := by omega
      have hcmp := idCompare_ans (P := P) (a := p) (b := q)
      try simp at hcmp
      simp [L146_0, h0, h5, h6, hi, hlt, hc, hw, hR, hcp, hw1, hjl, hcmp, hpos]
      repeat' (first
        | (refine VG_sp (fun h => ?_) (fun h => ?_) <;> simp [h, h0, h5, h6, hi, hlt, hc, hw, hR, hcp, hw1, hjl, hcmp, hpos])
        | (refine VB_sp (fun h => ?_) (fun h => ?_) <;> simp [h, h0, h5, h6, hi, hlt, hc, hw, hR, hcp, hw1, hjl, hcmp, hpos]))
      all_goals first
        | exact hret _ (by simp_all [chk, idOK, vecR] <;> (intros; (try simp only [idB] at *); first | omega | (exfalso; simp_all; done) | (exfalso; simp_all; omega))) (by simp)
        | exact pMem_loop  hL rest (i + 1) (some q) _ hr' (by omega) (prevAt_succ hq) (by simp [h0]) (by simp [h5]) (by simp [h6]) (by simp [hw]) (fun st' x y => hret st' (by simp_all [chk, idOK, vecR]) y) (fun st' x0 x => hend st' x0 (by simp_all [chk, idOK, vecR] <;> omega))

theorem pMem_ans {v : List Bytes} (hL : v.length ≤ most) : ans (env P) 146 [lv v] = some (bv (memR v)) := by
  refine ans_V rfl rfl ?_
  simp [c146]
  refine pMem_loop hL v 0 none _ rfl (by omega) rfl (by simp) (by simp) (by simp) (by simp) ?_ ?_
  · intro st' h h2; simp [h2, memR, h]
  · intro st' h0 h; simp [memR, h, h0]; omega

theorem pvecOK_ans {v : List At} (hL : v.length ≤ most) : ans (env P) 54 [lv v] = some (bv (vecOK v)) := by
  refine ans_V rfl rfl ?_
  have hV := pVec_ans (P := P) (v := v) hL
  simp [c54, hV]
  repeat' (first
    | (refine VG_sp (fun h => ?_) (fun h => ?_) <;> simp [h, hV])
    | (refine VB_sp (fun h => ?_) (fun h => ?_) <;> simp [h, hV]))
  all_goals first
    | (simp_all [vecOK, vecR]; done)
    | (simp_all [vecOK, vecR] <;> intros <;> first | omega | (exfalso; omega) | (simp_all; done) | (simp_all; omega) | (exfalso; simp_all; done))

theorem rvecOK_ans {v : List At} (hb : ∀ a ∈ v, a.id.length ≤ big) (hL : v.length ≤ most) : ans (env P) 64 [lv v] = some (bv (vecOK v)) := by
  refine ans_V rfl rfl ?_
  have hV := rVec_ans (P := P) (v := v) hb hL
  simp [c64, hV]
  repeat' (first
    | (refine VG_sp (fun h => ?_) (fun h => ?_) <;> simp [h, hV])
    | (refine VB_sp (fun h => ?_) (fun h => ?_) <;> simp [h, hV]))
  all_goals first
    | (simp_all [vecOK, vecR]; done)
    | (simp_all [vecOK, vecR] <;> intros <;> first | omega | (exfalso; omega) | (simp_all; done) | (simp_all; omega) | (exfalso; simp_all; done))

theorem rows1_ans {r : MRow} : ans (env P) 219 [.agg [sv r.id, lv r.vec]] = some (bv (decide (64 < r.vec.length))) := by
  refine ans_V rfl rfl ?_
  simp [c219]
  omega

theorem idxMat_loop {v : List MRow} {g : FuncId} {pr : MRow → Bool} (hg : ∀ q ∈ v, ans (env P) g [.agg [sv q.id, lv q.vec]] = some (bv (pr q))) (hp : (prim g).isNone = true) (hh : (inlF g || keepF 254 g) = false) {ks : List Fr'} {K : Ex → St → Prop} (hL : v.length ≤ most) : ∀ (rest : List MRow) (i : Nat) (st : St), v.drop i = rest → i ≤ v.length → st.σ 0 = lv v → st.σ 1 = .fn g [] → st.σ 7 = iv v.length → st.σ 8 = iv i →
    (∀ st' (j : Nat), rest.any pr = true → st'.σ 4 = iv j → K .ret st') → (∀ st', rest.any pr = false → VN (env P) 254 st' ks K) → V (env P) 254 (.loop L254_0) st (.blk 0 :: ks) K
  | [], i, st, hr, hile, h0, h1, h7, hi, hret, hend => by
    obtain ⟨hii, hlt, hd⟩ := drop_nil hr hile
    rw [V_loop]
    simp [L254_0, h0, h1, h7, hi, hlt]
    exact hend _ rfl
  | q :: rest, i, st, hr, hile, h0, h1, h7, hi, hret, hend => by
    obtain ⟨hq, hlt, hr', _⟩ := drop_cons hr
    have hc := En_at hq
    have hk := hg q (List.mem_of_getElem? hq)
    have hw := wrapS (i := i) (by unfold most at hL; omega)
    rw [V_loop]
    simp [L254_0, h0, h1, h7, hi, hlt, hc, hw]
    rw [VA_ownT (g := g) (by simp [h1]) hp (by simp only [Bool.or_eq_false_iff] at hh; show howF _ g = .own; unfold howF; rw [hh.1, hh.2]; rfl)]
    simp [hk, h0, h1, h7, hi, hw]
    refine VB_sp (fun h => ?_) (fun h => ?_)
    · simp
      exact hret _ i (by simp [h]) (by simp)
    · simp [hi, hw]
      exact idxMat_loop hg hp hh hL rest (i + 1) _ hr' (by omega) (by simp [h0]) (by simp [h1]) (by simp [h7]) (by simp) (fun st' j a b => hret st' j (by simp [a]) b) (fun st' a => hend st' (by simp [a, h]))

theorem conMat_ans {v : List MRow} {g : FuncId} {pr : MRow → Bool} (hg : ∀ q ∈ v, ans (env P) g [.agg [sv q.id, lv q.vec]] = some (bv (pr q))) (hp : (prim g).isNone = true) (hh : (inlF g || keepF 254 g) = false) (hL : v.length ≤ most) : ans (env P) 218 [lv v, .fn g []] = some (bv (v.any pr)) := by
  have hi : ∃ j : Int, ans (env P) 254 [lv v, .fn g []] = some (iv j) ∧ (0 ≤ j ↔ v.any pr = true) := by
    by_cases h : v.any pr = true
    · have : ∃ j : Nat, ans (env P) 254 [lv v, .fn g []] = some (iv j) := by
        have key : ∃ j : Nat, V (env P) 254 c254.body ⟨start [lv v, .fn g []], Heap.empty, []⟩ [] fun _ st => ∃ j' : Nat, st.σ 4 = iv j' := by
          refine ⟨0, ?_⟩
          simp [c254]
          refine idxMat_loop hg hp hh hL v 0 _ rfl (by omega) (by simp) (by simp) (by simp) (by simp) ?_ ?_
          · intro st' j _ h4; exact ⟨j, h4⟩
          · intro st' hn; rw [h] at hn; cases hn
        obtain ⟨_, n, e, st, hev, j, hj⟩ := key
        exact ⟨j, ans_of ⟨_, rfl, rfl, n, e, st, [], hev, by simp [c254, hj]⟩⟩
      obtain ⟨j, hj⟩ := this
      exact ⟨j, hj, by simp [h]⟩
    · refine ⟨-1, ?_, by simp [h]⟩
      refine ans_V rfl rfl ?_
      simp [c254]
      refine idxMat_loop hg hp hh hL v 0 _ rfl (by omega) (by simp) (by simp) (by simp) (by simp) ?_ ?_
      · intro st' j hn _; exact (h hn).elim
      · intro st' _; simp
  obtain ⟨j, h1, h2⟩ := hi
  refine ans_V rfl rfl ?_
  by_cases h : v.any pr = true
  · have := h2.2 h
    rw [h]
    simp [c218, h1, this]
  · have : ¬ 0 ≤ j := fun x => h (h2.1 x)
    simp only [Bool.not_eq_true] at h
    rw [h]
    simp [c218, h1, this]

theorem rowsRight_ans {m : List MRow} (he : ∀ a ∈ m, a.vec.length ≤ most) (hL : m.length ≤ most) : ans (env P) 147 [lv m] = some (bv (rowsOK m)) := by
  refine ans_V rfl rfl ?_
  have hM := pMat_ans (P := P) (v := m) he hL
  have hC := conMat_ans (P := P) (v := m) (g := 219) (pr := fun r => decide (64 < r.vec.length)) (fun q _ => rows1_ans) rfl rfl hL
  have hx : (m.all fun r => decide (r.vec.length ≤ 64)) = !(m.any fun r => decide (64 < r.vec.length)) := by
    rw [List.not_any_eq_all_not]
    congr 1
    funext r
    by_cases h : 64 < r.vec.length
    · simp [h]
    · simp [h]; omega
  simp [c147, hM, hC]
  repeat' (first
    | (refine VG_sp (fun h => ?_) (fun h => ?_) <;> simp [h, hM, hC])
    | (refine VB_sp (fun h => ?_) (fun h => ?_) <;> simp [h, hM, hC]))
  all_goals first
    | (simp_all [rowsOK, matR]; done)
    | (simp_all [rowsOK, matR] <;> intros <;> first | omega | (exfalso; omega) | (simp_all; done))

end Go.Evl.Zone


/- Frames: may their items be? -/
namespace Go.Evl.Zone
open Go Go.Evl
set_option linter.unusedSimpArgs false
set_option linter.unusedVariables false
variable {P : Program}

theorem items1_IC {q : Item} (hs : q.sm) {kind : Int} {p : Nat} {H : Heap} (hp : H.at_ p = .box [iv kind]) (hpn : p < H.n) {K : PV → Heap → List Nat → Prop} (hk : K (bv (!itOK kind q)) H []) : IC (env P) 221 [.agg (itP q), .ptr p 0] H K := by
  refine IC_rd rfl rfl ?_
  have hR := itemRight_ans (P := P) hs
  have hne : ¬ p = H.n := by omega
  have hp1 : p < H.n + 1 := by omega
  simp [c221, hR, hp, hpn, hne, hp1]
  repeat' (first
    | (refine VG_sp (fun h => ?_) (fun h => ?_) <;> simp [h, hR, hp, hpn, hne, hp1])
    | (refine VB_sp (fun h => ?_) (fun h => ?_) <;> simp [h, hR, hp, hpn, hne, hp1]))
  all_goals
    refine Rd.mk (bv (!itOK kind q)) ?_ rfl ?_ ?_ hk
    · simp_all [itOK]
    · intro i hi
      have hi2 : ¬ i = H.n := by omega
      simp [hi2, hi]
      try omega
    · simp

theorem idxItems_loop {l : List Item} {g : FuncId} {caps : List PV} {pr : Item → Bool} {H : Heap} (hh : inlF g = true) (hg : ∀ q ∈ l, ∀ H', Gr H H' → ∀ K : PV → Heap → List Nat → Prop, K (bv (pr q)) H' [] → IC (env P) g (.agg (itP q) :: caps) H' K) {ks : List Fr'} {K : Ex → St → Prop} (hL : l.length ≤ most) : ∀ (rest : List Item) (i : Nat) (st : St), l.drop i = rest → i ≤ l.length → st.σ 0 = lvP l → st.σ 1 = .fn g caps → st.σ 7 = iv l.length → st.σ 8 = iv i → Gr H st.h → st.wl = [] →
    (∀ st' (j : Nat), rest.any pr = true → st'.σ 4 = iv j → Gr H st'.h → st'.wl = [] → K .ret st') → (∀ st', rest.any pr = false → Gr H st'.h → st'.wl = [] → VN (env P) 255 st' ks K) → V (env P) 255 (.loop L255_0) st (.blk 0 :: ks) K
  | [], i, st, hr, hile, h0, h1, h7, hi, hG, hw0, hret, hend => by
    obtain ⟨hii, hlt, hd⟩ := drop_nil hr hile
    rw [V_loop]
    simp [L255_0, h0, h1, h7, hi, hlt]
    exact hend _ rfl hG.grow hw0
  | q :: rest, i, st, hr, hile, h0, h1, h7, hi, hG, hw0, hret, hend => by
    obtain ⟨hq, hlt, hr', _⟩ := drop_cons hr
    have hc := EnP_at hq
    have hw := wrapS (i := i) (by unfold most at hL; omega)
    rw [V_loop]
    simp [L255_0, h0, h1, h7, hi, hlt, hc, hw, hw0]
    refine VA_inl (g := g) (caps := caps) ?_ ?_ ?_
    · simp [h1]
    · show howF _ g = .inl; unfold howF; rw [hh]; rfl
    try simp only [List.map_cons, List.map_nil, List.cons_append, List.nil_append]
    simp only [evO_t, put_if]
    refine hg q (List.mem_of_getElem? hq) _ (by repeat (first | exact hG | refine Gr.grow ?_)) _ ?_
    simp [hi, hw]
    refine VB_sp (fun h => ?_) (fun h => ?_)
    · simp
      exact hret _ i (by simp [h]) (by simp) (by repeat (first | exact hG | refine Gr.grow ?_)) rfl
    · simp [hi, hw]
      exact idxItems_loop hh hg hL rest (i + 1) _ hr' (by omega) (by simp [h0]) (by simp [h1]) (by simp [h7]) (by simp) (by repeat (first | exact hG | refine Gr.grow ?_)) rfl (fun st' j a b => hret st' j (by simp [a]) b) (fun st' a => hend st' (by simp [a, h]))

theorem idxItems_IC {l : List Item} {g : FuncId} {caps : List PV} {pr : Item → Bool} {H : Heap} (hh : inlF g = true) (hg : ∀ q ∈ l, ∀ H', Gr H H' → ∀ K : PV → Heap → List Nat → Prop, K (bv (pr q)) H' [] → IC (env P) g (.agg (itP q) :: caps) H' K) (hL : l.length ≤ most) {K : PV → Heap → List Nat → Prop}
    (h : ∀ j : Int, (0 ≤ j ↔ l.any pr = true) → K (iv j) H []) : IC (env P) 255 [lvP l, .fn g caps] H K := by
  refine IC_rd rfl rfl ?_
  simp [c255]
  refine idxItems_loop hh hg hL l 0 _ rfl (by omega) (by simp) (by simp) (by simp) (by simp) (by repeat (first | exact Gr.refl | refine Gr.grow ?_)) rfl ?_ ?_
  · intro st' j ha h4 hG hw
    exact Rd.mk (iv j) ⟨[], by simp [h4]⟩ rfl hG.at_ (by simp [hw]) (h j (by simp [ha]))
  · intro st' ha hG hw
    simp [hw]
    refine Rd.mk (iv (-1)) ⟨[], by simp⟩ rfl ?_ (by simp [hw]) (h (-1) (by simp [ha]))
    intro i hi
    have := hG.n
    simp only [at_grow]
    rw [if_pos (by omega)]
    exact hG.at_ i hi

theorem conItems_IC {l : List Item} {g : FuncId} {caps : List PV} {pr : Item → Bool} {H : Heap} (hh : inlF g = true) (hg : ∀ q ∈ l, ∀ H', Gr H H' → ∀ K : PV → Heap → List Nat → Prop, K (bv (pr q)) H' [] → IC (env P) g (.agg (itP q) :: caps) H' K) (hL : l.length ≤ most) {K : PV → Heap → List Nat → Prop}
    (h : K (bv (l.any pr)) H []) : IC (env P) 220 [lvP l, .fn g caps] H K := by
  refine IC_rd rfl rfl ?_
  simp [c220]
  refine VA_inl (g := 255) (caps := []) rfl rfl ?_
  simp
  refine idxItems_IC hh (fun q hq H' hG K hk => hg q hq H' (Gr.trans (Gr.refl.grow) hG |> fun e => by simpa using e) K hk) hL ?_
  intro j hj
  simp
  refine Rd.mk (bv (l.any pr)) ?_ rfl ?_ (by simp) h
  · by_cases ha : l.any pr = true
    · have := hj.2 ha
      simp [this, ha]
    · have hn : ¬ 0 ≤ j := fun x => ha (hj.1 x)
      simp only [Bool.not_eq_true] at ha
      simp [hn, ha]
  · intro i hi; simp [hi]

theorem itemsRight_ans {l : List Item} {kind : Int} (hs : ∀ q ∈ l, q.sm) (hL : l.length ≤ most) : ans (env P) 148 [lvP l, iv kind] = some (bv (itemsOK kind l)) := by
  refine ans_V rfl rfl ?_
  have hx : (l.any fun q => !itOK kind q) = !(l.all (itOK kind)) := by
    rw [List.not_all_eq_any_not]
  by_cases h32 : l.length ≤ 32
  · have h32' : (l.length : Int) ≤ 32 := by omega
    simp [c148, h32']
    refine VA_inl (g := 220) (caps := []) rfl rfl ?_
    simp
    refine conItems_IC (pr := fun q => !itOK kind q) (g := 221) rfl (fun q hq H' hG K hk => ?_) hL ?_
    · have h0 := hG.at_ 0 (by simp)
      have h1 := hG.n
      simp at h0 h1
      exact items1_IC (hs q hq) h0 (by omega) hk
    · simp [hx, itemsOK, h32]
  · have h32' : ¬ (l.length : Int) ≤ 32 := by omega
    simp [c148, h32', itemsOK, h32]

end Go.Evl.Zone


/- Frames: are they right? The program's. -/
namespace Go.Evl.Zone
open Go Go.Evl
set_option linter.unusedSimpArgs false
set_option linter.unusedVariables false
variable {P : Program}

open Go.Evl.Fl
def RS.sm (q : RS) : Prop := smI q.x ∧ smI q.y ∧ smI q.s

/-- A frame whose lists aren't too long. -/
structure FOK (f : Frame) : Prop where
  know : f.know.length ≤ most
  ids : ∀ a ∈ f.know, a.id.length ≤ big
  ext : ∀ a ∈ f.know, a.extra.length ≤ most
  mem : f.members.length ≤ most
  mids : ∀ a ∈ f.members, a.length ≤ big
  certs : f.certs.length ≤ most
  cids : ∀ a ∈ f.certs, a.id.length ≤ big
  rows : f.rows.length ≤ most
  rids : ∀ a ∈ f.rows, a.id.length ≤ big
  rvec : ∀ a ∈ f.rows, a.vec.length ≤ most
  rvids : ∀ a ∈ f.rows, ∀ x ∈ a.vec, x.id.length ≤ big
  zone : f.zone.length ≤ most
  zin : ∀ q ∈ f.zone, q.sm
  items : f.items.length ≤ most
  ism : ∀ q ∈ f.items, q.sm
  floor : f.floor.length ≤ most
  fids : ∀ a ∈ f.floor, a.id.length ≤ big

theorem flists_ans {f : Frame} (F : FOK f) : ans (env P) 51 [.agg (fP f)] = some (bv (listsR f)) := by
  refine ans_V rfl rfl ?_
  have hK := pKnow_ans (P := P) (v := f.know) F.ext F.know
  have hM := pMem_ans (P := P) (v := f.members) F.mem
  have hC := pvecOK_ans (P := P) (v := f.certs) F.certs
  have hR := rowsRight_ans (P := P) (m := f.rows) F.rvec F.rows
  have hI := itemsRight_ans (P := P) (l := f.items) (kind := f.kind) F.ism F.items
  simp [c51, hK, hM, hC, hR, hI]
  repeat' (first
    | (refine VG_sp (fun h => ?_) (fun h => ?_) <;> simp [h, hK, hM, hC, hR, hI])
    | (refine VB_sp (fun h => ?_) (fun h => ?_) <;> simp [h, hK, hM, hC, hR, hI]))
  all_goals first
    | (simp_all [listsR, knowR]; done)
    | (simp_all [listsR, knowR] <;> intros <;> first | omega | (exfalso; omega) | (simp_all; done) | (simp_all; omega) | (exfalso; simp_all; done))

theorem bare_sum {f : Frame} (F : FOK f) : (IntKind.i64.wrap (IntKind.i64.wrap (IntKind.i64.wrap (IntKind.i64.wrap (IntKind.i64.wrap (IntKind.i64.wrap (f.know.length + f.clock) + f.members.length) + f.certs.length) + f.rows.length) + f.items.length) + f.zone.length) = 0 ∧ f.clock = 0) ↔ (f.know = [] ∧ f.clock = 0 ∧ f.members = [] ∧ f.certs = [] ∧ f.rows = [] ∧ f.zone = [] ∧ f.items = []) := by
  have h1 := F.know
  have h2 := F.mem
  have h3 := F.certs
  have h4 := F.rows
  have h5 := F.items
  have h6 := F.zone
  unfold most at *
  constructor
  · rintro ⟨h, hc⟩
    rw [hc] at h
    rw [wrap64_id (n := f.know.length + 0) (by omega), wrap64_id (n := f.know.length + 0 + f.members.length) (by omega), wrap64_id (n := f.know.length + 0 + f.members.length + f.certs.length) (by omega), wrap64_id (n := f.know.length + 0 + f.members.length + f.certs.length + f.rows.length) (by omega), wrap64_id (n := f.know.length + 0 + f.members.length + f.certs.length + f.rows.length + f.items.length) (by omega), wrap64_id (by omega)] at h
    simp only [← List.length_eq_zero_iff]
    omega
  · rintro ⟨a, b, c, d, e, g, i⟩
    rw [a, b, c, d, e, g, i]
    exact ⟨rfl, rfl⟩

@[simp] theorem toSI_len (l : List RS) : (toSI l).length = l.length := by simp [toSI]
theorem stepsV_toSI_len (l : List RS) : (stepsV (toSI l)).length = l.length := by simp [stepsV, toSI]
theorem toSI_ok {l : List RS} (h : ∀ q ∈ l, q.sm) : ∀ q ∈ toSI l, q.ok := by
  intro q hq
  simp only [toSI, List.mem_map] at hq
  obtain ⟨r, hr, rfl⟩ := hq
  obtain ⟨h1, h2, h3⟩ := h r hr
  exact ⟨sm_is h1, sm_is h2, sm_is h3⟩


theorem bare_ans {f : Frame} (F : FOK f) : ans (env P) 53 [.agg (fP f)] = some (bv (bareR f)) := by
  have hb := bare_sum F
  refine ans_V rfl rfl ?_
  simp [c53, stepsV_toSI_len]
  repeat' (first
    | (refine VG_sp (fun h2 => ?_) (fun h2 => ?_) <;> simp [h2])
    | (refine VB_sp (fun h2 => ?_) (fun h2 => ?_) <;> simp [h2]))
  all_goals first
    | (simp_all [bareR]; done)
    | (simp_all [bareR] <;> intros <;> first | omega | (exfalso; omega) | (simp_all; done))

theorem frameRight_ans {f : Frame} (F : FOK f) : ans (env P) 15 [.agg (fP f)] = some (bv (frameR f)) := by
  refine ans_V rfl rfl ?_
  have hF := idRight_ans (P := P) (s := f.from_)
  have hT := idRight_ans (P := P) (s := f.to)
  have hL := flists_ans (P := P) F
  have hB := bare_ans (P := P) F
  have hV := pvecOK_ans (P := P) (v := f.floor) F.floor
  have hZ := zoneRight_ans (P := P) (l := toSI f.zone) (toSI_ok F.zin)
  simp [c15, hF, hT, hL, hB, hV, hZ, stepsV_toSI_len]
  repeat' (first
    | (refine VG_sp (fun h => ?_) (fun h => ?_) <;> simp [h, hF, hT, hL, hB, hV, hZ, stepsV_toSI_len])
    | (refine VB_sp (fun h => ?_) (fun h => ?_) <;> simp [h, hF, hT, hL, hB, hV, hZ, stepsV_toSI_len]))
  all_goals first
    | (simp_all [frameR]; done)
    | (simp_all [frameR] <;> intros <;> first | omega | (exfalso; omega) | (simp_all; done) | (simp_all; omega) | (exfalso; simp_all; done))

end Go.Evl.Zone


/- Frames: are they right? The document's. -/
namespace Go.Evl.Zone
open Go Go.Evl
set_option linter.unusedSimpArgs false
set_option linter.unusedVariables false
variable {P : Program}

theorem rMem_loop {v : List Bytes} {f : Frame} (hv : f.members = v) (hbg : ∀ a ∈ v, a.length ≤ big) {ks : List Fr'} {K : Ex → St → Prop} (hL : v.length ≤ most) : ∀ (rest : List Bytes) (i : Nat) (prev : Option Bytes) (st : St), v.drop i = rest → i ≤ v.length → prevAt v i prev → (∃ p, st.σ 1 = .ptr p 0 ∧ st.h.at_ p = .box (fR f) ∧ p < st.h.n) → st.σ 3 = iv i →
    (∀ st', chk idOK idB prev rest = false → st'.σ 2 = bv false → K .ret st') → (∀ st', (∃ p, st'.σ 1 = .ptr p 0 ∧ st'.h.at_ p = .box (fR f) ∧ p < st'.h.n) → chk idOK idB prev rest = true → VN (env P) 62 st' ks K) → V (env P) 62 (.loop L62_0) st (.blk 0 :: ks) K
  | [], i, prev, st, hr, hile, hp, ⟨p0, hb, hp0, hpn⟩, hi, hret, hend => by
    obtain ⟨hii, hlt, hd⟩ := drop_nil hr hile
    rw [V_loop]
    simp [L62_0, hb, hp0, hpn, hi, hlt, hv]
    exact hend _ ⟨p0, by simp [hb], by simp [hp0, hpn], by simp; omega⟩ rfl
  | q :: rest, i, prev, st, hr, hile, hp, ⟨p0, hb, hp0, hpn⟩, hi, hret, hend => by
    obtain ⟨hq, hlt, hr', _⟩ := drop_cons hr
    have hm := List.mem_of_getElem? hq
    have hc := En_at hq
    have hw := wrapS (i := i) (by unfold most at hL; omega)
    have hR := r1Right_ans (P := P) (s := q)
    rw [V_loop]
    rcases Nat.eq_zero_or_pos i with rfl | hpos
    · obtain rfl : prev = none := hp
      simp at hw
      simp [L62_0, hb, hp0, hpn, hi, hlt, hc, hw, hR, hv]
      repeat' (first
        | (refine VG_sp (fun h => ?_) (fun h => ?_) <;> simp [h, hb, hp0, hpn, hi, hlt, hc, hw, hR, hv])
        | (refine VB_sp (fun h => ?_) (fun h => ?_) <;> simp [h, hb, hp0, hpn, hi, hlt, hc, hw, hR, hv]))
      all_goals first
        | exact hret _ (by simp_all [chk, idOK, vecR] <;> (intros; (try simp only [idB] at *); first | omega | (exfalso; simp_all; done) | (exfalso; simp_all; omega))) (by simp)
        | exact rMem_loop hv hbg hL rest 1 (some q) _ hr' (by omega) (prevAt_succ hq) ⟨p0, by simp [hb], by simp [hp0, hpn], by simp; omega⟩  (by simp [hw]) (fun st' x y => hret st' (by simp_all [chk, idOK, vecR]) y) (fun st' x0 x => hend st' x0 (by simp_all [chk, idOK, vecR] <;> omega))
    · obtain ⟨p, hpj, rfl⟩ := prevAt_pos hpos hp
      have hcp := En_at hpj
      have hmp := List.mem_of_getElem? hpj
      have hw1 := wrapP hpos (by unfold most at hL; omega)
      have hjl : i - 1 < v.length := by omega
      have hcmp := r1Compare_ans (P := P) (s := p) (t := q) (hbg p hmp) (hbg q hm)
      try simp at hcmp
      simp [L62_0, hb, hp0, hpn, hi, hlt, hc, hw, hR, hv, hcp, hw1, hjl, hcmp, hpos]
      repeat' (first
        | (refine VG_sp (fun h => ?_) (fun h => ?_) <;> simp [h, hb, hp0, hpn, hi, hlt, hc, hw, hR, hv, hcp, hw1, hjl, hcmp, hpos])
        | (refine VB_sp (fun h => ?_) (fun h => ?_) <;> simp [h, hb, hp0, hpn, hi, hlt, hc, hw, hR, hv, hcp, hw1, hjl, hcmp, hpos]))
      all_goals first
        | exact hret _ (by simp_all [chk, idOK, vecR] <;> (intros; (try simp only [idB] at *); first | omega | (exfalso; simp_all; done) | (exfalso; simp_all; omega))) (by simp)
        | exact rMem_loop hv hbg hL rest (i + 1) (some q) _ hr' (by omega) (prevAt_succ hq) ⟨p0, by simp [hb], by simp [hp0, hpn], by simp; omega⟩  (by simp [hw]) (fun st' x y => hret st' (by simp_all [chk, idOK, vecR]) y) (fun st' x0 x => hend st' x0 (by simp_all [chk, idOK, vecR] <;> omega))

theorem rRows_loop {f : Frame} {v : List MRow} (hv : f.rows = v) {ks : List Fr'} {K : Ex → St → Prop} (hL : v.length ≤ most) : ∀ (rest : List MRow) (i : Nat) (st : St), v.drop i = rest → i ≤ v.length → (∃ p, st.σ 1 = .ptr p 0 ∧ st.h.at_ p = .box (fR f) ∧ p < st.h.n) → st.σ 4 = iv i →
    (∀ st', rest.all (fun r => decide (r.vec.length ≤ 64)) = false → st'.σ 2 = bv false → K .ret st') → (∀ st', (∃ p, st'.σ 1 = .ptr p 0 ∧ st'.h.at_ p = .box (fR f) ∧ p < st'.h.n) → rest.all (fun r => decide (r.vec.length ≤ 64)) = true → VN (env P) 62 st' ks K) → V (env P) 62 (.loop L62_1) st (.blk 2 :: ks) K
  | [], i, st, hr, hile, ⟨p0, hb, hp0, hpn⟩, hi, hret, hend => by
    obtain ⟨hii, hlt, hd⟩ := drop_nil hr hile
    rw [V_loop]
    simp [L62_1, hb, hp0, hpn, hi, hlt, hv]
    exact hend _ ⟨p0, by simp [hb], by simp [hp0, hpn], by simp; omega⟩ rfl
  | q :: rest, i, st, hr, hile, ⟨p0, hb, hp0, hpn⟩, hi, hret, hend => by
    obtain ⟨hq, hlt, hr', _⟩ := drop_cons hr
    have hm := List.mem_of_getElem? hq
    have hc := En_at hq
    have hw := wrapS (i := i) (by unfold most at hL; omega)
    have hne : ¬ p0 = st.h.n := by omega
    have hpn1 : p0 < st.h.n + 1 := by omega

    rw [V_loop]
    simp [L62_1, hb, hp0, hpn, hne, hpn1, hi, hlt, hc, hw, hv]
    repeat' (first
      | (refine VG_sp (fun h => ?_) (fun h => ?_) <;> simp [h, hb, hp0, hpn, hne, hpn1, hi, hlt, hc, hw, hv])
      | (refine VB_sp (fun h => ?_) (fun h => ?_) <;> simp [h, hb, hp0, hpn, hne, hpn1, hi, hlt, hc, hw, hv]))
    all_goals first
      | exact hret _ (by simp_all [] <;> (intros; first | omega | (exfalso; omega) | (simp_all; done))) (by simp)
      | exact rRows_loop hv hL rest (i + 1) _ hr' (by omega) ⟨p0, by simp [hb], by simp [hp0, hpn, hne, hpn1], by simp; omega⟩ (by simp [hw]) (fun st' x y => hret st' (by simp_all []) y) (fun st' x0 x => hend st' x0 (by simp_all [] <;> (first | omega | (intros; omega))))

theorem rItems_loop {f : Frame} {v : List Item} (T : TI P) (hv : f.items = v) {ks : List Fr'} {K : Ex → St → Prop} (hL : v.length ≤ most) : ∀ (rest : List Item) (i : Nat) (st : St), v.drop i = rest → i ≤ v.length → (∃ p, st.σ 1 = .ptr p 0 ∧ st.h.at_ p = .box (fR f) ∧ p < st.h.n) → st.σ 5 = iv i →
    (∀ st', rest.all (itOK f.kind) = false → st'.σ 2 = bv false → K .ret st') → (∀ st', (∃ p, st'.σ 1 = .ptr p 0 ∧ st'.h.at_ p = .box (fR f) ∧ p < st'.h.n) → rest.all (itOK f.kind) = true → VN (env P) 62 st' ks K) → V (env P) 62 (.loop L62_2) st (.blk 4 :: ks) K
  | [], i, st, hr, hile, ⟨p0, hb, hp0, hpn⟩, hi, hret, hend => by
    obtain ⟨hii, hlt, hd⟩ := drop_nil hr hile
    rw [V_loop]
    simp [L62_2, hb, hp0, hpn, hi, hlt, hv]
    exact hend _ ⟨p0, by simp [hb], by simp [hp0, hpn], by simp; omega⟩ rfl
  | q :: rest, i, st, hr, hile, ⟨p0, hb, hp0, hpn⟩, hi, hret, hend => by
    obtain ⟨hq, hlt, hr', _⟩ := drop_cons hr
    have hm := List.mem_of_getElem? hq
    have hc := EnR_at hq
    have hw := wrapS (i := i) (by unfold most at hL; omega)
    have hne : ¬ p0 = st.h.n := by omega
    have hpn1 : p0 < st.h.n + 1 := by omega
    have hR := r7Right_ans (P := P) T (q := q)
    rw [V_loop]
    simp [L62_2, hb, hp0, hpn, hne, hpn1, hi, hlt, hc, hw, hv, hR]
    repeat' (first
      | (refine VG_sp (fun h => ?_) (fun h => ?_) <;> simp [h, hb, hp0, hpn, hne, hpn1, hi, hlt, hc, hw, hv, hR])
      | (refine VB_sp (fun h => ?_) (fun h => ?_) <;> simp [h, hb, hp0, hpn, hne, hpn1, hi, hlt, hc, hw, hv, hR]))
    all_goals first
      | exact hret _ (by simp_all [itOK] <;> (intros; first | omega | (exfalso; omega) | (simp_all; done))) (by simp)
      | exact rItems_loop T hv hL rest (i + 1) _ hr' (by omega) ⟨p0, by simp [hb], by simp [hp0, hpn, hne, hpn1], by simp; omega⟩ (by simp [hw]) (fun st' x y => hret st' (by simp_all [itOK]) y) (fun st' x0 x => hend st' x0 (by simp_all [itOK] <;> (first | omega | (intros; omega))))

theorem rlists_ans (T : TI P) {f : Frame} (F : FOK f) : ans (env P) 62 [.agg (fR f)] = some (bv (listsR f)) := by
  have hK := rKnow_ans (P := P) (v := f.know) F.ids F.ext F.know
  have hC := rvecOK_ans (P := P) (v := f.certs) F.cids F.certs
  have hR := rMat_ans (P := P) (v := f.rows) F.rids F.rvec F.rvids F.rows
  have hfl : 0 < f.floor.length → ¬ f.floor = [] := by intro h e; rw [e] at h; simp at h
  refine ans_V rfl rfl ?_
  simp [c62, hK, hC, hR]
  repeat' (first
    | (refine VG_sp (fun h2 => ?_) (fun h2 => ?_) <;> simp [h2, hK, hC, hR])
    | (refine VB_sp (fun h2 => ?_) (fun h2 => ?_) <;> simp [h2, hK, hC, hR]))
  all_goals first
    | (simp_all [listsR, knowR, memR, rowsOK, matR, itemsOK] <;> intros <;> first | omega | (exfalso; omega) | (simp_all; done))
    | skip
  refine rMem_loop (f := f) rfl F.mids F.mem f.members 0 none _ rfl (by omega) rfl ⟨0, by simp, by simp, by simp⟩ (by simp) ?_ ?_
  · intro st' ha h2
    simp [h2, listsR, memR, ha]
  · rintro st' ⟨p, hb, hp, hpn⟩ ha
    simp
    refine rRows_loop (f := f) rfl F.rows f.rows 0 _ rfl (by omega) ⟨p, by simp [hb], by simp [hp, hpn], by simp; omega⟩ (by simp) ?_ ?_
    · intro st2 ha2 h2
      simp [h2, listsR, rowsOK, ha2]
    · rintro st2 ⟨p2, hb2, hp2, hpn2⟩ ha2
      simp
      refine rItems_loop (f := f) T rfl F.items f.items 0 _ rfl (by omega) ⟨p2, by simp [hb2], by simp [hp2, hpn2], by simp; omega⟩ (by simp) ?_ ?_
      · intro st3 ha3 h3
        simp [h3, listsR, itemsOK, ha3]
      · rintro st3 _ ha3
        simp
        simp_all [listsR, knowR, memR, rowsOK, matR, itemsOK]
        omega

theorem rframeRight_ans (T : TI P) {f : Frame} (F : FOK f) : ans (env P) 17 [.agg (fR f)] = some (bv (frameR f)) := by
  refine ans_V rfl rfl ?_
  have hF := r1Right_ans (P := P) (s := f.from_)
  have hT := r1Right_ans (P := P) (s := f.to)
  have hL := rlists_ans (P := P) T F
  have hV := rvecOK_ans (P := P) (v := f.floor) F.fids F.floor
  have hZ := refRight_ans (P := P) (l := f.zone)
  simp [c17, hF, hT, hL, hV, hZ]
  repeat' (first
    | (refine VG_sp (fun h => ?_) (fun h => ?_) <;> simp [h, hF, hT, hL, hV, hZ])
    | (refine VB_sp (fun h => ?_) (fun h => ?_) <;> simp [h, hF, hT, hL, hV, hZ]))
  all_goals first
    | (simp_all [frameR, bareR]; done)
    | (simp_all [frameR, bareR] <;> intros <;> first | omega | (exfalso; omega) | (simp_all; done) | (simp_all; omega) | (exfalso; simp_all; done))

end Go.Evl.Zone


/- What is laid: a frame's bytes; how many they are. -/
namespace Go.Evl.Zone
open Go Go.Evl Go.Evl.Fl
set_option linter.unusedSimpArgs false
set_option linter.unusedVariables false
variable {P : Program}

/-- A frame's bytes. -/
def pFrame (f : Frame) : Bytes := vI f.kind ++ ptext f.from_ ++ ptext f.to ++
  (if f.kind = 3 then pVec f.floor else pKnow f.know ++ vI f.clock ++ pMem f.members ++ pVec f.certs ++ pRows f.rows ++
    (if f.kind = 1 then ptext (textL f.zone) else []) ++ vint f.items.length ++ (f.items.map pItem).flatten ++
    (if f.kind = 2 then (if f.whole then vI 1 else vI 0) else []))

theorem chk_all {α : Type} {ok : α → Bool} {id : α → Bytes} : ∀ {l : List α} {p : Option α}, chk ok id p l = true → ∀ a ∈ l, ok a = true
  | [], _, _, a, h => by cases h
  | b :: l, p, h, a, ha => by
    simp only [chk, Bool.and_eq_true] at h
    rcases List.mem_cons.1 ha with rfl | q
    · exact h.1.1
    · exact chk_all h.2 a q

theorem spanGo_all : ∀ {l : List Int} {last : Int}, 0 ≤ last → spanR.go last l = true → ∀ n ∈ l, 0 ≤ n ∧ n ≤ 1048576
  | [], _, _, _, n, h => by cases h
  | m :: l, last, h0, h, n, hn => by
    simp only [spanR.go, Bool.and_eq_true, decide_eq_true_eq] at h
    rcases List.mem_cons.1 hn with rfl | q
    · omega
    · exact spanGo_all (by omega) h.2 n q

theorem flat_len {α : Type} {f : α → Bytes} {B : Nat} : ∀ {l : List α}, (∀ a ∈ l, (f a).length ≤ B) → (l.map f).flatten.length ≤ l.length * B
  | [], _ => by simp
  | a :: l, h => by
    have h1 := h a (by simp)
    have h2 := flat_len (l := l) fun b hb => h b (by simp [hb])
    simp only [List.map_cons, List.flatten_cons, List.length_append, List.length_cons, Nat.add_mul]
    omega

theorem okN_of {n : Int} (h : 0 ≤ n ∧ n ≤ 1048576) : okN n := ⟨h.1, by omega⟩
theorem vI_len' {n : Int} (h : 0 ≤ n ∧ n ≤ 1048576) : (vI n).length ≤ 9 := vI_len (okN_of h)

theorem vec_facts {v : List At} (h : vecOK v = true) : v.length ≤ 64 ∧ (∀ a ∈ v, okN a.n) ∧ (pVec v).length ≤ 1600 := by
  simp only [vecOK, vecR, Bool.and_eq_true, decide_eq_true_eq] at h
  have hall := chk_all h.2
  have hb : ∀ a ∈ v, (1 ≤ a.n ∧ a.n ≤ 1048576) ∧ a.id.length ≤ 6 := fun a ha => by
    have := hall a ha
    simp only [atR, Bool.and_eq_true, decide_eq_true_eq] at this
    exact ⟨⟨this.1.2, this.2⟩, idR_len this.1.1⟩
  refine ⟨h.1, fun a ha => okN_of (by have := (hb a ha).1; omega), ?_⟩
  have h1 := vL_len (n := v.length) (by unfold most; omega)
  have h2 : ∀ a ∈ v, (pAt a).length ≤ 24 := fun a ha => by
    obtain ⟨a1, a2⟩ := hb a ha
    have b1 := vI_len' (n := a.n) (by omega)
    have b2 := vL_len (n := a.id.length) (by unfold most; omega)
    unfold vI at b1
    simp only [pAt, List.length_append, ptext_len]
    omega
  have h3 := flat_len h2
  simp only [pVec, List.length_append]
  have : v.length * 24 ≤ 64 * 24 := Nat.mul_le_mul_right _ h.1
  omega

theorem know_facts {k : List KRow} (h : knowR k = true) (hl : k.length ≤ 64) : (∀ r ∈ k, okN r.upto ∧ (∀ n ∈ r.extra, okN n) ∧ r.extra.length ≤ most) ∧ (pKnow k).length ≤ 2500000 := by
  have hall := chk_all h
  have hb : ∀ r ∈ k, (0 ≤ r.upto ∧ r.upto ≤ 1048576) ∧ (∀ n ∈ r.extra, 0 ≤ n ∧ n ≤ 1048576) ∧ r.extra.length ≤ 4096 ∧ r.id.length ≤ 6 := fun r hr => by
    have := hall r hr
    simp only [krowR, spanR, Bool.and_eq_true, decide_eq_true_eq] at this
    obtain ⟨⟨a1, ⟨⟨⟨a2, a3⟩, a4⟩, a5⟩⟩, a6⟩ := this
    exact ⟨⟨a2, a3⟩, spanGo_all (by omega) a5, a4, idR_len a1⟩
  refine ⟨fun r hr => ?_, ?_⟩
  · obtain ⟨a1, a2, a3, a4⟩ := hb r hr
    exact ⟨okN_of a1, fun n hn => okN_of (a2 n hn), by unfold most; omega⟩
  · have h1 := vL_len (n := k.length) (by unfold most; omega)
    have h2 : ∀ r ∈ k, (pKRow r).length ≤ 36900 := fun r hr => by
      obtain ⟨a1, a2, a3, a4⟩ := hb r hr
      have b1 := vI_len' a1
      have b2 := vL_len (n := r.id.length) (by unfold most; omega)
      have b3 := vL_len (n := r.extra.length) (by unfold most; omega)
      have b4 := flat_len (f := vI) (B := 9) (l := r.extra) fun n hn => vI_len' (a2 n hn)
      rw [pKRow_len]
      omega
    have h3 := flat_len h2
    simp only [pKnow, List.length_append]
    have : k.length * 36900 ≤ 64 * 36900 := Nat.mul_le_mul_right _ hl
    omega

theorem mem_facts {l : List Bytes} (h : memR l = true) : l.length ≤ 64 ∧ (pMem l).length ≤ 1600 := by
  simp only [memR, Bool.and_eq_true, decide_eq_true_eq] at h
  have hall := chk_all h.1
  refine ⟨h.2, ?_⟩
  have h1 := vL_len (n := l.length) (by unfold most; omega)
  have h2 : ∀ a ∈ l, (ptext a).length ≤ 24 := fun a ha => by
    have a1 := idR_len (hall a ha)
    have b2 := vL_len (n := a.length) (by unfold most; omega)
    simp only [ptext_len]
    omega
  have h3 := flat_len h2
  simp only [pMem, List.length_append]
  have : l.length * 24 ≤ 64 * 24 := Nat.mul_le_mul_right _ h.2
  omega

theorem rows_facts {m : List MRow} (h : rowsOK m = true) : m.length ≤ 64 ∧ (∀ r ∈ m, (∀ a ∈ r.vec, okN a.n) ∧ r.vec.length ≤ most) ∧ (pRows m).length ≤ 110000 := by
  simp only [rowsOK, matR, Bool.and_eq_true, decide_eq_true_eq, List.all_eq_true] at h
  have hall := chk_all h.1.2
  have hb : ∀ r ∈ m, vecOK r.vec = true ∧ r.id.length ≤ 6 := fun r hr => by
    have := hall r hr
    simp only [mrowR, Bool.and_eq_true, decide_eq_true_eq] at this
    exact ⟨by simp only [vecOK, Bool.and_eq_true, decide_eq_true_eq]; exact ⟨h.2 r hr, this.1.2⟩, idR_len this.1.1⟩
  refine ⟨h.1.1, fun r hr => ?_, ?_⟩
  · have := vec_facts (hb r hr).1
    exact ⟨this.2.1, by unfold most; omega⟩
  · have h1 := vL_len (n := m.length) (by unfold most; omega)
    have h2 : ∀ r ∈ m, (pMRow r).length ≤ 1650 := fun r hr => by
      obtain ⟨a1, a2⟩ := hb r hr
      have b1 := (vec_facts a1).2.2
      have b2 := vL_len (n := r.id.length) (by unfold most; omega)
      simp only [pMRow, List.length_append, ptext_len]
      omega
    have h3 := flat_len h2
    simp only [pRows, List.length_append]
    have : m.length * 1650 ≤ 64 * 1650 := Nat.mul_le_mul_right _ h.1.1
    omega

theorem items_facts {l : List Item} {kind : Int} (h : itemsOK kind l = true) : l.length ≤ 32 ∧ (∀ q ∈ l, itemR q = true) ∧ (l.map pItem).flatten.length ≤ 3840 := by
  simp only [itemsOK, Bool.and_eq_true, decide_eq_true_eq, List.all_eq_true] at h
  have hb : ∀ q ∈ l, itemR q = true := fun q hq => by
    have := h.2 q hq
    simp only [itOK, Bool.and_eq_true] at this
    exact this.1
  refine ⟨h.1, hb, ?_⟩
  have h3 := flat_len (f := pItem) (B := 120) fun q hq => item_len (hb q hq)
  have : l.length * 120 ≤ 32 * 120 := Nat.mul_le_mul_right _ h.1
  omega

end Go.Evl.Zone


/- What is laid: a frame's bytes: the loops. -/
namespace Go.Evl.Zone
open Go Go.Evl
set_option linter.unusedSimpArgs false
set_option linter.unusedVariables false
variable {P : Program}

open Go.Evl.Fl
theorem zone_len {l : List RS} (h : zoneRight (toSI l) = true) : (textL l).length ≤ 1440 := by
  obtain ⟨hl, _, hri⟩ := zoneRight_all h
  refine textL_len (fun q hq => ?_) (by simpa [toSI] using hl)
  have := right_okB (hri q.si (by simp [toSI]; exact ⟨q, hq, rfl⟩))
  exact this

theorem rkI_loop {f : Frame} {u : Int} {v : List Int} {p1 p5 : Nat} (T : Typed P) (hn : ∀ n ∈ v, okN n) (hne : ¬ p1 = p5) {ks : List Fr'} {K : Ex → St → Prop} (hL : v.length ≤ most) : ∀ (rest : List Int) (i : Nat) (D : Bytes) (st : St), v.drop i = rest → i ≤ v.length → st.σ 1 = .ptr p1 0 → st.σ 5 = .ptr p5 0 → st.h.at_ p1 = .box (fR f) → st.h.at_ p5 = .box [iv u, lv v] → p1 < st.h.n → p5 < st.h.n → st.σ 6 = iv i → st.σ 3 = lv D → D.length + (rest.map vI).flatten.length + 240 ≤ most →
    (∀ st', st'.σ 1 = .ptr p1 0 → st'.h.at_ p1 = .box (fR f) → p1 < st'.h.n → st'.σ 4 = st.σ 4 → st'.σ 3 = lv (D ++ (rest.map vI).flatten) → VN (env P) 20 st' ks K) → V (env P) 20 (.loop L20_0) st (.blk 2 :: ks) K
  | [], i, D, st, hr, hile, h1, h5, hb1, hb5, n1, n5, hi, ha, hm, hend => by
    obtain ⟨hii, hlt, hd⟩ := drop_nil hr hile
    rw [V_loop]
    simp [L20_0, h1, h5, hb1, hb5, n1, n5, hi, hlt]
    exact hend _ (by simp [h1]) (by simp [hb1, n1]) (by simp; omega) (by simp) (by simp [ha])
  | q :: rest, i, D, st, hr, hile, h1, h5, hb1, hb5, n1, n5, hi, ha, hm, hend => by
    obtain ⟨hq, hlt, hr', _⟩ := drop_cons hr
    have hc := En_at hq
    have hw := wrapS (i := i) (by unfold most at hL; omega)
    simp only [List.map_cons, List.flatten_cons, List.length_append] at hm
    obtain ⟨D1, e1⟩ : ∃ x, x = D ++ vI q := ⟨_, rfl⟩
    have l1 := congrArg List.length e1
    simp only [List.length_append] at l1
    have k1 := rputI (P := P) T (b := D) (hn q (List.mem_of_getElem? hq)) (by omega)
    rw [← e1] at k1
    rw [V_loop]
    simp [L20_0, h1, h5, hb1, hb5, n1, n5, hi, ha, hlt, hc, hw, k1]
    exact rkI_loop (f := f) (u := u) T hn hne hL rest (i + 1) D1 _ hr' (by omega) (by simp [h1]) (by simp [h5]) (by simp [hb1, n1]) (by simp [hb5, n5]) (by simp; omega) (by simp; omega) (by simp) (by simp) (by omega) (fun st' a b c d e => hend st' a b c (by rw [d]; simp) (by rw [e]; simp [e1]))

theorem rputKnow_loop {f : Frame} {v : List KRow} (T : Typed P) (hv : f.know = v) (hn : ∀ r ∈ v, okN r.upto ∧ (∀ n ∈ r.extra, okN n) ∧ r.extra.length ≤ most) {ks : List Fr'} {K : Ex → St → Prop} (hL : v.length ≤ most) : ∀ (rest : List KRow) (i : Nat) (D : Bytes) (st : St), v.drop i = rest → i ≤ v.length → (∃ p, st.σ 1 = .ptr p 0 ∧ st.h.at_ p = .box (fR f) ∧ p < st.h.n) → st.σ 4 = iv i → st.σ 3 = lv D → D.length + (rest.map pKRow).flatten.length + 240 ≤ most →
    (∀ st', (∃ p, st'.σ 1 = .ptr p 0 ∧ st'.h.at_ p = .box (fR f) ∧ p < st'.h.n) → st'.σ 3 = lv (D ++ (rest.map pKRow).flatten) → VN (env P) 20 st' ks K) → V (env P) 20 (.loop L20_1) st (.blk 0 :: ks) K
  | [], i, D, st, hr, hile, ⟨p, h1, hb1, n1⟩, hi, ha, hm, hend => by
    obtain ⟨hii, hlt, hd⟩ := drop_nil hr hile
    rw [V_loop]
    simp [L20_1, h1, hb1, n1, hi, hlt, hv]
    exact hend _ ⟨p, by simp [h1], by simp [hb1, n1], by simp; omega⟩ (by simp [ha])
  | q :: rest, i, D, st, hr, hile, ⟨p, h1, hb1, n1⟩, hi, ha, hm, hend => by
    obtain ⟨hq, hlt, hr', _⟩ := drop_cons hr
    obtain ⟨m1, m2, m3⟩ := hn q (List.mem_of_getElem? hq)
    have hc := En_at hq
    have hw := wrapS (i := i) (by unfold most at hL; omega)
    have hne : ¬ p = st.h.n := by omega
    have hne2 : p < st.h.n + 1 := by omega
    simp only [List.map_cons, List.flatten_cons, List.length_append, pKRow_len] at hm
    obtain ⟨D1, e1⟩ : ∃ x, x = D ++ ptext q.id := ⟨_, rfl⟩
    have l1 := congrArg List.length e1
    obtain ⟨D2, e2⟩ : ∃ x, x = D1 ++ vI q.upto := ⟨_, rfl⟩
    have l2 := congrArg List.length e2
    obtain ⟨D3, e3⟩ : ∃ x, x = D2 ++ vint q.extra.length := ⟨_, rfl⟩
    have l3 := congrArg List.length e3
    simp only [List.length_append, ptext_len] at l1 l2 l3
    have k1 := rputText_ans (P := P) T (b := D) (s := q.id) (by omega)
    have k2 := rputI (P := P) T (b := D1) m1 (by omega)
    have k3 := rputL (P := P) T (b := D2) m3 (by omega)
    rw [← e1] at k1
    rw [← e2] at k2
    rw [← e3] at k3
    rw [V_loop]
    simp [L20_1, h1, hb1, n1, hi, ha, hlt, hc, hw, hv, k1, k2, k3, hne, hne2]
    refine rkI_loop (f := f) (u := q.upto) (p1 := p) (p5 := st.h.n) T m2 (by omega) m3 q.extra 0 D3 _ rfl (by omega) (by simp [h1]) (by simp) (by simp [hb1, n1, hne, hne2]) (by simp) (by simp; omega) (by simp) (by simp) (by simp) (by omega) ?_
    intro st' a b c d e
    simp at d
    simp [d, hi, hw]
    refine rputKnow_loop T hv hn hL rest (i + 1) (D3 ++ (q.extra.map vI).flatten) _ hr' (by omega) ⟨p, by simp [a], by simp [b, c], by simp; omega⟩ (by simp) (by simp [e]) (by simp only [List.length_append]; omega) (fun st' x a => hend st' x (by rw [a]; simp [e1, e2, e3, pKRow]))

theorem rpM_loop {f : Frame} {v : List Bytes} (T : Typed P) (hv : f.members = v) {ks : List Fr'} {K : Ex → St → Prop} (hL : v.length ≤ most) : ∀ (rest : List Bytes) (i : Nat) (D : Bytes) (st : St), v.drop i = rest → i ≤ v.length → (∃ p, st.σ 1 = .ptr p 0 ∧ st.h.at_ p = .box (fR f) ∧ p < st.h.n) → st.σ 7 = iv i → st.σ 3 = lv D → D.length + (rest.map ptext).flatten.length + 240 ≤ most →
    (∀ st', (∃ p, st'.σ 1 = .ptr p 0 ∧ st'.h.at_ p = .box (fR f) ∧ p < st'.h.n) → st'.σ 3 = lv (D ++ (rest.map ptext).flatten) → VN (env P) 20 st' ks K) → V (env P) 20 (.loop L20_2) st (.blk 4 :: ks) K
  | [], i, D, st, hr, hile, ⟨p, hb, hp, hpn⟩, hi, ha, hm, hend => by
    obtain ⟨hii, hlt, hd⟩ := drop_nil hr hile
    rw [V_loop]
    simp [L20_2, hb, hp, hpn, hi, hlt, hv]
    exact hend _ ⟨p, by simp [hb], by simp [hp, hpn], by simp; omega⟩ (by simp [ha])
  | q :: rest, i, D, st, hr, hile, ⟨p, hb, hp, hpn⟩, hi, ha, hm, hend => by
    obtain ⟨hq, hlt, hr', _⟩ := drop_cons hr
    have hmq := List.mem_of_getElem? hq
    have hc := En_at hq
    have hw := wrapS (i := i) (by unfold most at hL; omega)
    simp only [List.map_cons, List.flatten_cons, List.length_append] at hm
    have hne : ¬ p = st.h.n := by omega
    have hpn1 : p < st.h.n + 1 := by omega
    obtain ⟨D1, hD1⟩ : ∃ x, x = D ++ ptext q := ⟨_, rfl⟩
    have hl1 := congrArg List.length hD1
    simp only [List.length_append] at hl1
    have hk1 := rputText_ans (P := P) T (b := D) (s := q) (by simp only [ptext_len] at hm; omega)
    rw [← hD1] at hk1
    rw [V_loop]
    simp [L20_2, hb, hp, hpn, hne, hpn1, hi, ha, hlt, hc, hw, hv, hk1]
    refine rpM_loop T hv hL rest (i + 1) D1 _ hr' (by omega) ⟨p, by simp [hb], by simp [hp, hpn, hne, hpn1], by simp; omega⟩  (by simp) (by simp) (by simp only [ptext_len, List.length_append] at hm hl1; omega) (fun st' x a => hend st' x (by rw [a]; simp [hD1, ptext_len]))

theorem rpR_loop {f : Frame} {v : List MRow} (T : Typed P) (hn : ∀ r ∈ v, (∀ a ∈ r.vec, okN a.n) ∧ r.vec.length ≤ most) (hv : f.rows = v) {ks : List Fr'} {K : Ex → St → Prop} (hL : v.length ≤ most) : ∀ (rest : List MRow) (i : Nat) (D : Bytes) (st : St), v.drop i = rest → i ≤ v.length → (∃ p, st.σ 1 = .ptr p 0 ∧ st.h.at_ p = .box (fR f) ∧ p < st.h.n) → st.σ 8 = iv i → st.σ 3 = lv D → D.length + (rest.map pMRow).flatten.length + 300 ≤ most →
    (∀ st', (∃ p, st'.σ 1 = .ptr p 0 ∧ st'.h.at_ p = .box (fR f) ∧ p < st'.h.n) → st'.σ 3 = lv (D ++ (rest.map pMRow).flatten) → VN (env P) 20 st' ks K) → V (env P) 20 (.loop L20_3) st (.blk 6 :: ks) K
  | [], i, D, st, hr, hile, ⟨p, hb, hp, hpn⟩, hi, ha, hm, hend => by
    obtain ⟨hii, hlt, hd⟩ := drop_nil hr hile
    rw [V_loop]
    simp [L20_3, hb, hp, hpn, hi, hlt, hv]
    exact hend _ ⟨p, by simp [hb], by simp [hp, hpn], by simp; omega⟩ (by simp [ha])
  | q :: rest, i, D, st, hr, hile, ⟨p, hb, hp, hpn⟩, hi, ha, hm, hend => by
    obtain ⟨hq, hlt, hr', _⟩ := drop_cons hr
    have hmq := List.mem_of_getElem? hq
    have hc := En_at hq
    have hw := wrapS (i := i) (by unfold most at hL; omega)
    simp only [List.map_cons, List.flatten_cons, List.length_append] at hm
    have hne : ¬ p = st.h.n := by omega
    have hpn1 : p < st.h.n + 1 := by omega
    obtain ⟨D1, hD1⟩ : ∃ x, x = D ++ ptext q.id := ⟨_, rfl⟩
    have hl1 := congrArg List.length hD1
    simp only [List.length_append] at hl1
    have hk1 := rputText_ans (P := P) T (b := D) (s := q.id) (by simp only [pMRow, ptext_len, List.length_append] at hm; omega)
    rw [← hD1] at hk1
    obtain ⟨D2, hD2⟩ : ∃ x, x = D1 ++ pVec q.vec := ⟨_, rfl⟩
    have hl2 := congrArg List.length hD2
    simp only [List.length_append] at hl2
    have hk2 := rputVec_ans (P := P) T (b := D1) (v := q.vec) (hn q hmq).1 (hn q hmq).2 (by simp only [pMRow, List.length_append] at hm hl1; omega)
    rw [← hD2] at hk2
    rw [V_loop]
    simp [L20_3, hb, hp, hpn, hne, hpn1, hi, ha, hlt, hc, hw, hv, hk1, hk2]
    refine rpR_loop T hn hv hL rest (i + 1) D2 _ hr' (by omega) ⟨p, by simp [hb], by simp [hp, hpn, hne, hpn1], by simp; omega⟩  (by simp) (by simp) (by simp only [pMRow, List.length_append] at hm hl1 hl2; omega) (fun st' x a => hend st' x (by rw [a]; simp [hD1, hD2, pMRow]))

theorem rpI_loop {f : Frame} {v : List Item} (T : TI P) (hn : ∀ q ∈ v, itemR q = true) (hv : f.items = v) {ks : List Fr'} {K : Ex → St → Prop} (hL : v.length ≤ most) : ∀ (rest : List Item) (i : Nat) (D : Bytes) (st : St), v.drop i = rest → i ≤ v.length → (∃ p, st.σ 1 = .ptr p 0 ∧ st.h.at_ p = .box (fR f) ∧ p < st.h.n) → st.σ 9 = iv i → st.σ 3 = lv D → D.length + (rest.map pItem).flatten.length + 240 ≤ most →
    (∀ st', (∃ p, st'.σ 1 = .ptr p 0 ∧ st'.h.at_ p = .box (fR f) ∧ p < st'.h.n) → st'.σ 3 = lv (D ++ (rest.map pItem).flatten) → VN (env P) 20 st' ks K) → V (env P) 20 (.loop L20_4) st (.blk 8 :: ks) K
  | [], i, D, st, hr, hile, ⟨p, hb, hp, hpn⟩, hi, ha, hm, hend => by
    obtain ⟨hii, hlt, hd⟩ := drop_nil hr hile
    rw [V_loop]
    simp [L20_4, hb, hp, hpn, hi, hlt, hv]
    exact hend _ ⟨p, by simp [hb], by simp [hp, hpn], by simp; omega⟩ (by simp [ha])
  | q :: rest, i, D, st, hr, hile, ⟨p, hb, hp, hpn⟩, hi, ha, hm, hend => by
    obtain ⟨hq, hlt, hr', _⟩ := drop_cons hr
    have hmq := List.mem_of_getElem? hq
    have hc := EnR_at hq
    have hw := wrapS (i := i) (by unfold most at hL; omega)
    simp only [List.map_cons, List.flatten_cons, List.length_append] at hm
    have hne : ¬ p = st.h.n := by omega
    have hpn1 : p < st.h.n + 1 := by omega
    obtain ⟨D1, hD1⟩ : ∃ x, x = D ++ pItem q := ⟨_, rfl⟩
    have hl1 := congrArg List.length hD1
    simp only [List.length_append] at hl1
    have hk1 := r7Put_ans (P := P) T (b := D) (q := q) (hn q hmq) (by omega)
    rw [← hD1] at hk1
    rw [V_loop]
    simp [L20_4, hb, hp, hpn, hne, hpn1, hi, ha, hlt, hc, hw, hv, hk1]
    refine rpI_loop T hn hv hL rest (i + 1) D1 _ hr' (by omega) ⟨p, by simp [hb], by simp [hp, hpn, hne, hpn1], by simp; omega⟩  (by simp) (by simp) (by simp only [pItem, List.length_append] at hm hl1; omega) (fun st' x a => hend st' x (by rw [a]; simp [hD1, pItem]))

theorem ppI_loop {f : Frame} {v : List Item} (T : TI P) (hn : ∀ q ∈ v, itemR q = true) {ks : List Fr'} {K : Ex → St → Prop} (hL : v.length ≤ most) : ∀ (rest : List Item) (i : Nat) (D : Bytes) (st : St), v.drop i = rest → i ≤ v.length → (∃ p, st.σ 1 = .ptr p 0 ∧ st.h.at_ p = .box (fP f) ∧ p < st.h.n) → st.σ 48 = lvP v → st.σ 49 = iv v.length → st.σ 50 = iv i → st.σ 3 = lv D → D.length + (rest.map pItem).flatten.length + 240 ≤ most →
    (∀ st', (∃ p, st'.σ 1 = .ptr p 0 ∧ st'.h.at_ p = .box (fP f) ∧ p < st'.h.n) → st'.σ 3 = lv (D ++ (rest.map pItem).flatten) → VN (env P) 19 st' ks K) → V (env P) 19 (.loop L19_0) st (.blk 0 :: ks) K
  | [], i, D, st, hr, hile, ⟨p, hb, hp, hpn⟩, h48, h49, hi, ha, hm, hend => by
    obtain ⟨hii, hlt, hd⟩ := drop_nil hr hile
    rw [V_loop]
    simp [L19_0, hb, hp, hpn, h48, h49, hi, hlt]
    exact hend _ ⟨p, by simp [hb], by simp [hp, hpn], by simp; omega⟩ (by simp [ha])
  | q :: rest, i, D, st, hr, hile, ⟨p, hb, hp, hpn⟩, h48, h49, hi, ha, hm, hend => by
    obtain ⟨hq, hlt, hr', _⟩ := drop_cons hr
    have hmq := List.mem_of_getElem? hq
    have hc := EnP_at hq
    have hw := wrapS (i := i) (by unfold most at hL; omega)
    simp only [List.map_cons, List.flatten_cons, List.length_append] at hm
    have hne : ¬ p = st.h.n := by omega
    have hpn1 : p < st.h.n + 1 := by omega
    obtain ⟨D1, hD1⟩ : ∃ x, x = D ++ pItem q := ⟨_, rfl⟩
    have hl1 := congrArg List.length hD1
    simp only [List.length_append] at hl1
    have hk1 := itemPut_ans (P := P) T (b := D) (q := q) (hn q hmq) (by omega)
    rw [← hD1] at hk1
    rw [V_loop]
    simp [L19_0, hb, hp, hpn, hne, hpn1, h48, h49, hi, ha, hlt, hc, hw, hk1]
    refine ppI_loop T hn hL rest (i + 1) D1 _ hr' (by omega) ⟨p, by simp [hb], by simp [hp, hpn, hne, hpn1], by simp; omega⟩ (by simp [h48]) (by simp [h49]) (by simp) (by simp) (by simp only [pItem, List.length_append] at hm hl1; omega) (fun st' x a => hend st' x (by rw [a]; simp [hD1, pItem]))

end Go.Evl.Zone


/- What is laid: a frame's bytes: the program's. -/
namespace Go.Evl.Zone
open Go Go.Evl
set_option linter.unusedSimpArgs false
set_option linter.unusedVariables false
variable {P : Program}

open Go.Evl.Fl

set_option maxHeartbeats 4000000 in
theorem framePut_ans (T : TI P) {f : Frame} (F : FOK f) (hr : frameR f = true) : ans (env P) 19 [.agg (fP f)] = some (lv (pFrame f)) := by
  have T1 := T.toTyped3.toTyped2.toTyped
  have hR := frameRight_ans (P := P) F
  rw [hr] at hR
  have hr0 := hr
  simp only [frameR, Bool.and_eq_true] at hr
  obtain ⟨⟨r1, r2⟩, r3⟩ := hr
  have i1 := idR_len r1
  have i2 := idR_len r2
  have v1 := vL_len (n := f.from_.length) (by unfold most; omega)
  have v2 := vL_len (n := f.to.length) (by unfold most; omega)
  have hM : most = 68719476736 := rfl
  have b0 := vI_len' (n := 0) (by omega)
  have b1 := vI_len' (n := 1) (by omega)
  have b2 := vI_len' (n := 2) (by omega)
  have b3 := vI_len' (n := 3) (by omega)
  refine ans_V rfl rfl ?_
  by_cases hk : f.kind = 3
  · simp only [fP, hk] at hR
    obtain ⟨D1, eD1⟩ : ∃ x, x = ([] : Bytes) ++ vI 3 := ⟨_, rfl⟩
    have lD1 := congrArg List.length eD1
    simp only [List.length_append, ptext_len] at lD1
    have kD1 := wputI (P := P) T1 (b := []) (n := 3) (okN_of (by omega)) (by simp; omega)
    rw [← eD1] at kD1
    simp only [List.length_nil, List.nil_append, lv, En_nil] at lD1 eD1 kD1
    obtain ⟨D2, eD2⟩ : ∃ x, x = D1 ++ ptext f.from_ := ⟨_, rfl⟩
    have lD2 := congrArg List.length eD2
    simp only [List.length_append, ptext_len] at lD2
    have kD2 := putId_ans (P := P) T1 (b := D1) (s := f.from_) (by omega)
    rw [← eD2] at kD2
    obtain ⟨D3, eD3⟩ : ∃ x, x = D2 ++ ptext f.to := ⟨_, rfl⟩
    have lD3 := congrArg List.length eD3
    simp only [List.length_append, ptext_len] at lD3
    have kD3 := putId_ans (P := P) T1 (b := D2) (s := f.to) (by omega)
    rw [← eD3] at kD3
    simp only [hk] at r3
    simp at r3
    obtain ⟨fv1, fv2, fv3⟩ := vec_facts r3.2
    have kD4 := pputVec_ans (P := P) T1 (b := D3) (v := f.floor) fv2 F.floor (by omega)
    simp [c19, hR, hk, kD1, kD2, kD3, kD4]
    simp [pFrame, hk, eD1, eD2, eD3, plainss_En]

  by_cases hk' : f.kind = 1
  · have hk := hk'
    simp only [fP, hk] at hR
    obtain ⟨D1, eD1⟩ : ∃ x, x = ([] : Bytes) ++ vI 1 := ⟨_, rfl⟩
    have lD1 := congrArg List.length eD1
    simp only [List.length_append, ptext_len] at lD1
    have kD1 := wputI (P := P) T1 (b := []) (n := 1) (okN_of (by omega)) (by simp; omega)
    rw [← eD1] at kD1
    simp only [List.length_nil, List.nil_append, lv, En_nil] at lD1 eD1 kD1
    obtain ⟨D2, eD2⟩ : ∃ x, x = D1 ++ ptext f.from_ := ⟨_, rfl⟩
    have lD2 := congrArg List.length eD2
    simp only [List.length_append, ptext_len] at lD2
    have kD2 := putId_ans (P := P) T1 (b := D1) (s := f.from_) (by omega)
    rw [← eD2] at kD2
    obtain ⟨D3, eD3⟩ : ∃ x, x = D2 ++ ptext f.to := ⟨_, rfl⟩
    have lD3 := congrArg List.length eD3
    simp only [List.length_append, ptext_len] at lD3
    have kD3 := putId_ans (P := P) T1 (b := D2) (s := f.to) (by omega)
    rw [← eD3] at kD3
    simp only [hk] at r3
    simp at r3
    have r3L := r3.1.1
    simp only [listsR, Bool.and_eq_true, decide_eq_true_eq] at r3L
    obtain ⟨⟨⟨⟨⟨⟨⟨⟨q1, q2⟩, q3⟩, q4⟩, q5⟩, q6⟩, q7⟩, q8⟩, q9⟩ := r3L
    obtain ⟨fk1, fk2⟩ := know_facts q2 q1
    obtain ⟨fm1, fm2⟩ := mem_facts q5
    obtain ⟨fv1, fv2, fv3⟩ := vec_facts q6
    obtain ⟨fr1, fr2, fr3⟩ := rows_facts q7
    obtain ⟨fi1, fi2, fi3⟩ := items_facts q8
    have vc := vI_len' (n := f.clock) ⟨q3, q4⟩
    have vi := vL_len (n := f.items.length) (by unfold most; omega)
    obtain ⟨D4, eD4⟩ : ∃ x, x = D3 ++ pKnow f.know := ⟨_, rfl⟩
    have lD4 := congrArg List.length eD4
    simp only [List.length_append, ptext_len] at lD4
    have kD4 := pputKnow_ans (P := P) T1 (b := D3) (v := f.know) fk1 F.know (by omega)
    rw [← eD4] at kD4
    obtain ⟨D5, eD5⟩ : ∃ x, x = D4 ++ vI f.clock := ⟨_, rfl⟩
    have lD5 := congrArg List.length eD5
    simp only [List.length_append, ptext_len] at lD5
    have kD5 := wputI (P := P) T1 (b := D4) (n := f.clock) (okN_of ⟨q3, q4⟩) (by omega)
    rw [← eD5] at kD5
    obtain ⟨D6, eD6⟩ : ∃ x, x = D5 ++ pMem f.members ++ pVec f.certs ++ pRows f.rows := ⟨_, rfl⟩
    have lD6 := congrArg List.length eD6
    simp only [List.length_append] at lD6
    have kD6 := pputRows_ans (P := P) T1 (b := D5) (f := f) fv2 fr2 F.mem F.certs F.rows (by omega)
    rw [← eD6] at kD6
    simp only [fP, hk] at kD6
    have hZ := text_ans (P := P) T1 (l := toSI f.zone) (toSI_ok F.zin)
    rw [if_pos r3.1.2, toSI_rs] at hZ
    have lz := zone_len r3.1.2
    have vz := vL_len (n := (textL f.zone).length) (by unfold most; omega)
    obtain ⟨D7, eD7⟩ : ∃ x, x = D6 ++ ptext (textL f.zone) := ⟨_, rfl⟩
    have lD7 := congrArg List.length eD7
    simp only [List.length_append, ptext_len] at lD7
    have kD7 := wputText_ans (P := P) T1 (b := D6) (s := textL f.zone) (by omega)
    rw [← eD7] at kD7
    obtain ⟨D8, eD8⟩ : ∃ x, x = D7 ++ vint f.items.length := ⟨_, rfl⟩
    have lD8 := congrArg List.length eD8
    simp only [List.length_append, ptext_len] at lD8
    have kD8 := wputL (P := P) T1 (b := D7) (n := f.items.length) F.items (by omega)
    rw [← eD8] at kD8
    simp [c19, hR, hk, kD1, kD2, kD3, kD4, kD5, kD6, hZ, kD7, kD8]
    refine ppI_loop (f := f) T fi2 F.items f.items 0 D8 _ rfl (by omega) ⟨0, by simp, by simp [hk], by simp⟩ (by simp) (by simp) (by simp) (by simp) (by omega) ?_
    rintro st' ⟨p, hb, hp, hpn⟩ ha
    simp [hb, hp, hpn, ha, hk]
    simp [pFrame, hk, eD1, eD2, eD3, eD4, eD5, eD6, eD7, eD8, plainss_En]

  by_cases hk2 : f.kind = 2
  · have hk := hk2
    simp only [fP, hk] at hR
    obtain ⟨D1, eD1⟩ : ∃ x, x = ([] : Bytes) ++ vI 2 := ⟨_, rfl⟩
    have lD1 := congrArg List.length eD1
    simp only [List.length_append, ptext_len] at lD1
    have kD1 := wputI (P := P) T1 (b := []) (n := 2) (okN_of (by omega)) (by simp; omega)
    rw [← eD1] at kD1
    simp only [List.length_nil, List.nil_append, lv, En_nil] at lD1 eD1 kD1
    obtain ⟨D2, eD2⟩ : ∃ x, x = D1 ++ ptext f.from_ := ⟨_, rfl⟩
    have lD2 := congrArg List.length eD2
    simp only [List.length_append, ptext_len] at lD2
    have kD2 := putId_ans (P := P) T1 (b := D1) (s := f.from_) (by omega)
    rw [← eD2] at kD2
    obtain ⟨D3, eD3⟩ : ∃ x, x = D2 ++ ptext f.to := ⟨_, rfl⟩
    have lD3 := congrArg List.length eD3
    simp only [List.length_append, ptext_len] at lD3
    have kD3 := putId_ans (P := P) T1 (b := D2) (s := f.to) (by omega)
    rw [← eD3] at kD3
    simp only [hk] at r3
    simp at r3
    have r3L := r3.1
    simp only [listsR, Bool.and_eq_true, decide_eq_true_eq] at r3L
    obtain ⟨⟨⟨⟨⟨⟨⟨⟨q1, q2⟩, q3⟩, q4⟩, q5⟩, q6⟩, q7⟩, q8⟩, q9⟩ := r3L
    obtain ⟨fk1, fk2⟩ := know_facts q2 q1
    obtain ⟨fm1, fm2⟩ := mem_facts q5
    obtain ⟨fv1, fv2, fv3⟩ := vec_facts q6
    obtain ⟨fr1, fr2, fr3⟩ := rows_facts q7
    obtain ⟨fi1, fi2, fi3⟩ := items_facts q8
    have vc := vI_len' (n := f.clock) ⟨q3, q4⟩
    have vi := vL_len (n := f.items.length) (by unfold most; omega)
    obtain ⟨D4, eD4⟩ : ∃ x, x = D3 ++ pKnow f.know := ⟨_, rfl⟩
    have lD4 := congrArg List.length eD4
    simp only [List.length_append, ptext_len] at lD4
    have kD4 := pputKnow_ans (P := P) T1 (b := D3) (v := f.know) fk1 F.know (by omega)
    rw [← eD4] at kD4
    obtain ⟨D5, eD5⟩ : ∃ x, x = D4 ++ vI f.clock := ⟨_, rfl⟩
    have lD5 := congrArg List.length eD5
    simp only [List.length_append, ptext_len] at lD5
    have kD5 := wputI (P := P) T1 (b := D4) (n := f.clock) (okN_of ⟨q3, q4⟩) (by omega)
    rw [← eD5] at kD5
    obtain ⟨D6, eD6⟩ : ∃ x, x = D5 ++ pMem f.members ++ pVec f.certs ++ pRows f.rows := ⟨_, rfl⟩
    have lD6 := congrArg List.length eD6
    simp only [List.length_append] at lD6
    have kD6 := pputRows_ans (P := P) T1 (b := D5) (f := f) fv2 fr2 F.mem F.certs F.rows (by omega)
    rw [← eD6] at kD6
    simp only [fP, hk] at kD6
    obtain ⟨D8, eD8⟩ : ∃ x, x = D6 ++ vint f.items.length := ⟨_, rfl⟩
    have lD8 := congrArg List.length eD8
    simp only [List.length_append, ptext_len] at lD8
    have kD8 := wputL (P := P) T1 (b := D6) (n := f.items.length) F.items (by omega)
    rw [← eD8] at kD8
    simp [c19, hR, hk, kD1, kD2, kD3, kD4, kD5, kD6, kD8]
    refine ppI_loop (f := f) T fi2 F.items f.items 0 D8 _ rfl (by omega) ⟨0, by simp, by simp [hk], by simp⟩ (by simp) (by simp) (by simp) (by simp) (by omega) ?_
    rintro st' ⟨p, hb, hp, hpn⟩ ha
    have k9 := wputI (P := P) T1 (b := D8 ++ (f.items.map pItem).flatten) (n := 1) (okN_of (by omega)) (by simp only [List.length_append]; omega)
    have k10 := wputI (P := P) T1 (b := D8 ++ (f.items.map pItem).flatten) (n := 0) (okN_of (by omega)) (by simp only [List.length_append]; omega)
    obtain ⟨D9, eD9⟩ : ∃ x, x = D8 ++ (f.items.map pItem).flatten := ⟨_, rfl⟩
    rw [← eD9] at k9 k10 ha
    by_cases hw : f.whole = true
    · simp [hb, hp, hpn, ha, hk, hw, k9]
      simp [pFrame, hk, hw, eD1, eD2, eD3, eD4, eD5, eD6, eD8, eD9, plainss_En]
    · simp only [Bool.not_eq_true] at hw
      simp [hb, hp, hpn, ha, hk, hw, k10]
      simp [pFrame, hk, hw, eD1, eD2, eD3, eD4, eD5, eD6, eD8, eD9, plainss_En]

  · simp [hk, hk', hk2] at r3

end Go.Evl.Zone


/- What is laid: a frame's bytes: the document's. -/
namespace Go.Evl.Zone
open Go Go.Evl
set_option linter.unusedSimpArgs false
set_option linter.unusedVariables false
variable {P : Program}

open Go.Evl.Fl

set_option maxHeartbeats 4000000 in
theorem rframePut_ans (T : TI P) {f : Frame} (F : FOK f) (hr : frameR f = true) : ans (env P) 20 [.agg (fR f)] = some (lv (pFrame f)) := by
  have T1 := T.toTyped3.toTyped2.toTyped
  have hR := rframeRight_ans (P := P) T F
  rw [hr] at hR
  have hr0 := hr
  simp only [frameR, Bool.and_eq_true] at hr
  obtain ⟨⟨r1, r2⟩, r3⟩ := hr
  have i1 := idR_len r1
  have i2 := idR_len r2
  have v1 := vL_len (n := f.from_.length) (by unfold most; omega)
  have v2 := vL_len (n := f.to.length) (by unfold most; omega)
  have hM : most = 68719476736 := rfl
  have b0 := vI_len' (n := 0) (by omega)
  have b1 := vI_len' (n := 1) (by omega)
  have b2 := vI_len' (n := 2) (by omega)
  have b3 := vI_len' (n := 3) (by omega)
  refine ans_V rfl rfl ?_
  by_cases hk : f.kind = 3
  · simp only [fR, hk] at hR
    obtain ⟨D1, eD1⟩ : ∃ x, x = ([] : Bytes) ++ vI 3 := ⟨_, rfl⟩
    have lD1 := congrArg List.length eD1
    simp only [List.length_append, ptext_len] at lD1
    have kD1 := rputI (P := P) T1 (b := []) (n := 3) (okN_of (by omega)) (by simp; omega)
    rw [← eD1] at kD1
    simp only [List.length_nil, List.nil_append, lv, En_nil] at lD1 eD1 kD1
    obtain ⟨D2, eD2⟩ : ∃ x, x = D1 ++ ptext f.from_ := ⟨_, rfl⟩
    have lD2 := congrArg List.length eD2
    simp only [List.length_append, ptext_len] at lD2
    have kD2 := rputText_ans (P := P) T1 (b := D1) (s := f.from_) (by omega)
    rw [← eD2] at kD2
    obtain ⟨D3, eD3⟩ : ∃ x, x = D2 ++ ptext f.to := ⟨_, rfl⟩
    have lD3 := congrArg List.length eD3
    simp only [List.length_append, ptext_len] at lD3
    have kD3 := rputText_ans (P := P) T1 (b := D2) (s := f.to) (by omega)
    rw [← eD3] at kD3
    simp only [hk] at r3
    simp at r3
    obtain ⟨fv1, fv2, fv3⟩ := vec_facts r3.2
    have kD4 := rputVec_ans (P := P) T1 (b := D3) (v := f.floor) fv2 F.floor (by omega)
    simp [c20, hR, hk, kD1, kD2, kD3, kD4]
    simp [pFrame, hk, eD1, eD2, eD3, plainss_En]

  by_cases hk' : f.kind = 1
  · have hk := hk'
    simp only [fR, hk] at hR
    obtain ⟨D1, eD1⟩ : ∃ x, x = ([] : Bytes) ++ vI 1 := ⟨_, rfl⟩
    have lD1 := congrArg List.length eD1
    simp only [List.length_append, ptext_len] at lD1
    have kD1 := rputI (P := P) T1 (b := []) (n := 1) (okN_of (by omega)) (by simp; omega)
    rw [← eD1] at kD1
    simp only [List.length_nil, List.nil_append, lv, En_nil] at lD1 eD1 kD1
    obtain ⟨D2, eD2⟩ : ∃ x, x = D1 ++ ptext f.from_ := ⟨_, rfl⟩
    have lD2 := congrArg List.length eD2
    simp only [List.length_append, ptext_len] at lD2
    have kD2 := rputText_ans (P := P) T1 (b := D1) (s := f.from_) (by omega)
    rw [← eD2] at kD2
    obtain ⟨D3, eD3⟩ : ∃ x, x = D2 ++ ptext f.to := ⟨_, rfl⟩
    have lD3 := congrArg List.length eD3
    simp only [List.length_append, ptext_len] at lD3
    have kD3 := rputText_ans (P := P) T1 (b := D2) (s := f.to) (by omega)
    rw [← eD3] at kD3
    simp only [hk] at r3
    simp at r3
    have r3L := r3.1.1
    simp only [listsR, Bool.and_eq_true, decide_eq_true_eq] at r3L
    obtain ⟨⟨⟨⟨⟨⟨⟨⟨q1, q2⟩, q3⟩, q4⟩, q5⟩, q6⟩, q7⟩, q8⟩, q9⟩ := r3L
    obtain ⟨fk1, fk2⟩ := know_facts q2 q1
    obtain ⟨fm1, fm2⟩ := mem_facts q5
    obtain ⟨fv1, fv2, fv3⟩ := vec_facts q6
    obtain ⟨fr1, fr2, fr3⟩ := rows_facts q7
    obtain ⟨fi1, fi2, fi3⟩ := items_facts q8
    have vc := vI_len' (n := f.clock) ⟨q3, q4⟩
    have vi := vL_len (n := f.items.length) (by unfold most; omega)
    obtain ⟨D4, eD4⟩ : ∃ x, x = D3 ++ vint f.know.length := ⟨_, rfl⟩
    have lD4 := congrArg List.length eD4
    simp only [List.length_append, ptext_len] at lD4
    have kD4 := rputL (P := P) T1 (b := D3) (n := f.know.length) F.know (by simp only [pKnow, List.length_append] at fk2; omega)
    rw [← eD4] at kD4
    simp only [pKnow, pMem, pRows, List.length_append] at fk2 fm2 fr3
    obtain ⟨D5, eD5⟩ : ∃ x, x = D4 ++ (f.know.map pKRow).flatten := ⟨_, rfl⟩
    have lD5 := congrArg List.length eD5
    simp only [List.length_append, ptext_len] at lD5
    obtain ⟨D6, eD6⟩ : ∃ x, x = D5 ++ vI f.clock := ⟨_, rfl⟩
    have lD6 := congrArg List.length eD6
    simp only [List.length_append, ptext_len] at lD6
    have kD6 := rputI (P := P) T1 (b := D5) (n := f.clock) (okN_of ⟨q3, q4⟩) (by omega)
    rw [← eD6] at kD6
    obtain ⟨D7, eD7⟩ : ∃ x, x = D6 ++ vint f.members.length := ⟨_, rfl⟩
    have lD7 := congrArg List.length eD7
    simp only [List.length_append, ptext_len] at lD7
    have kD7 := rputL (P := P) T1 (b := D6) (n := f.members.length) F.mem (by omega)
    rw [← eD7] at kD7
    obtain ⟨D8, eD8⟩ : ∃ x, x = D7 ++ (f.members.map ptext).flatten := ⟨_, rfl⟩
    have lD8 := congrArg List.length eD8
    simp only [List.length_append, ptext_len] at lD8
    obtain ⟨D9, eD9⟩ : ∃ x, x = D8 ++ pVec f.certs := ⟨_, rfl⟩
    have lD9 := congrArg List.length eD9
    simp only [List.length_append, ptext_len] at lD9
    have kD9 := rputVec_ans (P := P) T1 (b := D8) (v := f.certs) fv2 F.certs (by omega)
    rw [← eD9] at kD9
    obtain ⟨D10, eD10⟩ : ∃ x, x = D9 ++ vint f.rows.length := ⟨_, rfl⟩
    have lD10 := congrArg List.length eD10
    simp only [List.length_append, ptext_len] at lD10
    have kD10 := rputL (P := P) T1 (b := D9) (n := f.rows.length) F.rows (by omega)
    rw [← eD10] at kD10
    obtain ⟨D11, eD11⟩ : ∃ x, x = D10 ++ (f.rows.map pMRow).flatten := ⟨_, rfl⟩
    have lD11 := congrArg List.length eD11
    simp only [List.length_append, ptext_len] at lD11
    have hZ := refText_ans (P := P) (l := f.zone)
    rw [if_pos r3.1.2] at hZ
    have lz := zone_len r3.1.2
    have vz := vL_len (n := (textL f.zone).length) (by unfold most; omega)
    obtain ⟨D12, eD12⟩ : ∃ x, x = D11 ++ ptext (textL f.zone) := ⟨_, rfl⟩
    have lD12 := congrArg List.length eD12
    simp only [List.length_append, ptext_len] at lD12
    have kD12 := rputText_ans (P := P) T1 (b := D11) (s := textL f.zone) (by omega)
    rw [← eD12] at kD12
    obtain ⟨D13, eD13⟩ : ∃ x, x = D12 ++ vint f.items.length := ⟨_, rfl⟩
    have lD13 := congrArg List.length eD13
    simp only [List.length_append, ptext_len] at lD13
    have kD13 := rputL (P := P) T1 (b := D12) (n := f.items.length) F.items (by omega)
    rw [← eD13] at kD13
    simp [c20, hR, hk, kD1, kD2, kD3, kD4]
    refine rputKnow_loop (f := f) T1 rfl fk1 F.know f.know 0 D4 _ rfl (by omega) ⟨0, by simp, by simp [hk], by simp⟩ (by simp) (by simp) (by omega) ?_
    rintro st1 ⟨p1, hb1, hp1, hn1⟩ ha1
    rw [← eD5] at ha1
    simp [hb1, hp1, hn1, ha1, kD6, kD7]
    refine rpM_loop (f := f) T1 rfl F.mem f.members 0 D7 _ rfl (by omega) ⟨p1, by simp [hb1], by simp [hp1, hn1], by simp; omega⟩ (by simp) (by simp) (by omega) ?_
    rintro st2 ⟨p2, hb2, hp2, hn2⟩ ha2
    rw [← eD8] at ha2
    simp [hb2, hp2, hn2, ha2, kD9, kD10]
    refine rpR_loop (f := f) T1 fr2 rfl F.rows f.rows 0 D10 _ rfl (by omega) ⟨p2, by simp [hb2], by simp [hp2, hn2], by simp; omega⟩ (by simp) (by simp) (by omega) ?_
    rintro st3 ⟨p3, hb3, hp3, hn3⟩ ha3
    rw [← eD11] at ha3
    simp [hb3, hp3, hn3, ha3, hk, hZ, kD12, kD13]
    refine rpI_loop (f := f) T fi2 rfl F.items f.items 0 D13 _ rfl (by omega) ⟨p3, by simp [hb3], by simp [hp3, hn3], by simp; omega⟩ (by simp) (by simp) (by omega) ?_
    rintro st4 ⟨p, hb, hp, hpn⟩ ha
    simp [hb, hp, hpn, ha, hk]
    simp [pFrame, hk, eD1, eD2, eD3, eD4, eD5, eD6, eD7, eD8, eD9, eD10, eD11, eD13, pKnow, pMem, pRows, eD12, plainss_En]

  by_cases hk2 : f.kind = 2
  · have hk := hk2
    simp only [fR, hk] at hR
    obtain ⟨D1, eD1⟩ : ∃ x, x = ([] : Bytes) ++ vI 2 := ⟨_, rfl⟩
    have lD1 := congrArg List.length eD1
    simp only [List.length_append, ptext_len] at lD1
    have kD1 := rputI (P := P) T1 (b := []) (n := 2) (okN_of (by omega)) (by simp; omega)
    rw [← eD1] at kD1
    simp only [List.length_nil, List.nil_append, lv, En_nil] at lD1 eD1 kD1
    obtain ⟨D2, eD2⟩ : ∃ x, x = D1 ++ ptext f.from_ := ⟨_, rfl⟩
    have lD2 := congrArg List.length eD2
    simp only [List.length_append, ptext_len] at lD2
    have kD2 := rputText_ans (P := P) T1 (b := D1) (s := f.from_) (by omega)
    rw [← eD2] at kD2
    obtain ⟨D3, eD3⟩ : ∃ x, x = D2 ++ ptext f.to := ⟨_, rfl⟩
    have lD3 := congrArg List.length eD3
    simp only [List.length_append, ptext_len] at lD3
    have kD3 := rputText_ans (P := P) T1 (b := D2) (s := f.to) (by omega)
    rw [← eD3] at kD3
    simp only [hk] at r3
    simp at r3
    have r3L := r3.1
    simp only [listsR, Bool.and_eq_true, decide_eq_true_eq] at r3L
    obtain ⟨⟨⟨⟨⟨⟨⟨⟨q1, q2⟩, q3⟩, q4⟩, q5⟩, q6⟩, q7⟩, q8⟩, q9⟩ := r3L
    obtain ⟨fk1, fk2⟩ := know_facts q2 q1
    obtain ⟨fm1, fm2⟩ := mem_facts q5
    obtain ⟨fv1, fv2, fv3⟩ := vec_facts q6
    obtain ⟨fr1, fr2, fr3⟩ := rows_facts q7
    obtain ⟨fi1, fi2, fi3⟩ := items_facts q8
    have vc := vI_len' (n := f.clock) ⟨q3, q4⟩
    have vi := vL_len (n := f.items.length) (by unfold most; omega)
    obtain ⟨D4, eD4⟩ : ∃ x, x = D3 ++ vint f.know.length := ⟨_, rfl⟩
    have lD4 := congrArg List.length eD4
    simp only [List.length_append, ptext_len] at lD4
    have kD4 := rputL (P := P) T1 (b := D3) (n := f.know.length) F.know (by simp only [pKnow, List.length_append] at fk2; omega)
    rw [← eD4] at kD4
    simp only [pKnow, pMem, pRows, List.length_append] at fk2 fm2 fr3
    obtain ⟨D5, eD5⟩ : ∃ x, x = D4 ++ (f.know.map pKRow).flatten := ⟨_, rfl⟩
    have lD5 := congrArg List.length eD5
    simp only [List.length_append, ptext_len] at lD5
    obtain ⟨D6, eD6⟩ : ∃ x, x = D5 ++ vI f.clock := ⟨_, rfl⟩
    have lD6 := congrArg List.length eD6
    simp only [List.length_append, ptext_len] at lD6
    have kD6 := rputI (P := P) T1 (b := D5) (n := f.clock) (okN_of ⟨q3, q4⟩) (by omega)
    rw [← eD6] at kD6
    obtain ⟨D7, eD7⟩ : ∃ x, x = D6 ++ vint f.members.length := ⟨_, rfl⟩
    have lD7 := congrArg List.length eD7
    simp only [List.length_append, ptext_len] at lD7
    have kD7 := rputL (P := P) T1 (b := D6) (n := f.members.length) F.mem (by omega)
    rw [← eD7] at kD7
    obtain ⟨D8, eD8⟩ : ∃ x, x = D7 ++ (f.members.map ptext).flatten := ⟨_, rfl⟩
    have lD8 := congrArg List.length eD8
    simp only [List.length_append, ptext_len] at lD8
    obtain ⟨D9, eD9⟩ : ∃ x, x = D8 ++ pVec f.certs := ⟨_, rfl⟩
    have lD9 := congrArg List.length eD9
    simp only [List.length_append, ptext_len] at lD9
    have kD9 := rputVec_ans (P := P) T1 (b := D8) (v := f.certs) fv2 F.certs (by omega)
    rw [← eD9] at kD9
    obtain ⟨D10, eD10⟩ : ∃ x, x = D9 ++ vint f.rows.length := ⟨_, rfl⟩
    have lD10 := congrArg List.length eD10
    simp only [List.length_append, ptext_len] at lD10
    have kD10 := rputL (P := P) T1 (b := D9) (n := f.rows.length) F.rows (by omega)
    rw [← eD10] at kD10
    obtain ⟨D11, eD11⟩ : ∃ x, x = D10 ++ (f.rows.map pMRow).flatten := ⟨_, rfl⟩
    have lD11 := congrArg List.length eD11
    simp only [List.length_append, ptext_len] at lD11
    obtain ⟨D13, eD13⟩ : ∃ x, x = D11 ++ vint f.items.length := ⟨_, rfl⟩
    have lD13 := congrArg List.length eD13
    simp only [List.length_append, ptext_len] at lD13
    have kD13 := rputL (P := P) T1 (b := D11) (n := f.items.length) F.items (by omega)
    rw [← eD13] at kD13
    simp [c20, hR, hk, kD1, kD2, kD3, kD4]
    refine rputKnow_loop (f := f) T1 rfl fk1 F.know f.know 0 D4 _ rfl (by omega) ⟨0, by simp, by simp [hk], by simp⟩ (by simp) (by simp) (by omega) ?_
    rintro st1 ⟨p1, hb1, hp1, hn1⟩ ha1
    rw [← eD5] at ha1
    simp [hb1, hp1, hn1, ha1, kD6, kD7]
    refine rpM_loop (f := f) T1 rfl F.mem f.members 0 D7 _ rfl (by omega) ⟨p1, by simp [hb1], by simp [hp1, hn1], by simp; omega⟩ (by simp) (by simp) (by omega) ?_
    rintro st2 ⟨p2, hb2, hp2, hn2⟩ ha2
    rw [← eD8] at ha2
    simp [hb2, hp2, hn2, ha2, kD9, kD10]
    refine rpR_loop (f := f) T1 fr2 rfl F.rows f.rows 0 D10 _ rfl (by omega) ⟨p2, by simp [hb2], by simp [hp2, hn2], by simp; omega⟩ (by simp) (by simp) (by omega) ?_
    rintro st3 ⟨p3, hb3, hp3, hn3⟩ ha3
    rw [← eD11] at ha3
    simp [hb3, hp3, hn3, ha3, hk, kD13]
    refine rpI_loop (f := f) T fi2 rfl F.items f.items 0 D13 _ rfl (by omega) ⟨p3, by simp [hb3], by simp [hp3, hn3], by simp; omega⟩ (by simp) (by simp) (by omega) ?_
    rintro st4 ⟨p, hb, hp, hpn⟩ ha
    have k9 := rputI (P := P) T1 (b := D13 ++ (f.items.map pItem).flatten) (n := 1) (okN_of (by omega)) (by simp only [List.length_append]; omega)
    have k10 := rputI (P := P) T1 (b := D13 ++ (f.items.map pItem).flatten) (n := 0) (okN_of (by omega)) (by simp only [List.length_append]; omega)
    obtain ⟨D14, eD14⟩ : ∃ x, x = D13 ++ (f.items.map pItem).flatten := ⟨_, rfl⟩
    rw [← eD14] at k9 k10 ha
    by_cases hw : f.whole = true
    · simp [hb, hp, hpn, ha, hk, hw, k9]
      simp [pFrame, hk, hw, eD1, eD2, eD3, eD4, eD5, eD6, eD7, eD8, eD9, eD10, eD11, eD13, pKnow, pMem, pRows, eD14, plainss_En]
    · simp only [Bool.not_eq_true] at hw
      simp [hb, hp, hpn, ha, hk, hw, k10]
      simp [pFrame, hk, hw, eD1, eD2, eD3, eD4, eD5, eD6, eD7, eD8, eD9, eD10, eD11, eD13, pKnow, pMem, pRows, eD14, plainss_En]

  · simp [hk, hk', hk2] at r3

end Go.Evl.Zone


/- What the statements hand to the program. -/
namespace Go.Evl.Zone
open Go Go.Evl
set_option linter.unusedSimpArgs false
set_option linter.unusedVariables false
variable {P : Program}

open Go.Evl.Fl

theorem to1_loop  {v : List Bytes} {ks : List Fr'} {K : Ex → St → Prop} (hL : v.length ≤ most) : ∀ (rest : List Bytes) (i : Nat) (st : St) (a : PV), v.drop i = rest → i ≤ v.length → st.σ 0 = lv v → st.σ 4 = iv i → st.σ 3 = a → Lst st.h 1 a (En (v.take i)) →
    (∀ st' a, st'.σ 3 = a → Lst st'.h 1 a (En v) → VN (env P) 56 st' ks K) → V (env P) 56 (.loop L56_0) st (.blk 0 :: ks) K
  | [], i, st, a, hr, hile, h0, hi, ha, hl, hend => by
    obtain ⟨hii, hlt, hd⟩ := drop_nil hr hile
    rw [hd] at hl
    rw [V_loop]
    simp [L56_0, h0, hi, hlt]
    exact hend _ a (by simp [ha]) (by simpa using hl.grow)
  | q :: rest, i, st, a, hr, hile, h0, hi, ha, hl, hend => by
    obtain ⟨hq, hlt, hr', ht⟩ := drop_cons hr
    have hmq := List.mem_of_getElem? hq
    have hc := En_at hq
    have hw := wrapS (i := i) (by unfold most at hL; omega)

    rw [V_loop]
    simp [L56_0, h0, hi, hlt, hc, hw, ha, chunks, elems, allLen]
    refine VP_app (ys := En (v.take i)) (by repeat (first | exact hl | refine Lst.grow ?_ | refine Lst.putN ?_ (by simp))) (by simp) (by simp) rfl (by simp; omega) fun v' H' wr rd e2 e3 _ => ?_
    simp [h0, hi, hw, e3]
    refine to1_loop hL rest (i + 1) _ v' hr' (by omega) (by simp [h0]) (by simp) (by simp) ?_ hend
    rw [ht, En_append]
    exact e2.grow

theorem to1_ans  {v : List Bytes} (hL : v.length ≤ most) : ans (env P) 56 [lv v] = some (.im (En v) false) := by
  refine ans_V rfl rfl ?_
  simp [c56]
  refine to1_loop hL v 0 _ _ rfl (by omega) (by simp) (by simp) rfl (by simp; exact Lst.nil) ?_
  intro st' a h3 hl
  simp [h3]
  exact (hl.grow (m := 0)).expV (plainss_En _)

theorem to3_loop  {v : List At} {ks : List Fr'} {K : Ex → St → Prop} (hL : v.length ≤ most) : ∀ (rest : List At) (i : Nat) (st : St) (a : PV), v.drop i = rest → i ≤ v.length → st.σ 0 = lv v → st.σ 4 = iv i → st.σ 3 = a → Lst st.h 2 a (En (v.take i)) →
    (∀ st' a, st'.σ 3 = a → Lst st'.h 2 a (En v) → VN (env P) 57 st' ks K) → V (env P) 57 (.loop L57_0) st (.blk 0 :: ks) K
  | [], i, st, a, hr, hile, h0, hi, ha, hl, hend => by
    obtain ⟨hii, hlt, hd⟩ := drop_nil hr hile
    rw [hd] at hl
    rw [V_loop]
    simp [L57_0, h0, hi, hlt]
    exact hend _ a (by simp [ha]) (by simpa using hl.grow)
  | q :: rest, i, st, a, hr, hile, h0, hi, ha, hl, hend => by
    obtain ⟨hq, hlt, hr', ht⟩ := drop_cons hr
    have hmq := List.mem_of_getElem? hq
    have hc := En_at hq
    have hw := wrapS (i := i) (by unfold most at hL; omega)

    rw [V_loop]
    simp [L57_0, h0, hi, hlt, hc, hw, ha, chunks, elems, allLen]
    refine VP_app (ys := En (v.take i)) (by repeat (first | exact hl | refine Lst.grow ?_ | refine Lst.putN ?_ (by simp))) (by simp) (by simp) rfl (by simp; omega) fun v' H' wr rd e2 e3 _ => ?_
    simp [h0, hi, hw, e3]
    refine to3_loop hL rest (i + 1) _ v' hr' (by omega) (by simp [h0]) (by simp) (by simp) ?_ hend
    rw [ht, En_append]
    exact e2.grow

theorem to3_ans  {v : List At} (hL : v.length ≤ most) : ans (env P) 57 [lv v] = some (.im (En v) false) := by
  refine ans_V rfl rfl ?_
  simp [c57]
  refine to3_loop hL v 0 _ _ rfl (by omega) (by simp) (by simp) rfl (by simp; exact Lst.nil) ?_
  intro st' a h3 hl
  simp [h3]
  exact (hl.grow (m := 0)).expV (plainss_En _)

theorem to2_ans {u : Int} {l : List Int} (hL : l.length ≤ most) : ans (env P) 152 [.agg [iv u, lv l]] = some (.agg [iv u, lv l]) := by
  refine ans_V rfl rfl ?_
  simp [c152, chunks, elems, allLen]
  refine VP_appN (ys := En ([] : List Int)) (N := 2) LN.nil (by simp) (by simp) (by simp) (by simp) (by simp; omega) fun v' H' wr rd e2' e3 e4 _ e6 => ?_
  have e2 := e2'.l
  have w0 : ∀ x ∈ wr, ¬ x = 0 := fun x hx => by have := e6 x hx; omega
  have w1 : ∀ x ∈ wr, ¬ x = 1 := fun x hx => by have := e6 x hx; omega
  have b0 := e4 0
  have b1 := e4 1
  simp at b0 b1
  rw [← En_append, List.nil_append] at e2
  cases e2 with
  | im hv hl =>
    subst hv
    simp [b0, b1, e3]
    try exact w0
  | row r xs hv hb hle he hr hl =>
    subst hv
    have hr1 : ¬ r = 1 := by intro e; subst e; rw [b1] at hb; cases hb
    have hp := plainss_En l
    simp only [En_length] at he hle
    simp [e3] at hr
    simp [b0, b1, e3, hb, hr1, hle, he, hp, hr]
    try exact w0

theorem to4_loop  {v : List KRow} (he : ∀ r ∈ v, r.extra.length ≤ most) {ks : List Fr'} {K : Ex → St → Prop} (hL : v.length ≤ most) : ∀ (rest : List KRow) (i : Nat) (st : St) (a : PV), v.drop i = rest → i ≤ v.length → st.σ 0 = lv v → st.σ 4 = iv i → st.σ 3 = a → Lst st.h 3 a (En (v.take i)) →
    (∀ st' a, st'.σ 3 = a → Lst st'.h 3 a (En v) → VN (env P) 55 st' ks K) → V (env P) 55 (.loop L55_0) st (.blk 0 :: ks) K
  | [], i, st, a, hr, hile, h0, hi, ha, hl, hend => by
    obtain ⟨hii, hlt, hd⟩ := drop_nil hr hile
    rw [hd] at hl
    rw [V_loop]
    simp [L55_0, h0, hi, hlt]
    exact hend _ a (by simp [ha]) (by simpa using hl.grow)
  | q :: rest, i, st, a, hr, hile, h0, hi, ha, hl, hend => by
    obtain ⟨hq, hlt, hr', ht⟩ := drop_cons hr
    have hmq := List.mem_of_getElem? hq
    have hc := En_at hq
    have hw := wrapS (i := i) (by unfold most at hL; omega)
    have hS := to2_ans (P := P) (u := q.upto) (l := q.extra) (he q hmq)
    rw [V_loop]
    simp [L55_0, h0, hi, hlt, hc, hw, ha, hS, chunks, elems, allLen]
    refine VP_app (ys := En (v.take i)) (by repeat (first | exact hl | refine Lst.grow ?_ | refine Lst.putN ?_ (by simp))) (by simp) (by simp) rfl (by simp; omega) fun v' H' wr rd e2 e3 _ => ?_
    simp [h0, hi, hw, e3]
    refine to4_loop he hL rest (i + 1) _ v' hr' (by omega) (by simp [h0]) (by simp) (by simp) ?_ hend
    rw [ht, En_append]
    exact e2.grow

theorem to4_ans  {v : List KRow} (he : ∀ r ∈ v, r.extra.length ≤ most) (hL : v.length ≤ most) : ans (env P) 55 [lv v] = some (.im (En v) false) := by
  refine ans_V rfl rfl ?_
  simp [c55]
  refine to4_loop he hL v 0 _ _ rfl (by omega) (by simp) (by simp) rfl (by simp; exact Lst.nil) ?_
  intro st' a h3 hl
  simp [h3]
  exact (hl.grow (m := 0)).expV (plainss_En _)

theorem to10_loop  {v : List MRow} (he : ∀ r ∈ v, r.vec.length ≤ most) {ks : List Fr'} {K : Ex → St → Prop} (hL : v.length ≤ most) : ∀ (rest : List MRow) (i : Nat) (st : St) (a : PV), v.drop i = rest → i ≤ v.length → st.σ 0 = lv v → st.σ 4 = iv i → st.σ 3 = a → Lst st.h 2 a (En (v.take i)) →
    (∀ st' a, st'.σ 3 = a → Lst st'.h 2 a (En v) → VN (env P) 58 st' ks K) → V (env P) 58 (.loop L58_0) st (.blk 0 :: ks) K
  | [], i, st, a, hr, hile, h0, hi, ha, hl, hend => by
    obtain ⟨hii, hlt, hd⟩ := drop_nil hr hile
    rw [hd] at hl
    rw [V_loop]
    simp [L58_0, h0, hi, hlt]
    exact hend _ a (by simp [ha]) (by simpa using hl.grow)
  | q :: rest, i, st, a, hr, hile, h0, hi, ha, hl, hend => by
    obtain ⟨hq, hlt, hr', ht⟩ := drop_cons hr
    have hmq := List.mem_of_getElem? hq
    have hc := En_at hq
    have hw := wrapS (i := i) (by unfold most at hL; omega)
    have hS := to3_ans (P := P) (v := q.vec) (he q hmq)
    rw [V_loop]
    simp [L58_0, h0, hi, hlt, hc, hw, ha, hS, chunks, elems, allLen]
    refine VP_app (ys := En (v.take i)) (by repeat (first | exact hl | refine Lst.grow ?_ | refine Lst.putN ?_ (by simp))) (by simp) (by simp) rfl (by simp; omega) fun v' H' wr rd e2 e3 _ => ?_
    simp [h0, hi, hw, e3]
    refine to10_loop he hL rest (i + 1) _ v' hr' (by omega) (by simp [h0]) (by simp) (by simp) ?_ hend
    rw [ht, En_append]
    exact e2.grow

theorem to10_ans  {v : List MRow} (he : ∀ r ∈ v, r.vec.length ≤ most) (hL : v.length ≤ most) : ans (env P) 58 [lv v] = some (.im (En v) false) := by
  refine ans_V rfl rfl ?_
  simp [c58]
  refine to10_loop he hL v 0 _ _ rfl (by omega) (by simp) (by simp) rfl (by simp; exact Lst.nil) ?_
  intro st' a h3 hl
  simp [h3]
  exact (hl.grow (m := 0)).expV (plainss_En _)

theorem ver7_ans {q : Item} : ans (env P) 224 [.agg [sv q.id, iv q.seq, iv q.stamp]] = some (.agg [sv q.id, iv q.seq, iv q.stamp]) := by
  refine ans_V rfl rfl ?_
  simp [c224]
  repeat' (first
    | (refine VG_sp (fun h => ?_) (fun h => ?_) <;> simp [h])
    | (refine VB_sp (fun h => ?_) (fun h => ?_) <;> simp [h]))
  skip

theorem to7_ans (T : Typed P) {q : Item} : ans (env P) 153 [.agg (itR q)] = some (.agg (itP q)) := by
  refine ans_V rfl rfl ?_
  have hV := ver7_ans (P := P) (q := q)
  have hS := spot_ans (P := P) T (x := q.x) (y := q.y)
  simp only [placeV] at hS
  simp [c153, hV, hS]
  repeat' (first
    | (refine VG_sp (fun h => ?_) (fun h => ?_) <;> simp [h, hV, hS])
    | (refine VB_sp (fun h => ?_) (fun h => ?_) <;> simp [h, hV, hS]))
  skip

theorem to8_loop  {v : List Item} (T : Typed P) {ks : List Fr'} {K : Ex → St → Prop} (hL : v.length ≤ most) : ∀ (rest : List Item) (i : Nat) (st : St) (a : PV), v.drop i = rest → i ≤ v.length → st.σ 0 = lvR v → st.σ 4 = iv i → st.σ 3 = a → Lst st.h 8 a (EnP (v.take i)) →
    (∀ st' a, st'.σ 3 = a → Lst st'.h 8 a (EnP v) → VN (env P) 60 st' ks K) → V (env P) 60 (.loop L60_0) st (.blk 0 :: ks) K
  | [], i, st, a, hr, hile, h0, hi, ha, hl, hend => by
    obtain ⟨hii, hlt, hd⟩ := drop_nil hr hile
    rw [hd] at hl
    rw [V_loop]
    simp [L60_0, h0, hi, hlt]
    exact hend _ a (by simp [ha]) (by simpa using hl.grow)
  | q :: rest, i, st, a, hr, hile, h0, hi, ha, hl, hend => by
    obtain ⟨hq, hlt, hr', ht⟩ := drop_cons hr
    have hmq := List.mem_of_getElem? hq
    have hc := EnR_at hq
    have hw := wrapS (i := i) (by unfold most at hL; omega)
    have hS := to7_ans (P := P) T (q := q)
    rw [V_loop]
    simp [L60_0, h0, hi, hlt, hc, hw, ha, hS, chunks, elems, allLen]
    refine VP_app (ys := EnP (v.take i)) (by repeat (first | exact hl | refine Lst.grow ?_ | refine Lst.putN ?_ (by simp))) (by simp) (by simp) rfl (by simp; omega) fun v' H' wr rd e2 e3 _ => ?_
    simp [h0, hi, hw, e3]
    refine to8_loop T hL rest (i + 1) _ v' hr' (by omega) (by simp [h0]) (by simp) (by simp) ?_ hend
    rw [ht, EnP_append]
    exact e2.grow

theorem to8_ans  {v : List Item} (T : Typed P) (hL : v.length ≤ most) : ans (env P) 60 [lvR v] = some (.im (EnP v) false) := by
  refine ans_V rfl rfl ?_
  simp [c60]
  refine to8_loop T hL v 0 _ _ rfl (by omega) (by simp) (by simp) rfl (by simp; exact Lst.nil) ?_
  intro st' a h3 hl
  simp [h3]
  exact (hl.grow (m := 0)).expV (plainss_EnP _)

end Go.Evl.Zone


/- FrameRights: its function answers true. -/
namespace Go.Evl.Zone
open Go Go.Evl
set_option linter.unusedSimpArgs false
set_option linter.unusedVariables false
variable {P : Program}

open Go.Evl.Fl
def fewI (q : Item) : Bool := decide (q.x ≤ 1099511627776) && decide (-1099511627776 ≤ q.x) && decide (q.y ≤ 1099511627776) && decide (-1099511627776 ≤ q.y) && decide (q.text.length ≤ 100)
def fewZ (q : RS) : Bool := decide (q.x ≤ 1099511627776) && decide (-1099511627776 ≤ q.x) && decide (q.y ≤ 1099511627776) && decide (-1099511627776 ≤ q.y) && decide (q.s ≤ 1099511627776) && decide (-1099511627776 ≤ q.s)
def few70 (f : Frame) : Bool := decide (f.know.length ≤ 70) && decide (f.members.length ≤ 70) && decide (f.certs.length ≤ 70) && decide (f.rows.length ≤ 70) && decide (f.items.length ≤ 40) && decide (f.floor.length ≤ 70) && decide (f.zone.length ≤ 40)
def fewF (f : Frame) : Bool := few70 f && f.rows.all (fun r => decide (r.vec.length ≤ 70)) && f.know.all (fun r => decide (r.extra.length ≤ 200)) && f.items.all fewI && f.zone.all fewZ

theorem fwR_loop {f : Frame} {v : List MRow} (hv : f.rows = v) {ks : List Fr'} {K : Ex → St → Prop} (hL : v.length ≤ most) : ∀ (rest : List MRow) (i : Nat) (st : St), v.drop i = rest → i ≤ v.length → (∃ p, st.σ 1 = .ptr p 0 ∧ st.h.at_ p = .box (fR f) ∧ p < st.h.n) → st.σ 3 = iv i →
    (∀ st', rest.all (fun r => decide (r.vec.length ≤ 70)) = false → st'.σ 2 = bv false → K .ret st') → (∀ st', (∃ p, st'.σ 1 = .ptr p 0 ∧ st'.h.at_ p = .box (fR f) ∧ p < st'.h.n) → rest.all (fun r => decide (r.vec.length ≤ 70)) = true → VN (env P) 13 st' ks K) → V (env P) 13 (.loop L13_0) st (.blk 0 :: ks) K
  | [], i, st, hr, hile, ⟨p0, hb, hp0, hpn⟩, hi, hret, hend => by
    obtain ⟨hii, hlt, hd⟩ := drop_nil hr hile
    rw [V_loop]
    simp [L13_0, hb, hp0, hpn, hi, hlt, hv]
    exact hend _ ⟨p0, by simp [hb], by simp [hp0, hpn], by simp; omega⟩ rfl
  | q :: rest, i, st, hr, hile, ⟨p0, hb, hp0, hpn⟩, hi, hret, hend => by
    obtain ⟨hq, hlt, hr', _⟩ := drop_cons hr
    have hm := List.mem_of_getElem? hq
    have hc := En_at hq
    have hw := wrapS (i := i) (by unfold most at hL; omega)
    have hne : ¬ p0 = st.h.n := by omega
    have hpn1 : p0 < st.h.n + 1 := by omega

    rw [V_loop]
    simp [L13_0, hb, hp0, hpn, hne, hpn1, hi, hlt, hc, hw, hv]
    repeat' (first
      | (refine VG_sp (fun h => ?_) (fun h => ?_) <;> simp [h, hb, hp0, hpn, hne, hpn1, hi, hlt, hc, hw, hv])
      | (refine VB_sp (fun h => ?_) (fun h => ?_) <;> simp [h, hb, hp0, hpn, hne, hpn1, hi, hlt, hc, hw, hv]))
    all_goals first
      | exact hret _ (by simp_all [] <;> (intros; first | omega | (exfalso; omega) | (simp_all; done))) (by simp)
      | exact fwR_loop hv hL rest (i + 1) _ hr' (by omega) ⟨p0, by simp [hb], by simp [hp0, hpn, hne, hpn1], by simp; omega⟩ (by simp [hw]) (fun st' x y => hret st' (by simp_all []) y) (fun st' x0 x => hend st' x0 (by simp_all [] <;> (first | omega | (intros; omega))))

theorem fwK_loop {f : Frame} {v : List KRow} (hv : f.know = v) {ks : List Fr'} {K : Ex → St → Prop} (hL : v.length ≤ most) : ∀ (rest : List KRow) (i : Nat) (st : St), v.drop i = rest → i ≤ v.length → (∃ p, st.σ 1 = .ptr p 0 ∧ st.h.at_ p = .box (fR f) ∧ p < st.h.n) → st.σ 4 = iv i →
    (∀ st', rest.all (fun r => decide (r.extra.length ≤ 200)) = false → st'.σ 2 = bv false → K .ret st') → (∀ st', (∃ p, st'.σ 1 = .ptr p 0 ∧ st'.h.at_ p = .box (fR f) ∧ p < st'.h.n) → rest.all (fun r => decide (r.extra.length ≤ 200)) = true → VN (env P) 13 st' ks K) → V (env P) 13 (.loop L13_1) st (.blk 2 :: ks) K
  | [], i, st, hr, hile, ⟨p0, hb, hp0, hpn⟩, hi, hret, hend => by
    obtain ⟨hii, hlt, hd⟩ := drop_nil hr hile
    rw [V_loop]
    simp [L13_1, hb, hp0, hpn, hi, hlt, hv]
    exact hend _ ⟨p0, by simp [hb], by simp [hp0, hpn], by simp; omega⟩ rfl
  | q :: rest, i, st, hr, hile, ⟨p0, hb, hp0, hpn⟩, hi, hret, hend => by
    obtain ⟨hq, hlt, hr', _⟩ := drop_cons hr
    have hm := List.mem_of_getElem? hq
    have hc := En_at hq
    have hw := wrapS (i := i) (by unfold most at hL; omega)
    have hne : ¬ p0 = st.h.n := by omega
    have hpn1 : p0 < st.h.n + 1 := by omega

    rw [V_loop]
    simp [L13_1, hb, hp0, hpn, hne, hpn1, hi, hlt, hc, hw, hv]
    repeat' (first
      | (refine VG_sp (fun h => ?_) (fun h => ?_) <;> simp [h, hb, hp0, hpn, hne, hpn1, hi, hlt, hc, hw, hv])
      | (refine VB_sp (fun h => ?_) (fun h => ?_) <;> simp [h, hb, hp0, hpn, hne, hpn1, hi, hlt, hc, hw, hv]))
    all_goals first
      | exact hret _ (by simp_all [] <;> (intros; first | omega | (exfalso; omega) | (simp_all; done))) (by simp)
      | exact fwK_loop hv hL rest (i + 1) _ hr' (by omega) ⟨p0, by simp [hb], by simp [hp0, hpn, hne, hpn1], by simp; omega⟩ (by simp [hw]) (fun st' x y => hret st' (by simp_all []) y) (fun st' x0 x => hend st' x0 (by simp_all [] <;> (first | omega | (intros; omega))))

theorem fwI_loop {f : Frame} {v : List Item} (hv : f.items = v) {ks : List Fr'} {K : Ex → St → Prop} (hL : v.length ≤ most) : ∀ (rest : List Item) (i : Nat) (st : St), v.drop i = rest → i ≤ v.length → (∃ p, st.σ 1 = .ptr p 0 ∧ st.h.at_ p = .box (fR f) ∧ p < st.h.n) → st.σ 5 = iv i →
    (∀ st', rest.all fewI = false → st'.σ 2 = bv false → K .ret st') → (∀ st', (∃ p, st'.σ 1 = .ptr p 0 ∧ st'.h.at_ p = .box (fR f) ∧ p < st'.h.n) → rest.all fewI = true → VN (env P) 13 st' ks K) → V (env P) 13 (.loop L13_2) st (.blk 4 :: ks) K
  | [], i, st, hr, hile, ⟨p0, hb, hp0, hpn⟩, hi, hret, hend => by
    obtain ⟨hii, hlt, hd⟩ := drop_nil hr hile
    rw [V_loop]
    simp [L13_2, hb, hp0, hpn, hi, hlt, hv]
    exact hend _ ⟨p0, by simp [hb], by simp [hp0, hpn], by simp; omega⟩ rfl
  | q :: rest, i, st, hr, hile, ⟨p0, hb, hp0, hpn⟩, hi, hret, hend => by
    obtain ⟨hq, hlt, hr', _⟩ := drop_cons hr
    have hm := List.mem_of_getElem? hq
    have hc := EnR_at hq
    have hw := wrapS (i := i) (by unfold most at hL; omega)
    have hne : ¬ p0 = st.h.n := by omega
    have hpn1 : p0 < st.h.n + 1 := by omega

    rw [V_loop]
    simp [L13_2, hb, hp0, hpn, hne, hpn1, hi, hlt, hc, hw, hv, sv_size]
    repeat' (first
      | (refine VG_sp (fun h => ?_) (fun h => ?_) <;> simp [h, hb, hp0, hpn, hne, hpn1, hi, hlt, hc, hw, hv, sv_size])
      | (refine VB_sp (fun h => ?_) (fun h => ?_) <;> simp [h, hb, hp0, hpn, hne, hpn1, hi, hlt, hc, hw, hv, sv_size]))
    all_goals first
      | exact hret _ (by simp_all [fewI] <;> (intros; first | omega | (exfalso; omega) | (simp_all; done))) (by simp)
      | exact fwI_loop hv hL rest (i + 1) _ hr' (by omega) ⟨p0, by simp [hb], by simp [hp0, hpn, hne, hpn1], by simp; omega⟩ (by simp [hw]) (fun st' x y => hret st' (by simp_all [fewI]) y) (fun st' x0 x => hend st' x0 (by simp_all [fewI] <;> (first | omega | (intros; omega))))

theorem fwZ_loop {f : Frame} {v : List RS} (hv : f.zone = v) {ks : List Fr'} {K : Ex → St → Prop} (hL : v.length ≤ most) : ∀ (rest : List RS) (i : Nat) (st : St), v.drop i = rest → i ≤ v.length → (∃ p, st.σ 1 = .ptr p 0 ∧ st.h.at_ p = .box (fR f) ∧ p < st.h.n) → st.σ 7 = iv i →
    (∀ st', rest.all fewZ = false → st'.σ 2 = bv false → K .ret st') → (∀ st', (∃ p, st'.σ 1 = .ptr p 0 ∧ st'.h.at_ p = .box (fR f) ∧ p < st'.h.n) → rest.all fewZ = true → VN (env P) 13 st' ks K) → V (env P) 13 (.loop L13_3) st (.blk 6 :: ks) K
  | [], i, st, hr, hile, ⟨p0, hb, hp0, hpn⟩, hi, hret, hend => by
    obtain ⟨hii, hlt, hd⟩ := drop_nil hr hile
    rw [V_loop]
    simp [L13_3, hb, hp0, hpn, hi, hlt, hv]
    exact hend _ ⟨p0, by simp [hb], by simp [hp0, hpn], by simp; omega⟩ rfl
  | q :: rest, i, st, hr, hile, ⟨p0, hb, hp0, hpn⟩, hi, hret, hend => by
    obtain ⟨hq, hlt, hr', _⟩ := drop_cons hr
    have hm := List.mem_of_getElem? hq
    have hc := rsV_at hq
    have hw := wrapS (i := i) (by unfold most at hL; omega)
    have hne : ¬ p0 = st.h.n := by omega
    have hpn1 : p0 < st.h.n + 1 := by omega

    rw [V_loop]
    simp [L13_3, hb, hp0, hpn, hne, hpn1, hi, hlt, hc, hw, hv, RS.cells]
    repeat' (first
      | (refine VG_sp (fun h => ?_) (fun h => ?_) <;> simp [h, hb, hp0, hpn, hne, hpn1, hi, hlt, hc, hw, hv, RS.cells])
      | (refine VB_sp (fun h => ?_) (fun h => ?_) <;> simp [h, hb, hp0, hpn, hne, hpn1, hi, hlt, hc, hw, hv, RS.cells]))
    all_goals first
      | exact hret _ (by simp_all [fewZ] <;> (intros; first | omega | (exfalso; omega) | (simp_all; done))) (by simp)
      | exact fwZ_loop hv hL rest (i + 1) _ hr' (by omega) ⟨p0, by simp [hb], by simp [hp0, hpn, hne, hpn1], by simp; omega⟩ (by simp [hw]) (fun st' x y => hret st' (by simp_all [fewZ]) y) (fun st' x0 x => hend st' x0 (by simp_all [fewZ] <;> (first | omega | (intros; omega))))

theorem few12_ans {f : Frame} : ans (env P) 13 [.agg (fR f)] = some (bv (fewF f)) := by
  refine ans_V rfl rfl ?_
  simp [c13]
  repeat' (first
    | (refine VG_sp (fun h2 => ?_) (fun h2 => ?_) <;> simp [h2])
    | (refine VB_sp (fun h2 => ?_) (fun h2 => ?_) <;> simp [h2]))
  all_goals first
    | (simp_all [fewF, few70] <;> intros <;> first | omega | (exfalso; omega) | (simp_all; done))
    | skip
  have h70 : few70 f = true := by simp_all [few70]; omega
  have hl := h70
  simp only [few70, Bool.and_eq_true, decide_eq_true_eq] at hl
  have hM : most = 68719476736 := rfl
  refine fwR_loop (f := f) rfl (by omega) f.rows 0 _ rfl (by omega) ⟨0, by simp, by simp, by simp⟩ (by simp) ?_ ?_
  · intro st' ha h2; simp [h2, fewF, ha]
  · rintro st1 ⟨p1, hb1, hp1, hn1⟩ ha1
    simp
    refine fwK_loop (f := f) rfl (by omega) f.know 0 _ rfl (by omega) ⟨p1, by simp [hb1], by simp [hp1, hn1], by simp; omega⟩ (by simp) ?_ ?_
    · intro st' ha h2; simp [h2, fewF, ha]
    · rintro st2 ⟨p2, hb2, hp2, hn2⟩ ha2
      simp
      refine fwI_loop (f := f) rfl (by omega) f.items 0 _ rfl (by omega) ⟨p2, by simp [hb2], by simp [hp2, hn2], by simp; omega⟩ (by simp) ?_ ?_
      · intro st' ha h2; simp [h2, fewF, ha]
      · rintro st3 ⟨p3, hb3, hp3, hn3⟩ ha3
        simp
        refine fwZ_loop (f := f) rfl (by omega) f.zone 0 _ rfl (by omega) ⟨p3, by simp [hb3], by simp [hp3, hn3], by simp; omega⟩ (by simp) ?_ ?_
        · intro st' ha h2; simp [h2, fewF, ha]
        · rintro st4 _ ha4
          simp [fewF, h70, ha1, ha2, ha3, ha4]

theorem r6Same_ans {a b : Bytes} : ans (env P) 18 [lv a, lv b] = some (bv (decide (a = b))) := by
  refine ans_V rfl rfl ?_
  have he := fun t cx cy => evBin_seql (P := P) (t := t) (cx := cx) (cy := cy) a b
  simp [c18, elems, bytesOf_En, he]

theorem to12_ans (T : Typed P) {f : Frame} (F : FOK f) : ans (env P) 16 [.agg (fR f)] = some (.agg (fP f)) := by
  have k1 := to4_ans (P := P) (v := f.know) F.ext F.know
  have k2 := to1_ans (P := P) (v := f.members) F.mem
  have k3 := to3_ans (P := P) (v := f.certs) F.certs
  have k4 := to10_ans (P := P) (v := f.rows) F.rvec F.rows
  have k5 := to_ans (P := P) T (l := f.zone) F.zone
  have k6 := to8_ans (P := P) (v := f.items) T F.items
  have k7 := to3_ans (P := P) (v := f.floor) F.floor
  refine ans_V rfl rfl ?_
  simp [c16, k1, k2, k3, k4, k5, k6, k7]

theorem few_FOK {f : Frame} (h : fewF f = true) (i1 : ∀ a ∈ f.know, a.id.length ≤ big) (i2 : ∀ a ∈ f.members, a.length ≤ big) (i3 : ∀ a ∈ f.certs, a.id.length ≤ big) (i4 : ∀ a ∈ f.rows, a.id.length ≤ big) (i5 : ∀ a ∈ f.rows, ∀ x ∈ a.vec, x.id.length ≤ big) (i6 : ∀ a ∈ f.floor, a.id.length ≤ big) : FOK f := by
  simp only [fewF, few70, Bool.and_eq_true, decide_eq_true_eq, List.all_eq_true] at h
  have hM : most = 68719476736 := rfl
  obtain ⟨⟨⟨⟨⟨⟨⟨⟨⟨⟨h1, h2⟩, h3⟩, h4⟩, h5⟩, h6⟩, h7⟩, h8⟩, h9⟩, h10⟩, h11⟩ := h
  refine ⟨by omega, i1, fun a ha => by have := h9 a ha; omega, by omega, i2, by omega, i3, by omega, i4, fun a ha => by have := h8 a ha; omega, i5, by omega, ?_, by omega, ?_, by omega, i6⟩
  · intro q hq
    have := h11 q hq
    simp only [fewZ, Bool.and_eq_true, decide_eq_true_eq] at this
    unfold RS.sm smI
    omega
  · intro q hq
    have := h10 q hq
    simp only [fewI, Bool.and_eq_true, decide_eq_true_eq] at this
    unfold Item.sm smI
    omega

theorem frameRights_ans (T : TI P) (told : ans (env P) 14 [] = some (bv true)) {f : Frame} (i1 : ∀ a ∈ f.know, a.id.length ≤ big) (i2 : ∀ a ∈ f.members, a.length ≤ big) (i3 : ∀ a ∈ f.certs, a.id.length ≤ big) (i4 : ∀ a ∈ f.rows, a.id.length ≤ big) (i5 : ∀ a ∈ f.rows, ∀ x ∈ a.vec, x.id.length ≤ big) (i6 : ∀ a ∈ f.floor, a.id.length ≤ big) : ans (env P) 3 [.agg (fR f)] = some (bv true) := by
  have hf := few12_ans (P := P) (f := f)
  refine ans_V rfl rfl ?_
  by_cases h : fewF f = true
  · have F := few_FOK h i1 i2 i3 i4 i5 i6
    rw [h] at hf
    have k1 := to12_ans (P := P) T.toTyped3.toTyped2.toTyped F
    have k2 := frameRight_ans (P := P) F
    have k3 := rframeRight_ans (P := P) T F
    have k4 : ∃ b : Bytes, ans (env P) 19 [.agg (fP f)] = some (lv b) ∧ ans (env P) 20 [.agg (fR f)] = some (lv b) := by
      by_cases hr : frameR f = true
      · exact ⟨_, framePut_ans (P := P) T F hr, rframePut_ans (P := P) T F hr⟩
      · simp only [Bool.not_eq_true] at hr
        rw [hr] at k2 k3
        refine ⟨[], ?_, ?_⟩
        · refine ans_V rfl rfl ?_
          simp [c19, k2]
        · refine ans_V rfl rfl ?_
          simp [c20, k3]
    obtain ⟨b, k5, k6⟩ := k4
    have k7 := r6Same_ans (P := P) (a := b) (b := b)
    have k8 : ∀ (a b : Bool), evBin P .eql 4 false false (bv a) (bv b) = some (bv (a == b)) := fun a b => evBin_bb T.t4
    simp [c3, hf, told, k1, k2, k3, k5, k6, k7, k8]
  · simp only [Bool.not_eq_true] at h
    rw [h] at hf
    simp [c3, hf, told]

end Go.Evl.Zone

