/- The evaluator's texts CEnc to NFit, joined. -/
import Derived.Test.YtcphhjlnfckoiaaGreatEv5
import Derived.Test.YtcphhjlnfckoiaaGreatChecked
import Derived.WalkKit
set_option linter.all false
set_option linter.deprecated false
set_option linter.unusedVariables false
set_option linter.unusedSimpArgs false
set_option linter.unnecessarySimpa false
namespace Go.Evl.Zone
open Go Go.Evl
variable {P : Program}
abbrev Bytes := List UInt8
abbrev iv (n : Int) : PV := .val (.int .i64 n)
abbrev bv (b : Bool) : PV := .val (.bool b)
class Enc (α : Type) where
  c : α → List PV
  k : Nat
  len : ∀ a, (c a).length = k
  pl : ∀ a, plains (c a) = some (c a)
def En {α : Type} [Enc α] (l : List α) : List (List PV) := l.map Enc.c
abbrev lv {α : Type} [Enc α] (l : List α) : PV := .im (En l) false
section
variable {α : Type} [Enc α]
@[simp] theorem En_length (l : List α) : (En l).length = l.length := by simp [En]
@[simp] theorem En_nil : En ([] : List α) = [] := rfl
theorem En_append (a b : List α) : En (a ++ b) = En a ++ En b := by simp [En]
@[simp] theorem allLen_En {k : Nat} (h : Enc.k α = k) (l : List α) : allLen k (En l) = true := by
  rw [allLen_iff]
  intro x hx
  simp only [En, List.mem_map] at hx
  obtain ⟨a, _, rfl⟩ := hx
  rw [Enc.len, h]
theorem plainss_En (l : List α) : plainss (En l) = some (En l) := plainss_ok fun y hy => by
  simp only [En, List.mem_map] at hy
  obtain ⟨a, _, rfl⟩ := hy
  exact Enc.pl a
theorem En_at {l : List α} {i : Nat} {q : α} (h : l[i]? = some q) : ∀ hi, (En l)[i]'hi = Enc.c q := fun hi => by
  have h2 := (List.getElem?_eq_some_iff.1 h).2
  simp only [En, List.getElem_map, h2]
end
instance : Enc Int := ⟨fun n => [iv n], 1, fun _ => rfl, fun _ => rfl⟩
instance : Enc UInt8 := ⟨fun b => [.val (.int .u8 (b.toNat : Int))], 1, fun _ => rfl, fun _ => rfl⟩
instance : Enc Bytes := ⟨fun s => [sv s], 1, fun _ => rfl, fun _ => rfl⟩
@[simp] theorem Enc_Int (n : Int) : Enc.c n = [iv n] := rfl
@[simp] theorem Enc_u8 (b : UInt8) : Enc.c b = [.val (.int .u8 (b.toNat : Int))] := rfl
@[simp] theorem Enc_Bytes (s : Bytes) : Enc.c s = [sv s] := rfl
@[simp] theorem Enc_kInt : Enc.k Int = 1 := rfl
@[simp] theorem Enc_ku8 : Enc.k UInt8 = 1 := rfl
@[simp] theorem Enc_kBytes : Enc.k Bytes = 1 := rfl
end Go.Evl.Zone

namespace Go.Evl.Zone
open Go Go.Evl
variable {P : Program}
end Go.Evl.Zone

namespace Go.Evl.Zone
open Go Go.Evl
variable {P : Program}
structure At where
  id : Bytes
  n : Int
  deriving DecidableEq
structure KRow where
  id : Bytes
  upto : Int
  extra : List Int
  deriving DecidableEq
structure MRow where
  id : Bytes
  vec : List At
  deriving DecidableEq
instance : Enc At := ⟨fun a => [sv a.id, iv a.n], 2, fun _ => rfl, fun _ => rfl⟩
instance : Enc KRow := ⟨fun a => [sv a.id, iv a.upto, lv a.extra], 3, fun _ => rfl, fun _ => rfl⟩
instance : Enc MRow := ⟨fun a => [sv a.id, lv a.vec], 2, fun _ => rfl, fun _ => rfl⟩
@[simp] theorem Enc_At (a : At) : Enc.c a = [sv a.id, iv a.n] := rfl
@[simp] theorem Enc_KRow (a : KRow) : Enc.c a = [sv a.id, iv a.upto, lv a.extra] := rfl
@[simp] theorem Enc_MRow (a : MRow) : Enc.c a = [sv a.id, lv a.vec] := rfl
@[simp] theorem Enc_kAt : Enc.k At = 2 := rfl
@[simp] theorem Enc_kKRow : Enc.k KRow = 3 := rfl
@[simp] theorem Enc_kMRow : Enc.k MRow = 2 := rfl
end Go.Evl.Zone

namespace Go.Evl.Zone
open Go Go.Evl
variable {P : Program}
end Go.Evl.Zone

namespace Go.Evl.Zone
open Go Go.Evl
variable {P : Program}
end Go.Evl.Zone

namespace Go.Evl.Zone
open Go Go.Evl
variable {P : Program}
end Go.Evl.Zone

namespace Go.Evl.Zone
open Go Go.Evl Go.Evl.Fl
variable {P : Program}
structure Sty (P : Program) (t : TypeId) (L : List (TypeId × Nat)) : Prop where
  fs : ∃ fs : Array Field, P.underlying t = some (.struct fs) ∧ fs.toList.map (fun f => (f.type, f.offset)) = L ∧ (fs.toList.all fun f => f.name != "_") = true
  held : P.stoodInHeld t = false
  guard : P.eqGuardType P.depth t = false
theorem eqFields_all {d : Nat} {xs ys : Array Value} (r : TypeId × Nat → Bool) : ∀ (fs : List Field), (fs.all fun f => f.name != "_") = true →
    (∀ f ∈ fs, ∃ a b, pureRun P (part f.type xs f.offset) = some a ∧ pureRun P (part f.type ys f.offset) = some b ∧ pureRun P (Op.equalIn d f.type a b) = some (r (f.type, f.offset))) →
    pureRun P (Op.eqFields d xs ys fs) = some ((fs.map fun f => (f.type, f.offset)).all r)
  | [], _, _ => rfl
  | f :: fs, hn, h => by
    simp only [List.all_cons, Bool.and_eq_true, bne, Bool.not_eq_true'] at hn
    obtain ⟨a, b, h1, h2, h3⟩ := h f (by simp)
    exact pureRun_eqCons hn.1 h1 h2 h3 (eqFields_all r fs hn.2 fun g hg => h g (by simp [hg]))
theorem sty_part {t : TypeId} {L : List (TypeId × Nat)} {n : Nat} {cs : Array Value} {o : Nat} (S : Sty P t L) (hn : szOf P t = some n) : pureRun P (part t cs o) = some (.agg (cs.extract o (o + n))) := by
  obtain ⟨fs, ht, _⟩ := S.fs
  obtain ⟨i, hi, rfl⟩ := Option.map_eq_some_iff.1 hn
  unfold part isAgg sizeOf
  simp only [pureRun_bind, pureRun_under, ht, Option.bind_some, pureRun_pure]
  simp [typeInfo, pureRun_bind, pureRun_prog, hi, pureRun_pure]
theorem sty_equal {d : Nat} {t : TypeId} {L : List (TypeId × Nat)} {xs ys : Array Value} (S : Sty P t L) (r : TypeId × Nat → Bool)
    (h : ∀ p ∈ L, ∃ a b, pureRun P (part p.1 xs p.2) = some a ∧ pureRun P (part p.1 ys p.2) = some b ∧ pureRun P (Op.equalIn d p.1 a b) = some (r p)) : pureRun P (Op.equalIn (d + 1) t (.agg xs) (.agg ys)) = some (L.all r) := by
  obtain ⟨fs, ht, hf, hn⟩ := S.fs
  rw [pureRun_equal_struct ht S.held, eqFields_all r fs.toList hn, hf]
  intro f hfm
  exact h (f.type, f.offset) (by rw [← hf]; exact List.mem_map.2 ⟨f, hfm, rfl⟩)
theorem sty_eql {t : TypeId} {L : List (TypeId × Nat)} {cx cy : Bool} {xs ys : List PV} {vs us : List Value} (S : Sty P t L) (r : TypeId × Nat → Bool) (hx : toVs xs = some vs) (hy : toVs ys = some us)
    (h : ∀ p ∈ L, ∃ a b, pureRun P (part p.1 vs.toArray p.2) = some a ∧ pureRun P (part p.1 us.toArray p.2) = some b ∧ pureRun P (Op.equalIn 9999 p.1 a b) = some (r p)) :
    evBin P .eql t cx cy (.agg xs) (.agg ys) = some (bv (L.all r)) ∧ evBin P .neq t cx cy (.agg xs) (.agg ys) = some (bv (!L.all r)) := by
  obtain ⟨fs, ht, hf, hn⟩ := S.fs
  refine evBin_struct_eql ht S.held S.guard hx hy ?_
  rw [eqFields_all r fs.toList hn, hf]
  intro f hfm
  exact h (f.type, f.offset) (by rw [← hf]; exact List.mem_map.2 ⟨f, hfm, rfl⟩)
end Go.Evl.Zone

namespace Go.Evl.Zone
open Go Go.Evl
variable {P : Program}
open Go.Evl.Fl
structure Item where
  key : Int
  id : Bytes
  seq : Int
  stamp : Int
  dead : Bool
  x : Int
  y : Int
  text : Bytes
  held : Bool
  deriving DecidableEq
abbrev fw (n : Int) : Nat := FloatKind.f64.nearest n
abbrev cw (x y : Int) : PV := .val (.complex .f64 (fw x) (fw y))
abbrev itP (q : Item) : List PV := [iv q.key, sv q.id, iv q.seq, iv q.stamp, bv q.dead, cw q.x q.y, sv q.text, bv q.held]
abbrev itR (q : Item) : List PV := [iv q.key, sv q.id, iv q.seq, iv q.stamp, bv q.dead, iv q.x, iv q.y, sv q.text, bv q.held]
def EnP (l : List Item) : List (List PV) := l.map itP
abbrev lvP (l : List Item) : PV := .im (EnP l) false
@[simp] theorem EnP_length (l : List Item) : (EnP l).length = l.length := by simp [EnP]
@[simp] theorem EnP_nil : EnP [] = [] := rfl
theorem EnP_append (a b : List Item) : EnP (a ++ b) = EnP a ++ EnP b := by simp [EnP]
theorem EnP_one (a : Item) : EnP [a] = [itP a] := rfl
@[simp] theorem allLen_EnP (l : List Item) : allLen 8 (EnP l) = true := by
  rw [allLen_iff]
  intro x hx
  simp only [EnP, List.mem_map] at hx
  obtain ⟨a, _, rfl⟩ := hx
  rfl
theorem plainss_EnP (l : List Item) : plainss (EnP l) = some (EnP l) := plainss_ok fun y hy => by
  simp only [EnP, List.mem_map] at hy
  obtain ⟨a, _, rfl⟩ := hy
  rfl
theorem EnP_at {l : List Item} {i : Nat} {q : Item} (h : l[i]? = some q) : ∀ hi, (EnP l)[i]'hi = itP q := fun hi => by
  have h2 := (List.getElem?_eq_some_iff.1 h).2
  simp only [EnP, List.getElem_map, h2]
def EnR (l : List Item) : List (List PV) := l.map itR
abbrev lvR (l : List Item) : PV := .im (EnR l) false
@[simp] theorem EnR_length (l : List Item) : (EnR l).length = l.length := by simp [EnR]
@[simp] theorem EnR_nil : EnR [] = [] := rfl
theorem EnR_append (a b : List Item) : EnR (a ++ b) = EnR a ++ EnR b := by simp [EnR]
theorem EnR_one (a : Item) : EnR [a] = [itR a] := rfl
@[simp] theorem allLen_EnR (l : List Item) : allLen 9 (EnR l) = true := by
  rw [allLen_iff]
  intro x hx
  simp only [EnR, List.mem_map] at hx
  obtain ⟨a, _, rfl⟩ := hx
  rfl
theorem plainss_EnR (l : List Item) : plainss (EnR l) = some (EnR l) := plainss_ok fun y hy => by
  simp only [EnR, List.mem_map] at hy
  obtain ⟨a, _, rfl⟩ := hy
  rfl
theorem EnR_at {l : List Item} {i : Nat} {q : Item} (h : l[i]? = some q) : ∀ hi, (EnR l)[i]'hi = itR q := fun hi => by
  have h2 := (List.getElem?_eq_some_iff.1 h).2
  simp only [EnR, List.getElem_map, h2]
def smI (n : Int) : Prop := -1099511627776 ≤ n ∧ n ≤ 1099511627776
def Item.sm (q : Item) : Prop := smI q.x ∧ smI q.y
def RS.sm (q : RS) : Prop := smI q.x ∧ smI q.y ∧ smI q.s
theorem sm_is {n : Int} (h : smI n) : Is (fw n) n := Is.nearest (by unfold smI at h; omega)
structure TI (P : Program) : Prop extends Typed3 P where
  t4 : P.underlying 4 = some .bool
  t9 : P.underlying 9 = some .string
  place : Sty P 42 [(3, 0), (3, 1)]
  tid : P.underlying 23 = some .string
  at_ : Sty P 156 [(23, 0), (3, 1)]
  rat : Sty P 182 [(9, 0), (3, 1)]
  ver : Sty P 89 [(23, 0), (3, 1), (3, 2)]
  verS : szOf P 89 = some 3
  item : Sty P 91 [(3, 0), (89, 1), (4, 4), (50, 5), (9, 6), (4, 7)]
  rver : Sty P 128 [(9, 0), (3, 1), (3, 2)]
  rverS : szOf P 128 = some 3
  placeS : szOf P 42 = some 2
  ritem : Sty P 130 [(3, 0), (128, 1), (4, 4), (42, 5), (9, 7), (4, 8)]
end Go.Evl.Zone

namespace Go.Evl.Zone
open Go Go.Evl Go.Evl.Fl
variable {P : Program}
theorem ba_beq (a b : Bytes) : ((⟨a.toArray⟩ : ByteArray) == ⟨b.toArray⟩) = decide (a = b) := by
  have : ((⟨a.toArray⟩ : ByteArray) == ⟨b.toArray⟩) = (a.toArray == b.toArray) := rfl
  rw [this, Bool.eq_iff_iff]
  simp
theorem at2_neq {t ts : TypeId} (hS : Sty P t [(ts, 0), (3, 1)]) (h9 : P.underlying ts = some .string) (h3 : P.underlying 3 = some (.int .i64)) {cx cy : Bool} (a b : At) : evBin P .neq t cx cy (.agg [sv a.id, iv a.n]) (.agg [sv b.id, iv b.n]) = some (bv (decide (a ≠ b))) := by
  have h := (sty_eql (cx := cx) (cy := cy) (xs := [sv a.id, iv a.n]) (ys := [sv b.id, iv b.n]) (vs := [.string ⟨a.id.toArray⟩, .int .i64 a.n]) (us := [.string ⟨b.id.toArray⟩, .int .i64 b.n]) hS (fun p => if p.2 = 0 then (⟨a.id.toArray⟩ : ByteArray) == ⟨b.id.toArray⟩ else a.n == b.n) rfl rfl (by
    intro p hp
    simp only [List.mem_cons, List.not_mem_nil, or_false] at hp
    rcases hp with rfl | rfl
    · exact ⟨_, _, pureRun_part h9 rfl rfl, pureRun_part h9 rfl rfl, pureRun_equal_string h9⟩
    · exact ⟨_, _, pureRun_part h3 rfl rfl, pureRun_part h3 rfl rfl, pureRun_equal_int h3⟩)).2
  rw [h]
  congr 3
  obtain ⟨a1, a2⟩ := a
  obtain ⟨b1, b2⟩ := b
  rw [Bool.eq_iff_iff]
  simp [ba_beq]
theorem at_neq (T : TI P) {cx cy : Bool} (a b : At) : evBin P .neq 182 cx cy (.agg [sv a.id, iv a.n]) (.agg [sv b.id, iv b.n]) = some (bv (decide (a ≠ b))) := at2_neq T.rat T.t9 T.t3 a b
theorem ver2_eq {t ts : TypeId} (hS : Sty P t [(ts, 0), (3, 1), (3, 2)]) (h9 : P.underlying ts = some .string) (h3 : P.underlying 3 = some (.int .i64)) (d : Nat) (a b : Item) : pureRun P (Op.equalIn (d + 2) t (.agg #[.string ⟨a.id.toArray⟩, .int .i64 a.seq, .int .i64 a.stamp]) (.agg #[.string ⟨b.id.toArray⟩, .int .i64 b.seq, .int .i64 b.stamp])) = some (decide (a.id = b.id ∧ a.seq = b.seq ∧ a.stamp = b.stamp)) := by
  have := sty_equal (d := d + 1) (xs := #[.string ⟨a.id.toArray⟩, .int .i64 a.seq, .int .i64 a.stamp]) (ys := #[.string ⟨b.id.toArray⟩, .int .i64 b.seq, .int .i64 b.stamp]) hS (fun p => if p.2 = 0 then (⟨a.id.toArray⟩ : ByteArray) == ⟨b.id.toArray⟩ else if p.2 = 1 then a.seq == b.seq else a.stamp == b.stamp) (by
    intro p hp
    simp only [List.mem_cons, List.not_mem_nil, or_false] at hp
    rcases hp with rfl | rfl | rfl
    · exact ⟨_, _, pureRun_part h9 rfl rfl, pureRun_part h9 rfl rfl, pureRun_equal_string h9⟩
    · exact ⟨_, _, pureRun_part h3 rfl rfl, pureRun_part h3 rfl rfl, pureRun_equal_int h3⟩
    · exact ⟨_, _, pureRun_part h3 rfl rfl, pureRun_part h3 rfl rfl, pureRun_equal_int h3⟩)
  rw [this]
  congr 1
  rw [Bool.eq_iff_iff]
  simp [ba_beq]
theorem place2_eq (T : TI P) (d : Nat) (a b : Item) : pureRun P (Op.equalIn (d + 2) 42 (.agg #[.int .i64 a.x, .int .i64 a.y]) (.agg #[.int .i64 b.x, .int .i64 b.y])) = some (decide (a.x = b.x ∧ a.y = b.y)) := by
  have h3 := T.t3
  have := sty_equal (d := d + 1) (xs := #[.int .i64 a.x, .int .i64 a.y]) (ys := #[.int .i64 b.x, .int .i64 b.y]) T.place (fun p => if p.2 = 0 then a.x == b.x else a.y == b.y) (by
    intro p hp
    simp only [List.mem_cons, List.not_mem_nil, or_false] at hp
    rcases hp with rfl | rfl
    · exact ⟨_, _, pureRun_part h3 rfl rfl, pureRun_part h3 rfl rfl, pureRun_equal_int h3⟩
    · exact ⟨_, _, pureRun_part h3 rfl rfl, pureRun_part h3 rfl rfl, pureRun_equal_int h3⟩)
  rw [this]
  congr 1
  rw [Bool.eq_iff_iff]
  simp
theorem ritem_neq (T : TI P) {cx cy : Bool} (a b : Item) : evBin P .neq 130 cx cy (.agg (itR a)) (.agg (itR b)) = some (bv (decide (a ≠ b))) := by
  have h3 := T.t3
  have h4 := T.t4
  have h9 := T.t9
  have h := (sty_eql (cx := cx) (cy := cy) (xs := itR a) (ys := itR b) (vs := [.int .i64 a.key, .string ⟨a.id.toArray⟩, .int .i64 a.seq, .int .i64 a.stamp, .bool a.dead, .int .i64 a.x, .int .i64 a.y, .string ⟨a.text.toArray⟩, .bool a.held]) (us := [.int .i64 b.key, .string ⟨b.id.toArray⟩, .int .i64 b.seq, .int .i64 b.stamp, .bool b.dead, .int .i64 b.x, .int .i64 b.y, .string ⟨b.text.toArray⟩, .bool b.held]) T.ritem
    (fun p => if p.2 = 0 then a.key == b.key else if p.2 = 1 then decide (a.id = b.id ∧ a.seq = b.seq ∧ a.stamp = b.stamp) else if p.2 = 4 then a.dead == b.dead else if p.2 = 5 then decide (a.x = b.x ∧ a.y = b.y) else if p.2 = 7 then (⟨a.text.toArray⟩ : ByteArray) == ⟨b.text.toArray⟩ else a.held == b.held) rfl rfl (by
    intro p hp
    simp only [List.mem_cons, List.not_mem_nil, or_false] at hp
    rcases hp with rfl | rfl | rfl | rfl | rfl | rfl
    · exact ⟨_, _, pureRun_part h3 rfl rfl, pureRun_part h3 rfl rfl, pureRun_equal_int h3⟩
    · exact ⟨_, _, sty_part T.rver T.rverS, sty_part T.rver T.rverS, ver2_eq T.rver h9 h3 9997 a b⟩
    · exact ⟨_, _, pureRun_part h4 rfl rfl, pureRun_part h4 rfl rfl, pureRun_equal_bool h4⟩
    · exact ⟨_, _, sty_part T.place T.placeS, sty_part T.place T.placeS, place2_eq T 9997 a b⟩
    · exact ⟨_, _, pureRun_part h9 rfl rfl, pureRun_part h9 rfl rfl, pureRun_equal_string h9⟩
    · exact ⟨_, _, pureRun_part h4 rfl rfl, pureRun_part h4 rfl rfl, pureRun_equal_bool h4⟩)).2
  rw [h]
  congr 3
  obtain ⟨a1, a2, a3, a4, a5, a6, a7, a8, a9⟩ := a
  obtain ⟨b1, b2, b3, b4, b5, b6, b7, b8, b9⟩ := b
  rw [Bool.eq_iff_iff]
  simp [ba_beq, or_assoc]
end Go.Evl.Zone

namespace Go.Evl.Zone
open Go Go.Evl
variable {P : Program}
structure LN (N : Nat) (H : Heap) (k : Nat) (v : PV) (ys : List (List PV)) : Prop where
  l : Lst H k v ys
  b : ∀ r k' g off len, v = .sl r k' g off len → N ≤ r
theorem LN.nil {N : Nat} {H : Heap} {k : Nat} : LN N H k (.im [] true) [] := ⟨Lst.nil, by intros; simp_all⟩
theorem LN.ext {N : Nat} {H H' : Heap} {k : Nat} {v : PV} {ys : List (List PV)} (h : LN N H k v ys) (e : Gr H H') : LN N H' k v ys := ⟨h.l.ext e, h.b⟩
theorem LN.grow {N m : Nat} {H : Heap} {k : Nat} {v : PV} {ys : List (List PV)} (h : LN N H k v ys) : LN N (H.grow m) k v ys := ⟨h.l.grow, h.b⟩
theorem LN.putN {N s : Nat} {H : Heap} {k : Nat} {v : PV} {ys : List (List PV)} {b : Blk} (h : LN N H k v ys) (hs : H.at_ s = .dead ∨ ∃ cs, H.at_ s = .box cs) : LN N (H.put s b) k v ys := ⟨h.l.putN hs, h.b⟩
theorem LN.app {N : Nat} {H : Heap} {slot k : Nat} {v : PV} {ys zs : List (List PV)} (h : LN N H k v ys) (hd : H.at_ slot = .dead) (hs : slot < H.n) (hN : N ≤ slot) (hz : allLen k zs = true) (hm : ys.length + zs.length ≤ most) :
    ∃ (v' : PV) (H' : Heap) (wr rd : List Nat), appendP H slot k v zs = some (v', H', wr, rd) ∧ LN N H' k v' (ys ++ zs) ∧ H'.n = H.n ∧ (∀ i cs, H.at_ i = .box cs → H'.at_ i = .box cs) ∧ (∀ i, i < N → H'.at_ i = H.at_ i) ∧ (∀ i ∈ wr, N ≤ i) := by
  have hl := h.l
  obtain ⟨v', H', wr, rd, e, e1, e2, e3, _, _⟩ := hl.app hd hs hz hm
  have key : (∀ r k' g off len, v' = .sl r k' g off len → N ≤ r) ∧ (∀ i, i < N → H'.at_ i = H.at_ i) ∧ (∀ i ∈ wr, N ≤ i) := by
    unfold appendP at e
    split at e
    · split at e <;> simp at e
      · obtain ⟨rfl, rfl, rfl, _⟩ := e; exact ⟨h.b, fun _ _ => rfl, by simp⟩
      · obtain ⟨rfl, rfl, rfl, _⟩ := e; exact ⟨h.b, fun _ _ => rfl, by simp⟩
    · split at e
      · split at e
        · simp at e
          obtain ⟨rfl, rfl, rfl, _⟩ := e
          refine ⟨?_, ?_, ?_⟩
          · intro r k' g off len q; simp at q; omega
          · intro i hi; simp only [at_put]; rw [if_neg (by omega)]
          · intro i hi; simp at hi; omega
        · simp at e
      · rename_i r k' g off len
        have hr := h.b r k' g off len rfl
        split at e
        · split at e
          · split at e
            · simp at e
              obtain ⟨rfl, rfl, rfl, _⟩ := e
              refine ⟨?_, ?_, ?_⟩
              · intro r2 k2 g2 o2 l2 q; simp at q; omega
              · intro i hi; simp only [at_put]; rw [if_neg (by omega)]
              · intro i hi; simp at hi; omega
            · split at e
              · simp at e
                obtain ⟨rfl, rfl, rfl, _⟩ := e
                refine ⟨?_, ?_, ?_⟩
                · intro r2 k2 g2 o2 l2 q; simp at q; omega
                · intro i hi; simp only [at_put]; rw [if_neg (by omega)]
                · intro i hi; simp at hi; omega
              · simp at e
          · simp at e
        · simp at e
      · simp at e
  exact ⟨v', H', wr, rd, e, ⟨e1, key.1⟩, e2, e3, key.2.1, key.2.2⟩
theorem VP_appN {E : Env} {f : FuncId} {N : Nat} {H : Heap} {slot k : Nat} {v : PV} {ys zs : List (List PV)} {G : PV × Heap × List Nat × List Nat → Option ORes} {dst : Option Nat} {rest : List CI} {i slot' : Nat} {st : St} {log : Log} {d : Option (Nat × List (Nat × Nat))} {ks : List Fr'} {K : Ex → St → Prop}
    (hl : LN N H k v ys) (hd : H.at_ slot = .dead) (hs : slot < H.n) (hN : N ≤ slot) (hz : allLen k zs = true) (hm : ys.length + zs.length ≤ most)
    (h : ∀ v' H' wr rd, LN N H' k v' (ys ++ zs) → H'.n = H.n → (∀ i cs, H.at_ i = .box cs → H'.at_ i = .box cs) → (∀ i, i < N → H'.at_ i = H.at_ i) → (∀ i ∈ wr, N ≤ i) → VP E f (G (v', H', wr, rd)) dst rest i slot' st log d ks K) : VP E f (ob (appendP H slot k v zs) G) dst rest i slot' st log d ks K := by
  obtain ⟨v', H', wr, rd, e1, e2, e3, e4, e5, e6⟩ := hl.app hd hs hN hz hm
  rw [e1]
  exact h v' H' wr rd e2 e3 e4 e5 e6
def Rd (res : List CR) (H : Heap) (K : PV → Heap → List Nat → Prop) (s : St) : Prop := ∃ v, (∃ is, (resV s res).bind (expV s.h) = some (v, is)) ∧ flatV v = true ∧ (∀ i, i < H.n → s.h.at_ i = H.at_ i) ∧ (∀ i ∈ s.wl, H.n ≤ i) ∧ K v H []
theorem Rd.mk {res : List CR} {H : Heap} {K : PV → Heap → List Nat → Prop} {s : St} (v : PV) (h : ∃ is, (resV s res).bind (expV s.h) = some (v, is)) (hf : flatV v = true) (hh : ∀ i, i < H.n → s.h.at_ i = H.at_ i) (hw : ∀ i ∈ s.wl, H.n ≤ i) (hk : K v H []) : Rd res H K s := ⟨v, h, hf, hh, hw, hk⟩
end Go.Evl.Zone

namespace Go.Evl.Zone
open Go Go.Evl
variable {P : Program}
open Go.Evl.Fl
end Go.Evl.Zone

namespace Go.Evl.Zone
open Go Go.Evl
variable {P : Program}
theorem rsame1_loop  {L M : List Bytes} {ks : List Fr'} {K : Ex → St → Prop} (hlen : L.length = M.length) (hL : L.length ≤ most) : ∀ (rest : List Bytes) (i : Nat) (st : St), L.drop i = rest → i ≤ L.length → L.take i = M.take i → st.σ 0 = lv L → st.σ 1 = lv M → st.σ 5 = iv i →
    (∀ st', L ≠ M → st'.σ 4 = bv false → K .ret st') → (∀ st', L = M → VN (env P) 57 st' ks K) → V (env P) 57 (.loop L57_0) st (.blk 0 :: ks) K
  | [], i, st, hr, hi, hp, h0, h1, h5, hret, hend => by
    obtain ⟨he, hlt, ht⟩ := drop_nil hr hi
    rw [V_loop]
    simp [L57_0, h0, h5, hlt]
    refine hend _ ?_
    rw [ht, he, hlen, List.take_length] at hp
    exact hp
  | q :: rest, i, st, hr, hi, hp, h0, h1, h5, hret, hend => by
    obtain ⟨hq, hlt, hr', ht⟩ := drop_cons hr
    have hmq := List.mem_of_getElem? hq
    have hc := En_at hq
    have hm : M[i]? = some (M[i]'(by omega)) := List.getElem?_eq_getElem (by omega)
    generalize M[i]'(by omega) = m at hm
    have hmm := List.mem_of_getElem? hm
    have hd := En_at hm
    have hltM : i < M.length := by omega
    have hw3 := wrapS (i := i) (by unfold most at hL; omega)
    have key : ∀ st', q = m → st'.σ 0 = lv L → st'.σ 1 = lv M → st'.σ 5 = iv ((i + 1 : Nat) : Int) → V (env P) 57 (.loop L57_0) st' (.blk 0 :: ks) K := fun st' e g0 g1 g5 => by
      refine rsame1_loop hlen hL rest (i + 1) st' hr' (by omega) ?_ g0 g1 g5 hret hend
      rw [ht, List.take_add_one, hm, hp, e]; rfl
    have key2 : q ≠ m → L ≠ M := fun hqm e => by
      rw [e] at hq
      rw [hq] at hm
      exact hqm (Option.some.inj hm)
    rw [V_loop]
    have hn := fun t cx cy => evBin_sneq (P := P) (t := t) (cx := cx) (cy := cy) q m
    simp [L57_0, h0, h1, h5, hlt, hltM, hc, hd, hw3, hn]
    repeat' (first
      | (refine VG_sp (fun h => ?_) (fun h => ?_) <;> simp [h, h0, h1, h5, hlt, hltM, hc, hd, hw3, hn])
      | (refine VB_sp (fun h => ?_) (fun h => ?_) <;> simp [h, h0, h1, h5, hlt, hltM, hc, hd, hw3, hn]))
    all_goals first
      | exact hret _ (key2 (by simp_all)) (by simp)
      | exact key _ (by simp_all) (by simp [h0]) (by simp [h1]) (by simp [h5, hw3])
theorem rsame1_ans  {l m : List Bytes} (hl : l.length ≤ most) : ans (env P) 57 [lv l, lv m] = some (bv (decide (l = m))) := by
  refine ans_V rfl rfl ?_
  by_cases hlen : l.length = m.length
  · have hlen' : (l.length : Int) = (m.length : Int) := by omega
    simp [c57, hlen']
    refine rsame1_loop hlen hl l 0 _ rfl (by omega) rfl (by simp) (by simp) (by simp) ?_ ?_
    · intro st' hne h4; simp [h4, hne]
    · intro st' he; simp [he]
  · have hlen' : ¬ (l.length : Int) = (m.length : Int) := by omega
    have hne : l ≠ m := fun e => hlen (by rw [e])
    simp [c57, hlen', hne]
theorem rsame3_loop  {L M : List At} (T : TI P) {ks : List Fr'} {K : Ex → St → Prop} (hlen : L.length = M.length) (hL : L.length ≤ most) : ∀ (rest : List At) (i : Nat) (st : St), L.drop i = rest → i ≤ L.length → L.take i = M.take i → st.σ 0 = lv L → st.σ 1 = lv M → st.σ 5 = iv i →
    (∀ st', L ≠ M → st'.σ 4 = bv false → K .ret st') → (∀ st', L = M → VN (env P) 54 st' ks K) → V (env P) 54 (.loop L54_0) st (.blk 0 :: ks) K
  | [], i, st, hr, hi, hp, h0, h1, h5, hret, hend => by
    obtain ⟨he, hlt, ht⟩ := drop_nil hr hi
    rw [V_loop]
    simp [L54_0, h0, h5, hlt]
    refine hend _ ?_
    rw [ht, he, hlen, List.take_length] at hp
    exact hp
  | q :: rest, i, st, hr, hi, hp, h0, h1, h5, hret, hend => by
    obtain ⟨hq, hlt, hr', ht⟩ := drop_cons hr
    have hmq := List.mem_of_getElem? hq
    have hc := En_at hq
    have hm : M[i]? = some (M[i]'(by omega)) := List.getElem?_eq_getElem (by omega)
    generalize M[i]'(by omega) = m at hm
    have hmm := List.mem_of_getElem? hm
    have hd := En_at hm
    have hltM : i < M.length := by omega
    have hw3 := wrapS (i := i) (by unfold most at hL; omega)
    have key : ∀ st', q = m → st'.σ 0 = lv L → st'.σ 1 = lv M → st'.σ 5 = iv ((i + 1 : Nat) : Int) → V (env P) 54 (.loop L54_0) st' (.blk 0 :: ks) K := fun st' e g0 g1 g5 => by
      refine rsame3_loop T hlen hL rest (i + 1) st' hr' (by omega) ?_ g0 g1 g5 hret hend
      rw [ht, List.take_add_one, hm, hp, e]; rfl
    have key2 : q ≠ m → L ≠ M := fun hqm e => by
      rw [e] at hq
      rw [hq] at hm
      exact hqm (Option.some.inj hm)
    rw [V_loop]
    have hn := fun cx cy => at_neq T (cx := cx) (cy := cy) q m
    simp [L54_0, h0, h1, h5, hlt, hltM, hc, hd, hw3, hn]
    repeat' (first
      | (refine VG_sp (fun h => ?_) (fun h => ?_) <;> simp [h, h0, h1, h5, hlt, hltM, hc, hd, hw3, hn])
      | (refine VB_sp (fun h => ?_) (fun h => ?_) <;> simp [h, h0, h1, h5, hlt, hltM, hc, hd, hw3, hn]))
    all_goals first
      | exact hret _ (key2 (by simp_all)) (by simp)
      | exact key _ (by simp_all) (by simp [h0]) (by simp [h1]) (by simp [h5, hw3])
theorem rsame3_ans  {l m : List At} (T : TI P) (hl : l.length ≤ most) : ans (env P) 54 [lv l, lv m] = some (bv (decide (l = m))) := by
  refine ans_V rfl rfl ?_
  by_cases hlen : l.length = m.length
  · have hlen' : (l.length : Int) = (m.length : Int) := by omega
    simp [c54, hlen']
    refine rsame3_loop T hlen hl l 0 _ rfl (by omega) rfl (by simp) (by simp) (by simp) ?_ ?_
    · intro st' hne h4; simp [h4, hne]
    · intro st' he; simp [he]
  · have hlen' : ¬ (l.length : Int) = (m.length : Int) := by omega
    have hne : l ≠ m := fun e => hlen (by rw [e])
    simp [c54, hlen', hne]
theorem rsame8_loop  {L M : List Item} (T : TI P) {ks : List Fr'} {K : Ex → St → Prop} (hlen : L.length = M.length) (hL : L.length ≤ most) : ∀ (rest : List Item) (i : Nat) (st : St), L.drop i = rest → i ≤ L.length → L.take i = M.take i → st.σ 0 = lvR L → st.σ 1 = lvR M → st.σ 5 = iv i →
    (∀ st', L ≠ M → st'.σ 4 = bv false → K .ret st') → (∀ st', L = M → VN (env P) 55 st' ks K) → V (env P) 55 (.loop L55_0) st (.blk 0 :: ks) K
  | [], i, st, hr, hi, hp, h0, h1, h5, hret, hend => by
    obtain ⟨he, hlt, ht⟩ := drop_nil hr hi
    rw [V_loop]
    simp [L55_0, h0, h5, hlt]
    refine hend _ ?_
    rw [ht, he, hlen, List.take_length] at hp
    exact hp
  | q :: rest, i, st, hr, hi, hp, h0, h1, h5, hret, hend => by
    obtain ⟨hq, hlt, hr', ht⟩ := drop_cons hr
    have hmq := List.mem_of_getElem? hq
    have hc := EnR_at hq
    have hm : M[i]? = some (M[i]'(by omega)) := List.getElem?_eq_getElem (by omega)
    generalize M[i]'(by omega) = m at hm
    have hmm := List.mem_of_getElem? hm
    have hd := EnR_at hm
    have hltM : i < M.length := by omega
    have hw3 := wrapS (i := i) (by unfold most at hL; omega)
    have key : ∀ st', q = m → st'.σ 0 = lvR L → st'.σ 1 = lvR M → st'.σ 5 = iv ((i + 1 : Nat) : Int) → V (env P) 55 (.loop L55_0) st' (.blk 0 :: ks) K := fun st' e g0 g1 g5 => by
      refine rsame8_loop T hlen hL rest (i + 1) st' hr' (by omega) ?_ g0 g1 g5 hret hend
      rw [ht, List.take_add_one, hm, hp, e]; rfl
    have key2 : q ≠ m → L ≠ M := fun hqm e => by
      rw [e] at hq
      rw [hq] at hm
      exact hqm (Option.some.inj hm)
    rw [V_loop]
    have hn := fun cx cy => ritem_neq T (cx := cx) (cy := cy) q m
    simp [L55_0, h0, h1, h5, hlt, hltM, hc, hd, hw3, hn]
    repeat' (first
      | (refine VG_sp (fun h => ?_) (fun h => ?_) <;> simp [h, h0, h1, h5, hlt, hltM, hc, hd, hw3, hn])
      | (refine VB_sp (fun h => ?_) (fun h => ?_) <;> simp [h, h0, h1, h5, hlt, hltM, hc, hd, hw3, hn]))
    all_goals first
      | exact hret _ (key2 (by simp_all)) (by simp)
      | exact key _ (by simp_all) (by simp [h0]) (by simp [h1]) (by simp [h5, hw3])
theorem rsame8_ans  {l m : List Item} (T : TI P) (hl : l.length ≤ most) : ans (env P) 55 [lvR l, lvR m] = some (bv (decide (l = m))) := by
  refine ans_V rfl rfl ?_
  by_cases hlen : l.length = m.length
  · have hlen' : (l.length : Int) = (m.length : Int) := by omega
    simp [c55, hlen']
    refine rsame8_loop T hlen hl l 0 _ rfl (by omega) rfl (by simp) (by simp) (by simp) ?_ ?_
    · intro st' hne h4; simp [h4, hne]
    · intro st' he; simp [he]
  · have hlen' : ¬ (l.length : Int) = (m.length : Int) := by omega
    have hne : l ≠ m := fun e => hlen (by rw [e])
    simp [c55, hlen', hne]
theorem rsame10_loop  {L M : List MRow} (T : TI P) (hv : ∀ a ∈ L, a.vec.length ≤ most) {ks : List Fr'} {K : Ex → St → Prop} (hlen : L.length = M.length) (hL : L.length ≤ most) : ∀ (rest : List MRow) (i : Nat) (st : St), L.drop i = rest → i ≤ L.length → L.take i = M.take i → st.σ 0 = lv L → st.σ 1 = lv M → st.σ 5 = iv i →
    (∀ st', L ≠ M → st'.σ 4 = bv false → K .ret st') → (∀ st', L = M → VN (env P) 58 st' ks K) → V (env P) 58 (.loop L58_0) st (.blk 0 :: ks) K
  | [], i, st, hr, hi, hp, h0, h1, h5, hret, hend => by
    obtain ⟨he, hlt, ht⟩ := drop_nil hr hi
    rw [V_loop]
    simp [L58_0, h0, h5, hlt]
    refine hend _ ?_
    rw [ht, he, hlen, List.take_length] at hp
    exact hp
  | q :: rest, i, st, hr, hi, hp, h0, h1, h5, hret, hend => by
    obtain ⟨hq, hlt, hr', ht⟩ := drop_cons hr
    have hmq := List.mem_of_getElem? hq
    have hc := En_at hq
    have hm : M[i]? = some (M[i]'(by omega)) := List.getElem?_eq_getElem (by omega)
    generalize M[i]'(by omega) = m at hm
    have hmm := List.mem_of_getElem? hm
    have hd := En_at hm
    have hltM : i < M.length := by omega
    have hw3 := wrapS (i := i) (by unfold most at hL; omega)
    have key : ∀ st', q = m → st'.σ 0 = lv L → st'.σ 1 = lv M → st'.σ 5 = iv ((i + 1 : Nat) : Int) → V (env P) 58 (.loop L58_0) st' (.blk 0 :: ks) K := fun st' e g0 g1 g5 => by
      refine rsame10_loop T hv hlen hL rest (i + 1) st' hr' (by omega) ?_ g0 g1 g5 hret hend
      rw [ht, List.take_add_one, hm, hp, e]; rfl
    have key2 : q ≠ m → L ≠ M := fun hqm e => by
      rw [e] at hq
      rw [hq] at hm
      exact hqm (Option.some.inj hm)
    rw [V_loop]
    have hn := fun t cx cy => evBin_sneq (P := P) (t := t) (cx := cx) (cy := cy) q.id m.id
    have hs := rsame3_ans (P := P) (l := q.vec) (m := m.vec) T (hv q hmq)
    simp [L58_0, h0, h1, h5, hlt, hltM, hc, hd, hw3, hn, hs]
    repeat' (first
      | (refine VG_sp (fun h => ?_) (fun h => ?_) <;> simp [h, h0, h1, h5, hlt, hltM, hc, hd, hw3, hn, hs])
      | (refine VB_sp (fun h => ?_) (fun h => ?_) <;> simp [h, h0, h1, h5, hlt, hltM, hc, hd, hw3, hn, hs]))
    all_goals first
      | exact hret _ (key2 (by intro e; cases q; cases m; simp_all)) (by simp)
      | exact key _ (by cases q; cases m; simp_all) (by simp [h0]) (by simp [h1]) (by simp [h5, hw3])
theorem rsame10_ans  {l m : List MRow} (T : TI P) (hv : ∀ a ∈ l, a.vec.length ≤ most) (hl : l.length ≤ most) : ans (env P) 58 [lv l, lv m] = some (bv (decide (l = m))) := by
  refine ans_V rfl rfl ?_
  by_cases hlen : l.length = m.length
  · have hlen' : (l.length : Int) = (m.length : Int) := by omega
    simp [c58, hlen']
    refine rsame10_loop T hv hlen hl l 0 _ rfl (by omega) rfl (by simp) (by simp) (by simp) ?_ ?_
    · intro st' hne h4; simp [h4, hne]
    · intro st' he; simp [he]
  · have hlen' : ¬ (l.length : Int) = (m.length : Int) := by omega
    have hne : l ≠ m := fun e => hlen (by rw [e])
    simp [c58, hlen', hne]
theorem rsame2_loop {L M : List Int} {u w : Int} {ks : List Fr'} {K : Ex → St → Prop} (hlen : L.length = M.length) (hL : L.length ≤ most) : ∀ (rest : List Int) (i : Nat) (st : St), L.drop i = rest → i ≤ L.length → L.take i = M.take i → (∃ a b, st.σ 2 = .ptr a 0 ∧ st.σ 3 = .ptr b 0 ∧ st.h.at_ a = .box [iv u, lv L] ∧ st.h.at_ b = .box [iv w, lv M] ∧ a < st.h.n ∧ b < st.h.n) → st.σ 5 = iv i →
    (∀ st', L ≠ M → st'.σ 4 = bv false → K .ret st') → (∀ st', L = M → VN (env P) 96 st' ks K) → V (env P) 96 (.loop L96_0) st (.blk 0 :: ks) K
  | [], i, st, hr, hi, hp, ⟨a, b, h2, h3, ha, hb, an, bn⟩, h5, hret, hend => by
    obtain ⟨he, hlt, ht⟩ := drop_nil hr hi
    rw [V_loop]
    simp [L96_0, h2, h3, ha, hb, an, bn, h5, hlt]
    refine hend _ ?_
    rw [ht, he, hlen, List.take_length] at hp
    exact hp
  | q :: rest, i, st, hr, hi, hp, ⟨a, b, h2, h3, ha, hb, an, bn⟩, h5, hret, hend => by
    obtain ⟨hq, hlt, hr', ht⟩ := drop_cons hr
    have hc := En_at hq
    have hm : M[i]? = some (M[i]'(by omega)) := List.getElem?_eq_getElem (by omega)
    generalize M[i]'(by omega) = m at hm
    have hd := En_at hm
    have hltM : i < M.length := by omega
    have hw3 := wrapS (i := i) (by unfold most at hL; omega)
    rw [V_loop]
    by_cases hqm : q = m
    · simp [L96_0, h2, h3, ha, hb, an, bn, h5, hlt, hltM, hc, hd, hw3, hqm]
      refine rsame2_loop (u := u) (w := w) hlen hL rest (i + 1) _ hr' (by omega) ?_ ⟨a, b, by simp [h2], by simp [h3], by simp [ha, an], by simp [hb, bn], by simp; omega, by simp; omega⟩ (by simp) hret hend
      rw [ht, List.take_add_one, hm, hp, hqm]; rfl
    · simp [L96_0, h2, h3, ha, hb, an, bn, h5, hlt, hltM, hc, hd, hw3, hqm]
      refine hret _ (fun e => ?_) (by simp)
      rw [e] at hq
      rw [hq] at hm
      exact hqm (Option.some.inj hm)
theorem rsame2_ans {u w : Int} {l m : List Int} (hl : l.length ≤ most) : ans (env P) 96 [.agg [iv u, lv l], .agg [iv w, lv m]] = some (bv (decide (u = w ∧ l = m))) := by
  refine ans_V rfl rfl ?_
  by_cases hu : u = w
  · by_cases hlen : l.length = m.length
    · have hlen' : (l.length : Int) = (m.length : Int) := by omega
      simp [c96, hu, hlen']
      refine rsame2_loop (u := w) (w := w) hlen hl l 0 _ rfl (by omega) rfl ⟨0, 1, by simp, by simp, by simp, by simp, by simp, by simp⟩ (by simp) ?_ ?_
      · intro st' hne h4; simp [h4, hne]
      · intro st' he; simp [he]
    · have hlen' : ¬ (l.length : Int) = (m.length : Int) := by omega
      have hne : l ≠ m := fun e => hlen (by rw [e])
      simp [c96, hu, hlen', hne]
  · simp [c96, hu]
theorem rsame4_loop  {L M : List KRow} (hv : ∀ a ∈ L, a.extra.length ≤ most) {ks : List Fr'} {K : Ex → St → Prop} (hlen : L.length = M.length) (hL : L.length ≤ most) : ∀ (rest : List KRow) (i : Nat) (st : St), L.drop i = rest → i ≤ L.length → L.take i = M.take i → st.σ 0 = lv L → st.σ 1 = lv M → st.σ 5 = iv i →
    (∀ st', L ≠ M → st'.σ 4 = bv false → K .ret st') → (∀ st', L = M → VN (env P) 53 st' ks K) → V (env P) 53 (.loop L53_0) st (.blk 0 :: ks) K
  | [], i, st, hr, hi, hp, h0, h1, h5, hret, hend => by
    obtain ⟨he, hlt, ht⟩ := drop_nil hr hi
    rw [V_loop]
    simp [L53_0, h0, h5, hlt]
    refine hend _ ?_
    rw [ht, he, hlen, List.take_length] at hp
    exact hp
  | q :: rest, i, st, hr, hi, hp, h0, h1, h5, hret, hend => by
    obtain ⟨hq, hlt, hr', ht⟩ := drop_cons hr
    have hmq := List.mem_of_getElem? hq
    have hc := En_at hq
    have hm : M[i]? = some (M[i]'(by omega)) := List.getElem?_eq_getElem (by omega)
    generalize M[i]'(by omega) = m at hm
    have hmm := List.mem_of_getElem? hm
    have hd := En_at hm
    have hltM : i < M.length := by omega
    have hw3 := wrapS (i := i) (by unfold most at hL; omega)
    have key : ∀ st', q = m → st'.σ 0 = lv L → st'.σ 1 = lv M → st'.σ 5 = iv ((i + 1 : Nat) : Int) → V (env P) 53 (.loop L53_0) st' (.blk 0 :: ks) K := fun st' e g0 g1 g5 => by
      refine rsame4_loop hv hlen hL rest (i + 1) st' hr' (by omega) ?_ g0 g1 g5 hret hend
      rw [ht, List.take_add_one, hm, hp, e]; rfl
    have key2 : q ≠ m → L ≠ M := fun hqm e => by
      rw [e] at hq
      rw [hq] at hm
      exact hqm (Option.some.inj hm)
    rw [V_loop]
    have hn := fun t cx cy => evBin_sneq (P := P) (t := t) (cx := cx) (cy := cy) q.id m.id
    have hs := rsame2_ans (P := P) (u := q.upto) (w := m.upto) (l := q.extra) (m := m.extra) (hv q hmq)
    simp [L53_0, h0, h1, h5, hlt, hltM, hc, hd, hw3, hn, hs]
    repeat' (first
      | (refine VG_sp (fun h => ?_) (fun h => ?_) <;> simp [h, h0, h1, h5, hlt, hltM, hc, hd, hw3, hn, hs])
      | (refine VB_sp (fun h => ?_) (fun h => ?_) <;> simp [h, h0, h1, h5, hlt, hltM, hc, hd, hw3, hn, hs]))
    all_goals first
      | exact hret _ (key2 (by intro e; cases q; cases m; simp_all)) (by simp)
      | exact key _ (by cases q; cases m; simp_all) (by simp [h0]) (by simp [h1]) (by simp [h5, hw3])
theorem rsame4_ans  {l m : List KRow} (hv : ∀ a ∈ l, a.extra.length ≤ most) (hl : l.length ≤ most) : ans (env P) 53 [lv l, lv m] = some (bv (decide (l = m))) := by
  refine ans_V rfl rfl ?_
  by_cases hlen : l.length = m.length
  · have hlen' : (l.length : Int) = (m.length : Int) := by omega
    simp [c53, hlen']
    refine rsame4_loop hv hlen hl l 0 _ rfl (by omega) rfl (by simp) (by simp) (by simp) ?_ ?_
    · intro st' hne h4; simp [h4, hne]
    · intro st' he; simp [he]
  · have hlen' : ¬ (l.length : Int) = (m.length : Int) := by omega
    have hne : l ≠ m := fun e => hlen (by rw [e])
    simp [c53, hlen', hne]
end Go.Evl.Zone

namespace Go.Evl.Zone
open Go Go.Evl
variable {P : Program}
open Go.Evl.Fl
theorem from1_loop  {v : List Bytes} {ks : List Fr'} {K : Ex → St → Prop} (hL : v.length ≤ most) : ∀ (rest : List Bytes) (i : Nat) (st : St) (a : PV), v.drop i = rest → i ≤ v.length → st.σ 0 = lv v → st.σ 4 = iv i → st.σ 3 = a → Lst st.h 1 a (En (v.take i)) →
    (∀ st' a, st'.σ 3 = a → Lst st'.h 1 a (En v) → VN (env P) 62 st' ks K) → V (env P) 62 (.loop L62_0) st (.blk 0 :: ks) K
  | [], i, st, a, hr, hile, h0, hi, ha, hl, hend => by
    obtain ⟨hii, hlt, hd⟩ := drop_nil hr hile
    rw [hd] at hl
    rw [V_loop]
    simp [L62_0, h0, hi, hlt]
    exact hend _ a (by simp [ha]) (by simpa using hl.grow)
  | q :: rest, i, st, a, hr, hile, h0, hi, ha, hl, hend => by
    obtain ⟨hq, hlt, hr', ht⟩ := drop_cons hr
    have hmq := List.mem_of_getElem? hq
    have hc := En_at hq
    have hw := wrapS (i := i) (by unfold most at hL; omega)
    rw [V_loop]
    simp [L62_0, h0, hi, hlt, hc, hw, ha, chunks, elems, allLen]
    refine VP_app (ys := En (v.take i)) (by repeat (first | exact hl | refine Lst.grow ?_ | refine Lst.putN ?_ (by simp))) (by simp) (by simp) rfl (by simp; omega) fun v' H' wr rd e2 e3 _ => ?_
    simp [h0, hi, hw, e3]
    refine from1_loop hL rest (i + 1) _ v' hr' (by omega) (by simp [h0]) (by simp) (by simp) ?_ hend
    rw [ht, En_append]
    exact e2.grow
theorem from1_ans  {v : List Bytes} (hL : v.length ≤ most) : ans (env P) 62 [lv v] = some (.im (En v) false) := by
  refine ans_V rfl rfl ?_
  simp [c62]
  refine from1_loop hL v 0 _ _ rfl (by omega) (by simp) (by simp) rfl (by simp; exact Lst.nil) ?_
  intro st' a h3 hl
  simp [h3]
  exact (hl.grow (m := 0)).expV (plainss_En _)
theorem from3_loop  {v : List At} {ks : List Fr'} {K : Ex → St → Prop} (hL : v.length ≤ most) : ∀ (rest : List At) (i : Nat) (st : St) (a : PV), v.drop i = rest → i ≤ v.length → st.σ 0 = lv v → st.σ 4 = iv i → st.σ 3 = a → Lst st.h 2 a (En (v.take i)) →
    (∀ st' a, st'.σ 3 = a → Lst st'.h 2 a (En v) → VN (env P) 59 st' ks K) → V (env P) 59 (.loop L59_0) st (.blk 0 :: ks) K
  | [], i, st, a, hr, hile, h0, hi, ha, hl, hend => by
    obtain ⟨hii, hlt, hd⟩ := drop_nil hr hile
    rw [hd] at hl
    rw [V_loop]
    simp [L59_0, h0, hi, hlt]
    exact hend _ a (by simp [ha]) (by simpa using hl.grow)
  | q :: rest, i, st, a, hr, hile, h0, hi, ha, hl, hend => by
    obtain ⟨hq, hlt, hr', ht⟩ := drop_cons hr
    have hmq := List.mem_of_getElem? hq
    have hc := En_at hq
    have hw := wrapS (i := i) (by unfold most at hL; omega)
    rw [V_loop]
    simp [L59_0, h0, hi, hlt, hc, hw, ha, chunks, elems, allLen]
    refine VP_app (ys := En (v.take i)) (by repeat (first | exact hl | refine Lst.grow ?_ | refine Lst.putN ?_ (by simp))) (by simp) (by simp) rfl (by simp; omega) fun v' H' wr rd e2 e3 _ => ?_
    simp [h0, hi, hw, e3]
    refine from3_loop hL rest (i + 1) _ v' hr' (by omega) (by simp [h0]) (by simp) (by simp) ?_ hend
    rw [ht, En_append]
    exact e2.grow
theorem from3_ans  {v : List At} (hL : v.length ≤ most) : ans (env P) 59 [lv v] = some (.im (En v) false) := by
  refine ans_V rfl rfl ?_
  simp [c59]
  refine from3_loop hL v 0 _ _ rfl (by omega) (by simp) (by simp) rfl (by simp; exact Lst.nil) ?_
  intro st' a h3 hl
  simp [h3]
  exact (hl.grow (m := 0)).expV (plainss_En _)
theorem from2_ans {u : Int} {l : List Int} (hL : l.length ≤ most) : ans (env P) 31 [.agg [iv u, lv l]] = some (.agg [iv u, lv l]) := by
  refine ans_V rfl rfl ?_
  simp [c31, chunks, elems, allLen]
  refine VP_appN (ys := En ([] : List Int)) (N := 2) LN.nil (by simp) (by simp) (by simp) (by simp) (by simp; omega) fun v' H' wr rd e2' e3 e4 _ e6 => ?_
  have e2 := e2'.l
  have w0 : ∀ x ∈ wr, ¬ x = 0 := fun x hx => by have := e6 x hx; omega
  have w1 : ∀ x ∈ wr, ¬ x = 1 := fun x hx => by have := e6 x hx; omega
  have b0 := e4 0
  have b1 := e4 1
  simp at b0 b1
  rw [← En_append, List.nil_append] at e2
  cases e2 with
  | im hv hl =>
    subst hv
    simp [b0, b1, e3]
    try exact w0
  | row r xs hv hb hle he hr hl =>
    subst hv
    have hr1 : ¬ r = 1 := by intro e; subst e; rw [b1] at hb; cases hb
    have hp := plainss_En l
    simp only [En_length] at he hle
    simp [e3] at hr
    simp [b0, b1, e3, hb, hr1, hle, he, hp, hr]
    try exact w0
theorem from4_loop  {v : List KRow} (he : ∀ r ∈ v, r.extra.length ≤ most) {ks : List Fr'} {K : Ex → St → Prop} (hL : v.length ≤ most) : ∀ (rest : List KRow) (i : Nat) (st : St) (a : PV), v.drop i = rest → i ≤ v.length → st.σ 0 = lv v → st.σ 4 = iv i → st.σ 3 = a → Lst st.h 3 a (En (v.take i)) →
    (∀ st' a, st'.σ 3 = a → Lst st'.h 3 a (En v) → VN (env P) 11 st' ks K) → V (env P) 11 (.loop L11_0) st (.blk 0 :: ks) K
  | [], i, st, a, hr, hile, h0, hi, ha, hl, hend => by
    obtain ⟨hii, hlt, hd⟩ := drop_nil hr hile
    rw [hd] at hl
    rw [V_loop]
    simp [L11_0, h0, hi, hlt]
    exact hend _ a (by simp [ha]) (by simpa using hl.grow)
  | q :: rest, i, st, a, hr, hile, h0, hi, ha, hl, hend => by
    obtain ⟨hq, hlt, hr', ht⟩ := drop_cons hr
    have hmq := List.mem_of_getElem? hq
    have hc := En_at hq
    have hw := wrapS (i := i) (by unfold most at hL; omega)
    have hS := from2_ans (P := P) (u := q.upto) (l := q.extra) (he q hmq)
    rw [V_loop]
    simp [L11_0, h0, hi, hlt, hc, hw, ha, hS, chunks, elems, allLen]
    refine VP_app (ys := En (v.take i)) (by repeat (first | exact hl | refine Lst.grow ?_ | refine Lst.putN ?_ (by simp))) (by simp) (by simp) rfl (by simp; omega) fun v' H' wr rd e2 e3 _ => ?_
    simp [h0, hi, hw, e3]
    refine from4_loop he hL rest (i + 1) _ v' hr' (by omega) (by simp [h0]) (by simp) (by simp) ?_ hend
    rw [ht, En_append]
    exact e2.grow
theorem from4_ans  {v : List KRow} (he : ∀ r ∈ v, r.extra.length ≤ most) (hL : v.length ≤ most) : ans (env P) 11 [lv v] = some (.im (En v) false) := by
  refine ans_V rfl rfl ?_
  simp [c11]
  refine from4_loop he hL v 0 _ _ rfl (by omega) (by simp) (by simp) rfl (by simp; exact Lst.nil) ?_
  intro st' a h3 hl
  simp [h3]
  exact (hl.grow (m := 0)).expV (plainss_En _)
theorem from10_loop  {v : List MRow} (he : ∀ r ∈ v, r.vec.length ≤ most) {ks : List Fr'} {K : Ex → St → Prop} (hL : v.length ≤ most) : ∀ (rest : List MRow) (i : Nat) (st : St) (a : PV), v.drop i = rest → i ≤ v.length → st.σ 0 = lv v → st.σ 4 = iv i → st.σ 3 = a → Lst st.h 2 a (En (v.take i)) →
    (∀ st' a, st'.σ 3 = a → Lst st'.h 2 a (En v) → VN (env P) 63 st' ks K) → V (env P) 63 (.loop L63_0) st (.blk 0 :: ks) K
  | [], i, st, a, hr, hile, h0, hi, ha, hl, hend => by
    obtain ⟨hii, hlt, hd⟩ := drop_nil hr hile
    rw [hd] at hl
    rw [V_loop]
    simp [L63_0, h0, hi, hlt]
    exact hend _ a (by simp [ha]) (by simpa using hl.grow)
  | q :: rest, i, st, a, hr, hile, h0, hi, ha, hl, hend => by
    obtain ⟨hq, hlt, hr', ht⟩ := drop_cons hr
    have hmq := List.mem_of_getElem? hq
    have hc := En_at hq
    have hw := wrapS (i := i) (by unfold most at hL; omega)
    have hS := from3_ans (P := P) (v := q.vec) (he q hmq)
    rw [V_loop]
    simp [L63_0, h0, hi, hlt, hc, hw, ha, hS, chunks, elems, allLen]
    refine VP_app (ys := En (v.take i)) (by repeat (first | exact hl | refine Lst.grow ?_ | refine Lst.putN ?_ (by simp))) (by simp) (by simp) rfl (by simp; omega) fun v' H' wr rd e2 e3 _ => ?_
    simp [h0, hi, hw, e3]
    refine from10_loop he hL rest (i + 1) _ v' hr' (by omega) (by simp [h0]) (by simp) (by simp) ?_ hend
    rw [ht, En_append]
    exact e2.grow
theorem from10_ans  {v : List MRow} (he : ∀ r ∈ v, r.vec.length ≤ most) (hL : v.length ≤ most) : ans (env P) 63 [lv v] = some (.im (En v) false) := by
  refine ans_V rfl rfl ?_
  simp [c63]
  refine from10_loop he hL v 0 _ _ rfl (by omega) (by simp) (by simp) rfl (by simp; exact Lst.nil) ?_
  intro st' a h3 hl
  simp [h3]
  exact (hl.grow (m := 0)).expV (plainss_En _)
theorem place7_ans (T : TI P) {q : Item} (hs : q.sm) : ans (env P) 98 [cw q.x q.y] = some (.agg [iv q.x, iv q.y]) := by
  have h1 := hs.1
  have h2 := hs.2
  unfold smI at h1 h2
  exact place_ans (P := P) T.toTyped3.toTyped2.toTyped T.t33 (sm_is hs.1) (sm_is hs.2) (by omega) (by omega)
theorem from7_ans (T : TI P) {q : Item} (hs : q.sm) : ans (env P) 97 [.agg (itP q)] = some (.agg (itR q)) := by
  refine ans_V rfl rfl ?_
  have hS := place7_ans (P := P) T (q := q) hs
  simp only [cw] at hS
  simp [c97, hS]
  repeat' (first
    | (refine VG_sp (fun h => ?_) (fun h => ?_) <;> simp [h, hS])
    | (refine VB_sp (fun h => ?_) (fun h => ?_) <;> simp [h, hS]))
  skip
theorem from8_loop  {v : List Item} (T : TI P) (hs : ∀ q ∈ v, q.sm) {ks : List Fr'} {K : Ex → St → Prop} (hL : v.length ≤ most) : ∀ (rest : List Item) (i : Nat) (st : St) (a : PV), v.drop i = rest → i ≤ v.length → st.σ 0 = lvP v → st.σ 4 = iv i → st.σ 3 = a → Lst st.h 9 a (EnR (v.take i)) →
    (∀ st' a, st'.σ 3 = a → Lst st'.h 9 a (EnR v) → VN (env P) 60 st' ks K) → V (env P) 60 (.loop L60_0) st (.blk 0 :: ks) K
  | [], i, st, a, hr, hile, h0, hi, ha, hl, hend => by
    obtain ⟨hii, hlt, hd⟩ := drop_nil hr hile
    rw [hd] at hl
    rw [V_loop]
    simp [L60_0, h0, hi, hlt]
    exact hend _ a (by simp [ha]) (by simpa using hl.grow)
  | q :: rest, i, st, a, hr, hile, h0, hi, ha, hl, hend => by
    obtain ⟨hq, hlt, hr', ht⟩ := drop_cons hr
    have hmq := List.mem_of_getElem? hq
    have hc := EnP_at hq
    have hw := wrapS (i := i) (by unfold most at hL; omega)
    have hS := from7_ans (P := P) T (q := q) (hs q hmq)
    rw [V_loop]
    simp [L60_0, h0, hi, hlt, hc, hw, ha, hS, chunks, elems, allLen]
    refine VP_app (ys := EnR (v.take i)) (by repeat (first | exact hl | refine Lst.grow ?_ | refine Lst.putN ?_ (by simp))) (by simp) (by simp) rfl (by simp; omega) fun v' H' wr rd e2 e3 _ => ?_
    simp [h0, hi, hw, e3]
    refine from8_loop T hs hL rest (i + 1) _ v' hr' (by omega) (by simp [h0]) (by simp) (by simp) ?_ hend
    rw [ht, EnR_append]
    exact e2.grow
theorem from8_ans  {v : List Item} (T : TI P) (hs : ∀ q ∈ v, q.sm) (hL : v.length ≤ most) : ans (env P) 60 [lvP v] = some (.im (EnR v) false) := by
  refine ans_V rfl rfl ?_
  simp [c60]
  refine from8_loop T hs hL v 0 _ _ rfl (by omega) (by simp) (by simp) rfl (by simp; exact Lst.nil) ?_
  intro st' a h3 hl
  simp [h3]
  exact (hl.grow (m := 0)).expV (plainss_EnR _)
theorem from5_ans (T : TI P) {l : List RS} (hl : l.length ≤ most) (hs : ∀ q ∈ l, q.sm) : ans (env P) 61 [.im (stepsV (toSI l)) false] = some (.im (rsV l) false) := by
  have hid : (toSI l).map (fun q => (⟨q.op, q.x, q.y, q.s⟩ : RS)) = l := by
    simp only [toSI, List.map_map]
    have : ((fun q : SI => (⟨q.op, q.x, q.y, q.s⟩ : RS)) ∘ RS.si) = id := rfl
    try rw [this]
    try simp
    try rfl
  have := from_ans (P := P) T.toTyped3.toTyped2.toTyped T.t33 (l := toSI l) (by
    intro q hq
    simp [toSI] at hq
    obtain ⟨a, ha, rfl⟩ := hq
    have := hs a ha
    exact ⟨sm_is this.1, sm_is this.2.1, sm_is this.2.2⟩) (by
    intro q hq
    simp [toSI] at hq
    obtain ⟨a, ha, rfl⟩ := hq
    have h1 := (hs a ha).1
    have h2 := (hs a ha).2.1
    have h3 := (hs a ha).2.2
    unfold smI at h1 h2 h3
    have e1 : a.si.x = a.x := rfl
    have e2 : a.si.y = a.y := rfl
    have e3 : a.si.s = a.s := rfl
    intro z hz
    simp only [List.mem_cons, List.not_mem_nil, or_false, e1, e2, e3] at hz
    rcases hz with rfl | rfl | rfl <;> omega) (by simpa [toSI] using hl)
  rw [hid] at this
  exact this
end Go.Evl.Zone

namespace Go.Evl.Zone
open Go Go.Evl
variable {P : Program}
open Go.Evl.Fl
structure NS where
  id : Bytes
  how : Int
  kids : Int
  seq : Int
  clock : Int
  know : List KRow
  gone : List At
  floor : List At
  store : List Item
  zone : List RS
  members : List Bytes
  certs : List At
  rows : List MRow
noncomputable abbrev nsP (s : NS) : List PV := [sv s.id, iv s.how, iv s.kids, iv s.seq, iv s.clock, lv s.know, lv s.gone, lv s.floor, lvP s.store, .im (stepsV (toSI s.zone)) false, lv s.members, lv s.certs, lv s.rows]
abbrev nsR (s : NS) : List PV := [sv s.id, iv s.how, iv s.kids, iv s.seq, iv s.clock, lv s.know, lv s.gone, lv s.floor, lvR s.store, .im (rsV s.zone) false, lv s.members, lv s.certs, lv s.rows]
structure NOK (s : NS) : Prop where
  know : s.know.length ≤ most
  ext : ∀ a ∈ s.know, a.extra.length ≤ most
  gone : s.gone.length ≤ most
  floor : s.floor.length ≤ most
  store : s.store.length ≤ most
  ism : ∀ q ∈ s.store, q.sm
  zone : s.zone.length ≤ most
  zin : ∀ q ∈ s.zone, q.sm
  members : s.members.length ≤ most
  certs : s.certs.length ≤ most
  rows : s.rows.length ≤ most
  rvec : ∀ a ∈ s.rows, a.vec.length ≤ most
theorem ns_ext {s t : NS} : s = t ↔ s.id = t.id ∧ s.how = t.how ∧ s.kids = t.kids ∧ s.seq = t.seq ∧ s.clock = t.clock ∧ s.know = t.know ∧ s.gone = t.gone ∧ s.floor = t.floor ∧ s.store = t.store ∧ s.zone = t.zone ∧ s.members = t.members ∧ s.certs = t.certs ∧ s.rows = t.rows := by
  constructor
  · rintro rfl; simp
  · cases s; cases t; simp
theorem own1_n {H : Heap} {is : List Nat} {v : PV} : (own1 H is v).h.n = H.n := by
  unfold own1; split
  · rfl
  · exact freeze_n _ _
theorem own1_v {H : Heap} {is : List Nat} {v : PV} : (own1 H is v).v = v := by unfold own1; split <;> rfl
theorem own1_rd {H : Heap} {is : List Nat} {v : PV} : (own1 H is v).rd = some is := by unfold own1; split <;> rfl
theorem own1_wr {H : Heap} {is : List Nat} {v : PV} {x : Nat} (h : x ∈ (own1 H is v).wr) : x ∈ is := by
  unfold own1 at h; split at h
  · cases h
  · exact h
theorem own1_box {H : Heap} {is : List Nat} {v : PV} {p : Nat} {cs : List PV} (h : H.at_ p = .box cs) : (own1 H is v).h.at_ p = .box cs := by
  unfold own1; split
  · exact h
  · rw [freeze_at, h]; split <;> rfl
theorem from11_loop {v : List Item} {s : NS} {B1 : List PV} (hv : s.store = v) {ks : List Fr'} {K : Ex → St → Prop} (hL : v.length ≤ most) : ∀ (rest : List Item) (i : Nat) (st : St) (a : PV), v.drop i = rest → i ≤ v.length → st.σ 1 = .ptr 0 0 → st.σ 2 = .ptr 1 0 → st.h.at_ 0 = .box (nsP s) → st.h.at_ 1 = .box B1 → 1 < st.h.n → st.σ 4 = iv i → st.σ 3 = a → Lst st.h 8 a (EnP (v.take i)) →
    (∀ st' a, st'.σ 1 = .ptr 0 0 → st'.σ 2 = .ptr 1 0 → st'.h.at_ 0 = .box (nsP s) → st'.h.at_ 1 = .box B1 → 1 < st'.h.n → st'.σ 3 = a → Lst st'.h 8 a (EnP v) → VN (env P) 25 st' ks K) → V (env P) 25 (.loop L25_0) st (.blk 0 :: ks) K
  | [], i, st, a, hr, hile, h1, h2, hb, hb1, hn1, hi, ha, hl, hend => by
    obtain ⟨hii, hlt, hd⟩ := drop_nil hr hile
    rw [hd] at hl
    have hn0 : 0 < st.h.n := by omega
    rw [V_loop]
    simp [L25_0, h1, hb, hn0, hi, hlt, hv]
    exact hend _ a (by simp [h1]) (by simp [h2]) (by simp [hb, hn0]) (by simp [hb1, hn1]) (by simp; omega) (by simp [ha]) (by simpa using hl.grow)
  | q :: rest, i, st, a, hr, hile, h1, h2, hb, hb1, hn1, hi, ha, hl, hend => by
    obtain ⟨hq, hlt, hr', ht⟩ := drop_cons hr
    have hc := EnP_at hq
    have hw := wrapS (i := i) (by unfold most at hL; omega)
    have hn0 : 0 < st.h.n := by omega
    rw [V_loop]
    simp [L25_0, h1, hb, hn0, hi, hlt, hc, hw, ha, hv, chunks, elems, allLen]
    refine VP_app (ys := EnP (v.take i)) (by repeat (first | exact hl | refine Lst.grow ?_ | refine Lst.putN ?_ (by simp))) (by simp) (by simp) rfl (by simp; omega) fun v' H' wr rd e2 e3 e4 => ?_
    have e5 := e4 0
    have e6 := e4 1
    simp [hb, hb1, hn0, hn1] at e5 e6
    simp [hi, hw, e3]
    refine from11_loop hv hL rest (i + 1) _ v' hr' (by omega) (by simp [h1]) (by simp [h2]) (by simp [e5, e3]) (by simp [e6, e3]; omega) (by simp [e3]; omega) (by simp) (by simp) ?_ hend
    rw [ht, EnP_append]
    exact e2.grow
theorem from11_ans (T : TI P) {s : NS} (F : NOK s) : ans (env P) 25 [.agg (nsP s)] = some (.agg (nsR s)) := by
  have k1 := from4_ans (P := P) (v := s.know) F.ext F.know
  have k2 := from3_ans (P := P) (v := s.gone) F.gone
  have k3 := from3_ans (P := P) (v := s.floor) F.floor
  have k4 := from8_ans (P := P) (v := s.store) T F.ism F.store
  have k5 := from5_ans (P := P) T (l := s.zone) F.zone F.zin
  have k6 := from1_ans (P := P) (v := s.members) F.members
  have k7 := from3_ans (P := P) (v := s.certs) F.certs
  have k8 := from10_ans (P := P) (v := s.rows) F.rvec F.rows
  refine ans_V rfl rfl ?_
  simp [c25]
  refine from11_loop rfl F.store s.store 0 _ _ rfl (by omega) (by simp) (by simp) (by simp) (by simp; rfl) (by simp) (by simp) rfl (by simp; exact Lst.nil) ?_
  intro st' a h1 h2 hb hb1 hn1 h3 hl
  have hn0 : 0 < st'.h.n := by omega
  have hpp := plainss_EnP s.store
  have fz : ∀ (H : Heap) (is : List Nat) (v : PV) (p : Nat) (cs : List PV), H.at_ p = .box cs → (own1 H is v).h.at_ p = .box cs := fun H is v p cs h => own1_box h
  rcases hl with ⟨rfl, _⟩ | ⟨r, xs, rfl, hbr, hle, he, hr, _⟩
  · simp [h1, h2, h3, hb, hb1, hn0, hn1, k1, k2, k3, k4, k5, k6, k7, k8]
    all_goals done
  · simp at he hle
    have o0 : (own1 (st'.h.grow 0) [r] (PV.im (EnR s.store) false)).h.at_ 0 = .box (nsP s) := own1_box (by simp [hb, hn0])
    have o1 : (own1 (st'.h.grow 0) [r] (PV.im (EnR s.store) false)).h.at_ 1 = _ := own1_box (by simp [hn1]; exact hb1)
    have on : (own1 (st'.h.grow 0) [r] (PV.im (EnR s.store) false)).h.n = st'.h.n := own1_n
    have od : (own1 (st'.h.grow 0) [r] (PV.im (EnR s.store) false)).rd = _ := own1_rd
    have ov : (own1 (st'.h.grow 0) [r] (PV.im (EnR s.store) false)).v = _ := own1_v
    simp [h1, h2, h3, hb, hb1, hn0, hn1, hbr, hle, he, hr, hpp, o0, o1, on, ov, od, k1, k2, k3, k4, k5, k6, k7, k8]
    have hr0 : ∀ x, x ∈ (own1 (st'.h.grow 0) [r] (PV.im (EnR s.store) false)).wr → ¬ x = 0 := fun x hx q => by
      have := own1_wr hx
      simp at this
      rw [q] at this
      subst this
      simp [hbr] at hb
    exact hr0
theorem rsame11_ans (T : TI P) {s t : NS} (F : NOK s) : ∃ b : Bool, (b = true ↔ s = t) ∧ ans (env P) 24 [.agg (nsR s), .agg (nsR t)] = some (bv b) := by
  have k1 := rsame4_ans (P := P) (l := s.know) (m := t.know) F.ext F.know
  have k2 := rsame3_ans (P := P) (l := s.gone) (m := t.gone) T F.gone
  have k3 := rsame3_ans (P := P) (l := s.floor) (m := t.floor) T F.floor
  have k4 := rsame8_ans (P := P) (l := s.store) (m := t.store) T F.store
  have k5 := refSame_ans (P := P) T.toTyped3.toTyped2 (l := s.zone) (m := t.zone) F.zone
  have k6 := rsame1_ans (P := P) (l := s.members) (m := t.members) F.members
  have k7 := rsame3_ans (P := P) (l := s.certs) (m := t.certs) T F.certs
  have k8 := rsame10_ans (P := P) (l := s.rows) (m := t.rows) T F.rvec F.rows
  have hs := fun t cx cy a b => evBin_seql (P := P) (t := t) (cx := cx) (cy := cy) a b
  have hn := fun t cx cy a b => evBin_sneq (P := P) (t := t) (cx := cx) (cy := cy) a b
  classical
  refine ⟨decide (s = t), by simp, ?_⟩
  refine ans_V rfl rfl ?_
  simp [c24, k1, k2, k3, k4, k5, k6, k7, k8, hs, hn]
  repeat' (first
    | (refine VG_sp (fun h => ?_) (fun h => ?_) <;> simp [h, k1, k2, k3, k4, k5, k6, k7, k8, hs, hn])
    | (refine VB_sp (fun h => ?_) (fun h => ?_) <;> simp [h, k1, k2, k3, k4, k5, k6, k7, k8, hs, hn]))
  all_goals simp_all [ns_ext]
structure NOp where
  kind : Int
  who : Int
  other : Int
  key : Int
  x : Int
  y : Int
  text : Bytes
  zone : List RS
abbrev opC (o : NOp) : List PV := [iv o.kind, iv o.who, iv o.other, iv o.key, iv o.x, iv o.y, sv o.text, .im (rsV o.zone) false]
def zFew (q : RS) : Bool := decide (q.x ≤ 1099511627776) && decide (-1099511627776 ≤ q.x) && decide (q.y ≤ 1099511627776) && decide (-1099511627776 ≤ q.y) && decide (q.s ≤ 1099511627776) && decide (-1099511627776 ≤ q.s)
def fewO1 (o : NOp) : Bool := decide (o.text.length ≤ 100) && decide (o.zone.length ≤ 40) && decide (o.x ≤ 1099511627776) && decide (-1099511627776 ≤ o.x) && decide (o.y ≤ 1099511627776) && decide (-1099511627776 ≤ o.y)
def fewO (o : NOp) : Bool := fewO1 o && o.zone.all zFew
theorem few11_loop {o : NOp} {v : List RS} (hv : o.zone = v) {ks : List Fr'} {K : Ex → St → Prop} (hL : v.length ≤ most) : ∀ (rest : List RS) (i : Nat) (st : St), v.drop i = rest → i ≤ v.length → (∃ p, st.σ 1 = .ptr p 0 ∧ st.h.at_ p = .box (opC o) ∧ p < st.h.n) → st.σ 3 = iv i →
    (∀ st', rest.all zFew = false → st'.σ 2 = bv false → K .ret st') → (∀ st', (∃ p, st'.σ 1 = .ptr p 0 ∧ st'.h.at_ p = .box (opC o) ∧ p < st'.h.n) → rest.all zFew = true → VN (env P) 14 st' ks K) → V (env P) 14 (.loop L14_0) st (.blk 0 :: ks) K
  | [], i, st, hr, hile, ⟨p0, hb, hp0, hpn⟩, hi, hret, hend => by
    obtain ⟨hii, hlt, hd⟩ := drop_nil hr hile
    rw [V_loop]
    simp [L14_0, hb, hp0, hpn, hi, hlt, hv]
    exact hend _ ⟨p0, by simp [hb], by simp [hp0, hpn], by simp; omega⟩ rfl
  | q :: rest, i, st, hr, hile, ⟨p0, hb, hp0, hpn⟩, hi, hret, hend => by
    obtain ⟨hq, hlt, hr', _⟩ := drop_cons hr
    have hm := List.mem_of_getElem? hq
    have hc := rsV_at hq
    have hw := wrapS (i := i) (by unfold most at hL; omega)
    have hne : ¬ p0 = st.h.n := by omega
    have hpn1 : p0 < st.h.n + 1 := by omega
    rw [V_loop]
    simp [L14_0, hb, hp0, hpn, hne, hpn1, hi, hlt, hc, hw, hv, RS.cells]
    repeat' (first
      | (refine VG_sp (fun h => ?_) (fun h => ?_) <;> simp [h, hb, hp0, hpn, hne, hpn1, hi, hlt, hc, hw, hv, RS.cells])
      | (refine VB_sp (fun h => ?_) (fun h => ?_) <;> simp [h, hb, hp0, hpn, hne, hpn1, hi, hlt, hc, hw, hv, RS.cells]))
    all_goals first
      | exact hret _ (by simp_all [zFew] <;> (intros; first | omega | (exfalso; omega) | (simp_all; done))) (by simp)
      | exact few11_loop hv hL rest (i + 1) _ hr' (by omega) ⟨p0, by simp [hb], by simp [hp0, hpn, hne, hpn1], by simp; omega⟩ (by simp [hw]) (fun st' x y => hret st' (by simp_all [zFew]) y) (fun st' x0 x => hend st' x0 (by simp_all [zFew] <;> (first | omega | (intros; omega))))
theorem few11_ans {o : NOp} : ans (env P) 14 [.agg (opC o)] = some (bv (fewO o)) := by
  refine ans_V rfl rfl ?_
  simp [c14, sv_size]
  repeat' (first
    | (refine VG_sp (fun h2 => ?_) (fun h2 => ?_) <;> simp [h2, sv_size])
    | (refine VB_sp (fun h2 => ?_) (fun h2 => ?_) <;> simp [h2, sv_size]))
  all_goals first
    | (simp_all [fewO, fewO1] <;> intros <;> first | omega | (exfalso; omega) | (simp_all; done))
    | skip
  have h70 : fewO1 o = true := by simp_all [fewO1]; omega
  have hl := h70
  simp only [fewO1, Bool.and_eq_true, decide_eq_true_eq] at hl
  have hM : most = 68719476736 := rfl
  refine few11_loop (o := o) rfl (by omega) o.zone 0 _ rfl (by omega) ⟨0, by simp, by simp, by simp⟩ (by simp) ?_ ?_
  · intro st' ha h2; simp [h2, fewO, ha]
  · rintro st4 _ ha4
    simp [fewO, h70, ha4]
end Go.Evl.Zone

namespace Go.Evl.Zone
open Go Go.Evl Go.Evl.Fl
attribute [local simp] VB_ite VG_ite
variable {P : Program}
end Go.Evl.Zone

namespace Go.Evl.Zone
open Go Go.Evl Go.Evl.Fl
variable {P : Program}
theorem lt53 {n : Int} (h : -1099511627776 ≤ n ∧ n ≤ 1099511627776) : n.natAbs < 2 ^ 53 := by
  have h53 : (2 : Nat) ^ 53 = 9007199254740992 := by decide
  omega
theorem si_ok {l : List RS} (h : ∀ q ∈ l, q.inB) : ∀ q ∈ toSI l, q.ok := by
  intro q hq
  simp only [toSI, List.mem_map] at hq
  obtain ⟨r, hr, rfl⟩ := hq
  obtain ⟨h1, h2, h3, h4⟩ := h r hr
  simp only [near, Bool.and_eq_true, decide_eq_true_eq] at h1 h2
  exact ⟨Is.nearest (abs_lt53 (by omega)), Is.nearest (abs_lt53 (by omega)), Is.nearest (abs_lt53 (by omega))⟩
end Go.Evl.Zone

namespace Go.Evl.Zone
open Go Go.Evl Go.Evl.Fl
variable {P : Program}
theorem cloneF_ok {k : Nat} {H : Heap} {xs : List (List PV)} {fl : Bool} (h1 : allLen k xs = true) (h2 : xs.length ≤ most) (h3 : plainss xs = some xs) : pCloneF k [.im xs fl] H = some ⟨.im xs false, H, [], some []⟩ := by
  simp [pCloneF, h1, h2, h3]
abbrev id01 : Bytes := [48, 49]
def kn : Nat → List KRow
  | 0 => []
  | n + 1 => [⟨id01, ((n + 1 : Nat) : Int), []⟩]
def vc : Nat → List At
  | 0 => []
  | n + 1 => [⟨id01, ((n + 1 : Nat) : Int)⟩]
def rw_ : Nat → List MRow
  | 0 => []
  | n + 1 => [⟨id01, [⟨id01, ((n + 1 : Nat) : Int)⟩]⟩]
def ns (s k r : Nat) (l : List Item) (Z : List RS) : NS := ⟨id01, 0, 0, (s : Int), (s : Int), kn k, [], [], l, Z, [[48], [48, 49]], [], rw_ r⟩
def all1 : List RS := [⟨1, 0, 0, 0⟩]
def rootN : NS := ⟨[48], 0, 0, 0, 0, [], [], [], [], all1, [[48]], [], []⟩
def root1 : NS := ⟨[48], 0, 1, 0, 0, [], [], [], [], all1, [[48], [48, 49]], [], []⟩
def itOf (k : Int) (x y : Int) (t : Bytes) : Item := ⟨k, id01, 1, 1, false, x, y, t, true⟩
def itDel (k : Int) : Item := ⟨k, id01, 2, 2, true, 0, 0, [], false⟩
def it0 : Item := ⟨0, [], 0, 0, false, 0, 0, [], false⟩
structure NC (P : Program) : Prop where
  told : ans (env P) 13 [] = some (bv true)
  pR : ans (env P) 5 [] = some (.agg (nsP rootN))
  pC : ans (env P) 15 [.agg (nsP rootN)] = some (.tup [.agg (nsP root1), .agg (nsP (ns 0 0 0 [] all1)), iv 0])
  pU : ∀ n, n ≤ 2 → ans (env P) 32 [lv (kn n), .im [] false] = some (lv (kn n))
  pM : ∀ n, n ≤ 2 → ans (env P) 74 [lv (rw_ n), .im [] false] = some (lv (rw_ n))
  pK : ans (env P) 33 [.im [] false] = some (.im [] false)
  pF : ∀ n, n ≤ 2 → ans (env P) 38 [lv (kn n)] = some (lv (vc n))
  pP : ∀ m n, m ≤ n → n ≤ 2 → ans (env P) 37 [lv (rw_ m), sv id01, lv (vc n)] = some (lv (rw_ n))
  pA : ∀ n, n ≤ 1 → ans (env P) 65 [lv (kn n), sv id01, iv ((n + 1 : Nat) : Int)] = some (lv (kn (n + 1)))
  pS0 : ∀ k x y t, ans (env P) 66 [.im [] false, .agg (itP (itOf k x y t))] = some (.tup [lvP [itOf k x y t], bv true])
  pS1 : ∀ k : Nat, k < 32 → ∀ x y t, ans (env P) 66 [lvP [itOf k x y t], .agg [iv k, sv id01, iv 2, iv 2, bv true, .val (.complex .f64 0 0), sv [], bv false]] = some (.tup [lvP [itDel k], bv true])
  pG0 : ∀ k, ans (env P) 64 [.im [] false, iv k] = some (.tup [.agg [iv 0, sv [], iv 0, iv 0, bv false, .val (.complex .f64 0 0), sv [], bv false], bv false])
  pG1 : ∀ k : Nat, k < 32 → ∀ x y t, ans (env P) 64 [lvP [itOf k x y t], iv k] = some (.tup [.agg (itP (itOf k x y t)), bv true])
  rR : ans (env P) 17 [] = some (.agg (nsR rootN))
  rC : ans (env P) 16 [.agg (nsR rootN)] = some (.tup [.agg (nsR root1), .agg (nsR (ns 0 0 0 [] all1)), iv 0])
  rU : ∀ n, n ≤ 2 → ans (env P) 90 [lv (kn n), .im [] false] = some (lv (kn n))
  rK : ans (env P) 91 [.im [] false] = some (.im [] false)
  rF : ∀ n, n ≤ 2 → ans (env P) 43 [lv (kn n)] = some (lv (vc n))
  rP : ∀ m n, m ≤ n → n ≤ 2 → ans (env P) 42 [lv (rw_ m), sv id01, lv (vc n)] = some (lv (rw_ n))
  rA : ∀ n, n ≤ 1 → ans (env P) 94 [lv (kn n), sv id01, iv ((n + 1 : Nat) : Int)] = some (lv (kn (n + 1)))
  rS0 : ∀ k x y t, ans (env P) 95 [.im [] false, .agg (itR (itOf k x y t))] = some (.tup [lvR [itOf k x y t], bv true])
  rS1 : ∀ k : Nat, k < 32 → ∀ x y t, ans (env P) 95 [lvR [itOf k x y t], .agg (itR (itDel k))] = some (.tup [lvR [itDel k], bv true])
  rG0 : ∀ k, ans (env P) 52 [.im [] false, iv k] = some (.tup [.agg (itR it0), bv false])
  rG1 : ∀ k : Nat, k < 32 → ∀ x y t, ans (env P) 52 [lvR [itOf k x y t], iv k] = some (.tup [.agg (itR (itOf k x y t)), bv true])
section
variable {s k r n : Nat} {l : List Item} {Z : List RS}
theorem plainss_steps (l : List SI) : plainss (stepsV l) = some (stepsV l) := plainss_ok fun y hy => by
  simp only [stepsV, List.mem_map] at hy
  obtain ⟨a, _, rfl⟩ := hy
  rfl
theorem copied_ans (C : NC P) (hk : k ≤ 2) (hr : r ≤ 2) (hl : l.length ≤ most) (hZ : Z.length ≤ most) : ans (env P) 35 [.agg (nsP (ns s k r l Z))] = some (.agg (nsP (ns s k r l Z))) := by
  have k1 := C.pU k hk
  have k2 := C.pM r hr
  have e2 : ∀ {α : Type} [Enc α] (v : List α) (H : Heap), v.length ≤ most → pCloneF (Enc.k α) [lv v] H = some ⟨lv v, H, [], some []⟩ := fun v H h => cloneF_ok (allLen_En rfl v) (by simpa using h) (plainss_En v)
  have c1 := fun {dst : Option Nat} {rest : List CI} {i slot slot' : Nat} {log : Log} {d : Option (Nat × List (Nat × Nat))} {K : Ex → St → Prop} {st : St} {ks : List Fr'} {xs : List O} => VA_prim (E := env P) (f := 35) (g := 75) (p := pCloneF 2) (dst := dst) (rest := rest) (i := i) (slot := slot) (slot' := slot') (log := log) (d := d) (K := K) (st := st) (ks := ks) (xs := xs) rfl
  have c2 := fun {dst : Option Nat} {rest : List CI} {i slot slot' : Nat} {log : Log} {d : Option (Nat × List (Nat × Nat))} {K : Ex → St → Prop} {st : St} {ks : List Fr'} {xs : List O} => VA_prim (E := env P) (f := 35) (g := 76) (p := pCloneF 8) (dst := dst) (rest := rest) (i := i) (slot := slot) (slot' := slot') (log := log) (d := d) (K := K) (st := st) (ks := ks) (xs := xs) rfl
  have c3 := fun {dst : Option Nat} {rest : List CI} {i slot slot' : Nat} {log : Log} {d : Option (Nat × List (Nat × Nat))} {K : Ex → St → Prop} {st : St} {ks : List Fr'} {xs : List O} => VA_prim (E := env P) (f := 35) (g := 47) (p := pCloneF 3) (dst := dst) (rest := rest) (i := i) (slot := slot) (slot' := slot') (log := log) (d := d) (K := K) (st := st) (ks := ks) (xs := xs) rfl
  have c4 := fun {dst : Option Nat} {rest : List CI} {i slot slot' : Nat} {log : Log} {d : Option (Nat × List (Nat × Nat))} {K : Ex → St → Prop} {st : St} {ks : List Fr'} {xs : List O} => VA_prim (E := env P) (f := 35) (g := 77) (p := pCloneF 1) (dst := dst) (rest := rest) (i := i) (slot := slot) (slot' := slot') (log := log) (d := d) (K := K) (st := st) (ks := ks) (xs := xs) rfl
  have z1 : ∀ H, pCloneF 3 [.im (stepsV (toSI Z)) false] H = some ⟨.im (stepsV (toSI Z)) false, H, [], some []⟩ := fun H => cloneF_ok (by simp) (by simpa [stepsV, toSI] using hZ) (plainss_steps _)
  have z2 : ∀ H, pCloneF 8 [lvP l] H = some ⟨lvP l, H, [], some []⟩ := fun H => cloneF_ok (by simp) (by simpa using hl) (plainss_EnP _)
  have z3 : ∀ H, pCloneF 2 [.im [] false] H = some ⟨.im [] false, H, [], some []⟩ := fun H => by simp [pCloneF, allLen, plainss]
  have z4 : ∀ H, pCloneF 1 [.im (En ([[48], [48, 49]] : List Bytes)) false] H = some ⟨.im (En ([[48], [48, 49]] : List Bytes)) false, H, [], some []⟩ := fun H => cloneF_ok (by rfl) (by simp; unfold most; omega) (plainss_En _)
  refine ans_V rfl rfl ?_
  simp [c35, ns, nsP, lv, lvP, k1, k2, c1, c2, c3, c4, z1, z2, z3, z4]
  all_goals done
theorem all_ans (C : NC P) (hk : k ≤ 2) : ans (env P) 12 [.agg (nsP (ns s k r l Z))] = some (lv (kn k)) := by
  have k1 := C.pU k hk
  have k2 := C.pK
  refine ans_V rfl rfl ?_
  simp [c12, ns, nsP, lv, lvP, k1, k2]
theorem settle_ans (C : NC P) (hk : k ≤ 2) (hr : r ≤ k) (hl : l.length ≤ most) (hZ : Z.length ≤ most) : ans (env P) 39 [.agg (nsP (ns s k r l Z))] = some (.agg (nsP (ns s k k l Z))) := by
  have k1 := copied_ans (s := s) C hk (show r ≤ 2 by omega) hl hZ
  have k2 := all_ans (s := s) (r := r) (l := l) (Z := Z) C hk
  have k3 := C.pF k hk
  have k4 := C.pP r k hr hk
  simp only [ns, nsP, lv, lvP, En_nil, EnP_nil] at k1 k2
  refine ans_V rfl rfl ?_
  simp [c39, ns, nsP, lv, lvP, k1, k2, k3, k4]
theorem setZone_ans (C : NC P) (hZ : Z.length ≤ most) (hz : ans (env P) 46 [.im (stepsV (toSI Z)) false] = some (bv true)) : ans (env P) 18 [.agg (nsP (ns 0 0 0 [] all1)), .im (stepsV (toSI Z)) false] = some (.tup [.agg (nsP (ns 0 0 0 [] Z)), iv 0]) := by
  have k1 := settle_ans (s := 0) (k := 0) (r := 0) (l := []) (Z := Z) C (by omega) (by omega) (by simp) hZ
  have hn := fun t cx cy => evBin_seql (P := P) (t := t) (cx := cx) (cy := cy) id01 [48]
  have c3 := fun {dst : Option Nat} {rest : List CI} {i slot slot' : Nat} {log : Log} {d : Option (Nat × List (Nat × Nat))} {K : Ex → St → Prop} {st : St} {ks : List Fr'} {xs : List O} => VA_prim (E := env P) (f := 18) (g := 47) (p := pCloneF 3) (dst := dst) (rest := rest) (i := i) (slot := slot) (slot' := slot') (log := log) (d := d) (K := K) (st := st) (ks := ks) (xs := xs) rfl
  have z1 : ∀ H, pCloneF 3 [.im (stepsV (toSI Z)) false] H = some ⟨.im (stepsV (toSI Z)) false, H, [], some []⟩ := fun H => cloneF_ok (by simp) (by simpa [stepsV, toSI] using hZ) (plainss_steps _)
  have e0 : ((0 : Nat) : Int) = 0 := rfl
  simp only [ns, nsP, lv, lvP, En_nil, EnP_nil, e0] at k1
  refine ans_V rfl rfl ?_
  simp [c18, resV, resP, ns, nsP, lv, lvP, hz, hn, c3, z1, k1]
  done
theorem event_ans (C : NC P) (hn : n ≤ 1) (hl : l.length ≤ most) (hZ : Z.length ≤ most) {k : Int} {d h : Bool} {a b : Nat} {t : Bytes} {l' : List Item} (hl' : l'.length ≤ most) {i0 : Bytes} {s0 t0 : Int}
    (hp : ans (env P) 66 [.im (EnP l) false, .agg [iv k, sv id01, iv ((n + 1 : Nat) : Int), iv ((n + 1 : Nat) : Int), bv d, .val (.complex .f64 a b), sv t, bv h]] = some (.tup [.im (EnP l') false, bv true])) :
    ans (env P) 28 [.agg (nsP (ns n n n l Z)), .agg [iv k, sv i0, iv s0, iv t0, bv d, .val (.complex .f64 a b), sv t, bv h]] = some (.tup [.agg (nsP (ns (n + 1) (n + 1) (n + 1) l' Z)), iv 0]) := by
  have k1 := copied_ans (s := n) (k := n) (r := n) C (show n ≤ 2 by omega) (show n ≤ 2 by omega) hl hZ
  have k2 := settle_ans (s := n + 1) (k := n + 1) (r := n) C (show n + 1 ≤ 2 by omega) (by omega) hl' hZ
  have k3 := C.pA n hn
  have hw : IntKind.i64.wrap ((n : Int) + 1) = ((n + 1 : Nat) : Int) := by rw [wrap64_id (by omega)]; omega
  have hs : ¬ (1048575 : Int) ≤ (n : Int) := by omega
  have ec : ((n + 1 : Nat) : Int) = (n : Int) + 1 := by omega
  rw [ec] at k3 hw
  simp only [ec] at hp
  simp only [ns, nsP, lv, lvP, En_nil, EnP_nil, ec] at k1 k2
  refine ans_V rfl rfl ?_
  simp [c28, resV, resP, ns, nsP, lv, lvP, k1, k2, k3, hw, hs, hp]
  done
end
end Go.Evl.Zone

namespace Go.Evl.Zone
open Go Go.Evl Go.Evl.Fl
variable {P : Program}
noncomputable def wErr (k x y : Int) (t : Bytes) (Z : List RS) : Int := if k < 0 ∨ 31 < k then 6 else if (near x && near y) = false then 8 else if zoneHas (toSI Z) x y = false then 9 else if 16 < t.length then 7 else 0
section
variable {Z : List RS} {k x y : Int} {t : Bytes}
theorem write_ans (C : NC P) (hZ : Z.length ≤ most)
    (hw : ans (env P) 29 [cw x y] = some (bv (near x && near y))) (hh : ans (env P) 30 [.im (stepsV (toSI Z)) false, cw x y] = some (bv (zoneHas (toSI Z) x y))) :
    ans (env P) 7 [.agg (nsP (ns 0 0 0 [] Z)), iv k, cw x y, sv t] = some (.tup [.agg (nsP (if wErr k x y t Z = 0 then ns 1 1 1 [itOf k x y t] Z else ns 0 0 0 [] Z)), iv (wErr k x y t Z)]) := by
  have hs := sv_size (l := t)
  have e0 : ((0 : Nat) : Int) = 0 := rfl
  by_cases q1 : k < 0 ∨ 31 < k
  · have we : wErr k x y t Z = 6 := by simp [wErr, q1]
    rw [we]
    by_cases q2 : k < 0
    · refine ans_V rfl rfl ?_
      simp [c7, resV, resP, ns, nsP, lv, lvP, q2]
    · have q3 : 32 ≤ k := by omega
      refine ans_V rfl rfl ?_
      simp [c7, resV, resP, ns, nsP, lv, lvP, q2, q3]
  have q2 : ¬ k < 0 := by omega
  have q3 : ¬ 32 ≤ k := by omega
  by_cases q4 : (near x && near y) = false
  · have we : wErr k x y t Z = 8 := by simp only [wErr, if_neg q1, if_pos q4]
    rw [we, ]
    rw [q4] at hw
    refine ans_V rfl rfl ?_
    simp [c7, resV, resP, ns, nsP, lv, lvP, q2, q3, hw]
  have q4' : (near x && near y) = true := by simpa using q4
  rw [q4'] at hw
  by_cases q5 : zoneHas (toSI Z) x y = false
  · have we : wErr k x y t Z = 9 := by simp only [wErr, if_neg q1, if_neg q4, if_pos q5]
    rw [we]
    rw [q5] at hh
    refine ans_V rfl rfl ?_
    simp [c7, resV, resP, ns, nsP, lv, lvP, q2, q3, hw, hh]
  have q5' : zoneHas (toSI Z) x y = true := by simpa using q5
  rw [q5'] at hh
  by_cases q6 : 16 < t.length
  · have we : wErr k x y t Z = 7 := by simp only [wErr, if_neg q1, if_neg q4, if_neg q5, if_pos q6]
    have q7 : (16 : Int) < (t.length : Int) := by omega
    rw [we]
    refine ans_V rfl rfl ?_
    simp [c7, resV, resP, ns, nsP, lv, lvP, q2, q3, hw, hh, q7, hs]
  have we : wErr k x y t Z = 0 := by simp only [wErr, if_neg q1, if_neg q4, if_neg q5, if_neg q6]
  have q7 : ¬ (16 : Int) < (t.length : Int) := by omega
  rw [we, if_pos rfl]
  have k1 := event_ans (l := []) (Z := Z) (n := 0) C (by omega) (by simp) hZ (k := k) (d := false) (h := true) (a := fw x) (b := fw y) (t := t) (l' := [itOf k x y t]) (by simp; unfold most; omega) (i0 := []) (s0 := 0) (t0 := 0) (C.pS0 k x y t)
  have e1 : ((0 + 1 : Nat) : Int) = 1 := rfl
  simp only [ns, nsP, lv, lvP, En_nil, EnP_nil, e0, e1, Nat.zero_add] at k1
  refine ans_V rfl rfl ?_
  simp [c7, resV, resP, ns, nsP, lv, lvP, q2, q3, hw, hh, q7, hs, k1]
theorem there0_ans (C : NC P) (hZ : Z.length ≤ most)  : ans (env P) 27 [.agg (nsP (ns 0 0 0 [] Z)), iv k] = some (.tup [.agg [iv 0, sv [], iv 0, iv 0, bv false, .val (.complex .f64 0 0), sv [], bv false], iv (if k < 0 ∨ 31 < k then 6 else 11)]) := by
  have g := C.pG0 k
  have e0 : ((0 : Nat) : Int) = 0 := rfl
  by_cases q2 : k < 0
  · refine ans_V rfl rfl ?_
    simp [c27, resV, resP, ns, nsP, lv, lvP, q2]
  by_cases q3 : 32 ≤ k
  · have q1 : 31 < k := by omega
    refine ans_V rfl rfl ?_
    simp [c27, resV, resP, ns, nsP, lv, lvP, q2, q3, q1]
  · have q1 : ¬ 31 < k := by omega
    refine ans_V rfl rfl ?_
    simp [c27, resV, resP, ns, nsP, lv, lvP, q2, q3, q1, g]
theorem there1_ans (C : NC P) (hk : 0 ≤ k ∧ k ≤ 31) : ans (env P) 27 [.agg (nsP (ns 1 1 1 [itOf k x y t] Z)), iv k] = some (.tup [.agg (itP (itOf k x y t)), iv 0]) := by
  obtain ⟨m, rfl⟩ : ∃ m : Nat, k = (m : Int) := ⟨k.toNat, by omega⟩
  have g := C.pG1 m (by omega) x y t
  have e1 : ((1 : Nat) : Int) = 1 := rfl
  have q2 : ¬ (m : Int) < 0 := by omega
  have q3 : ¬ (32 : Int) ≤ m := by omega
  simp only [lvP, EnP_one, itP, itOf] at g
  refine ans_V rfl rfl ?_
  simp [c27, resV, resP, ns, nsP, lv, lvP, EnP_one, itP, itOf, q2, q3, g]
theorem delete0_ans (C : NC P) (hZ : Z.length ≤ most) : ans (env P) 6 [.agg (nsP (ns 0 0 0 [] Z)), iv k] = some (.tup [.agg (nsP (ns 0 0 0 [] Z)), iv (if k < 0 ∨ 31 < k then 6 else 11)]) := by
  have g := there0_ans (k := k) C hZ
  have e0 : ((0 : Nat) : Int) = 0 := rfl
  generalize he : (if k < 0 ∨ 31 < k then (6 : Int) else 11) = e at g ⊢
  have hne : ¬ e = 0 := by rw [← he]; split <;> omega
  simp only [ns, nsP, lv, lvP, En_nil, EnP_nil, e0] at g
  refine ans_V rfl rfl ?_
  simp [c6, resV, resP, ns, nsP, lv, lvP, g, hne]
theorem delete1_ans (C : NC P) (hZ : Z.length ≤ most) (hk : 0 ≤ k ∧ k ≤ 31) : ans (env P) 6 [.agg (nsP (ns 1 1 1 [itOf k x y t] Z)), iv k] = some (.tup [.agg (nsP (ns 2 2 2 [itDel k] Z)), iv 0]) := by
  have g := there1_ans (x := x) (y := y) (t := t) (Z := Z) C hk
  obtain ⟨m, rfl⟩ : ∃ m : Nat, k = (m : Int) := ⟨k.toNat, by omega⟩
  have k1 := event_ans (l := [itOf m x y t]) (Z := Z) (n := 1) C (by omega) (by simp; unfold most; omega) hZ (k := m) (d := true) (h := false) (a := 0) (b := 0) (t := []) (l' := [itDel m]) (by simp; unfold most; omega) (i0 := []) (s0 := 0) (t0 := 0) (C.pS1 m (by omega) x y t)
  have e1 : ((1 : Nat) : Int) = 1 := rfl
  have e2 : ((1 + 1 : Nat) : Int) = 2 := rfl
  simp only [ns, nsP, lv, lvP, En_nil, EnP_nil, EnP_one, itP, itOf, e1, e2] at g k1
  refine ans_V rfl rfl ?_
  simp [c6, resV, resP, ns, nsP, lv, lvP, EnP_one, itP, itOf, g, k1]
theorem rall_ans (C : NC P) {s k r : Nat} {l : List Item} (hk : k ≤ 2) : ans (env P) 44 [.agg (nsR (ns s k r l Z))] = some (lv (kn k)) := by
  have k1 := C.rU k hk
  have k2 := C.rK
  refine ans_V rfl rfl ?_
  simp [c44, ns, nsR, lv, lvR, k1, k2]
theorem rsettle_ans (C : NC P) {s k r : Nat} {l : List Item} (hk : k ≤ 2) (hr : r ≤ k) : ans (env P) 45 [.agg (nsR (ns s k r l Z))] = some (.agg (nsR (ns s k k l Z))) := by
  have k2 := rall_ans (s := s) (r := r) (l := l) (Z := Z) C hk
  have k3 := C.rF k hk
  have k4 := C.rP r k hr hk
  simp only [ns, nsR, lv, lvR, En_nil, EnR_nil] at k2
  refine ans_V rfl rfl ?_
  simp [c45, ns, nsR, lv, lvR, k2, k3, k4]
theorem rsetZone_ans (C : NC P) (hZ : Z.length ≤ most) (hz : ans (env P) 48 [.im (rsV Z) false] = some (bv true)) : ans (env P) 21 [.agg (nsR (ns 0 0 0 [] all1)), .im (rsV Z) false] = some (.tup [.agg (nsR (ns 0 0 0 [] Z)), iv 0]) := by
  have k1 := rsettle_ans (s := 0) (k := 0) (r := 0) (l := []) (Z := Z) C (by omega) (by omega)
  have hn := fun t cx cy => evBin_seql (P := P) (t := t) (cx := cx) (cy := cy) id01 [48]
  have e0 : ((0 : Nat) : Int) = 0 := rfl
  have hp : plainss (rsV Z) = some (rsV Z) := plainss_ok fun y hy => by
    simp only [rsV, List.mem_map] at hy
    obtain ⟨a, _, rfl⟩ := hy
    rfl
  have ha : allLen 4 (rsV Z) = true := by
    rw [allLen_iff]
    intro y hy
    simp only [rsV, List.mem_map] at hy
    obtain ⟨a, _, rfl⟩ := hy
    rfl
  simp only [ns, nsR, lv, lvR, En_nil, EnR_nil, e0] at k1
  refine ans_V rfl rfl ?_
  simp [c21, ns, nsR, lv, lvR, hz, hn, elems, ha]
  refine VP_app (ys := []) (Lst.nil) (by simp) (by simp) ha (by simp [rsV]; omega) fun v' H' wr rd e2 e3 e4 => ?_
  have b0 := e4 0
  have b1 := e4 1
  simp at b0 b1
  simp only [List.nil_append] at e2
  rcases e2 with ⟨rfl, _⟩ | ⟨r, xs, rfl, hbr, hle, he, hr, _⟩
  · simp [b0, b1, e3, resV, resP, k1]
    done
  · have hr0 : ¬ r = 0 := fun q => by rw [q, b0] at hbr; cases hbr
    simp at he hle
    rw [e3] at hr
    simp at hr
    have hbx := fun (X : List PV) (is : List Nat) (v : PV) => own1_box (H := (H'.put 0 (.box X)).grow 0) (is := is) (v := v) (p := 1) (by simp [e3]; exact b1)
    simp [b0, b1, e3, resV, resP, hbr, hle, he, hr, hp, hr0, k1, own1_v, own1_n, own1_rd, hbx]
    done
theorem revent_ans (C : NC P) {n : Nat} {l : List Item} (hn : n ≤ 1) {k : Int} {d h : Bool} {x y : Int} {t : Bytes} {l' : List Item} {i0 : Bytes} {s0 t0 : Int}
    (hp : ans (env P) 95 [.im (EnR l) false, .agg [iv k, sv id01, iv ((n + 1 : Nat) : Int), iv ((n + 1 : Nat) : Int), bv d, iv x, iv y, sv t, bv h]] = some (.tup [.im (EnR l') false, bv true])) :
    ans (env P) 51 [.agg (nsR (ns n n n l Z)), .agg [iv k, sv i0, iv s0, iv t0, bv d, iv x, iv y, sv t, bv h]] = some (.agg (nsR (ns (n + 1) (n + 1) (n + 1) l' Z))) := by
  have k2 := rsettle_ans (s := n + 1) (k := n + 1) (r := n) (l := l') (Z := Z) C (show n + 1 ≤ 2 by omega) (by omega)
  have k3 := C.rA n hn
  have hw : IntKind.i64.wrap ((n : Int) + 1) = ((n + 1 : Nat) : Int) := by rw [wrap64_id (by omega)]; omega
  have ec : ((n + 1 : Nat) : Int) = (n : Int) + 1 := by omega
  rw [ec] at k3 hw
  simp only [ec] at hp
  simp only [ns, nsR, lv, lvR, En_nil, EnR_nil, ec] at k2
  refine ans_V rfl rfl ?_
  simp [c51, resV, resP, ns, nsR, lv, lvR, k2, k3, hw, hp]
  done
theorem rwrite_ans (C : NC P) (hZ : Z.length ≤ most)
    (hw : ans (env P) 49 [.agg [iv x, iv y]] = some (bv (near x && near y))) (hh : ans (env P) 50 [.im (rsV Z) false, .agg [iv x, iv y]] = some (bv (zoneHas (toSI Z) x y))) :
    ans (env P) 22 [.agg (nsR (ns 0 0 0 [] Z)), iv k, .agg [iv x, iv y], sv t] = some (.tup [.agg (nsR (if wErr k x y t Z = 0 then ns 1 1 1 [itOf k x y t] Z else ns 0 0 0 [] Z)), iv (wErr k x y t Z)]) := by
  have hs := sv_size (l := t)
  have e0 : ((0 : Nat) : Int) = 0 := rfl
  by_cases q1 : k < 0 ∨ 31 < k
  · have we : wErr k x y t Z = 6 := by simp [wErr, q1]
    rw [we]
    by_cases q2 : k < 0
    · refine ans_V rfl rfl ?_
      simp [c22, resV, resP, ns, nsR, lv, lvR, q2]
    · have q3 : 31 < k := by omega
      refine ans_V rfl rfl ?_
      simp [c22, resV, resP, ns, nsR, lv, lvR, q2, q3]
  have q2 : ¬ k < 0 := by omega
  have q3 : ¬ 31 < k := by omega
  by_cases q4 : (near x && near y) = false
  · have we : wErr k x y t Z = 8 := by simp only [wErr, if_neg q1, if_pos q4]
    rw [we, ]
    rw [q4] at hw
    refine ans_V rfl rfl ?_
    simp [c22, resV, resP, ns, nsR, lv, lvR, q2, q3, hw]
  have q4' : (near x && near y) = true := by simpa using q4
  rw [q4'] at hw
  by_cases q5 : zoneHas (toSI Z) x y = false
  · have we : wErr k x y t Z = 9 := by simp only [wErr, if_neg q1, if_neg q4, if_pos q5]
    rw [we]
    rw [q5] at hh
    refine ans_V rfl rfl ?_
    simp [c22, resV, resP, ns, nsR, lv, lvR, q2, q3, hw, hh]
  have q5' : zoneHas (toSI Z) x y = true := by simpa using q5
  rw [q5'] at hh
  by_cases q6 : 16 < t.length
  · have we : wErr k x y t Z = 7 := by simp only [wErr, if_neg q1, if_neg q4, if_neg q5, if_pos q6]
    have q7 : (16 : Int) < (t.length : Int) := by omega
    rw [we]
    refine ans_V rfl rfl ?_
    simp [c22, resV, resP, ns, nsR, lv, lvR, q2, q3, hw, hh, q7, hs]
  have we : wErr k x y t Z = 0 := by simp only [wErr, if_neg q1, if_neg q4, if_neg q5, if_neg q6]
  have q7 : ¬ (16 : Int) < (t.length : Int) := by omega
  rw [we, if_pos rfl]
  have k1 := revent_ans (l := []) (Z := Z) (n := 0) C (by omega) (k := k) (d := false) (h := true) (x := x) (y := y) (t := t) (l' := [itOf k x y t]) (i0 := []) (s0 := 0) (t0 := 0) (C.rS0 k x y t)
  have e1 : ((0 + 1 : Nat) : Int) = 1 := rfl
  simp only [ns, nsR, lv, lvR, En_nil, EnR_nil, e0, e1, Nat.zero_add] at k1
  refine ans_V rfl rfl ?_
  simp [c22, resV, resP, ns, nsR, lv, lvR, q2, q3, hw, hh, q7, hs, k1]
theorem rdelete0_ans (C : NC P) : ans (env P) 23 [.agg (nsR (ns 0 0 0 [] Z)), iv k] = some (.tup [.agg (nsR (ns 0 0 0 [] Z)), iv (if k < 0 ∨ 31 < k then 6 else 11)]) := by
  have g := C.rG0 k
  by_cases q2 : k < 0
  · refine ans_V rfl rfl ?_
    simp [c23, resV, resP, ns, nsR, lv, lvR, q2]
  by_cases q3 : 31 < k
  · refine ans_V rfl rfl ?_
    simp [c23, resV, resP, ns, nsR, lv, lvR, q2, q3]
  · refine ans_V rfl rfl ?_
    simp [c23, resV, resP, ns, nsR, lv, lvR, q2, q3, g, it0]
theorem rdelete1_ans (C : NC P) (hk : 0 ≤ k ∧ k ≤ 31) : ans (env P) 23 [.agg (nsR (ns 1 1 1 [itOf k x y t] Z)), iv k] = some (.tup [.agg (nsR (ns 2 2 2 [itDel k] Z)), iv 0]) := by
  obtain ⟨m, rfl⟩ : ∃ m : Nat, k = (m : Int) := ⟨k.toNat, by omega⟩
  have g := C.rG1 m (by omega) x y t
  have k1 := revent_ans (l := [itOf m x y t]) (Z := Z) (n := 1) C (by omega) (k := m) (d := true) (h := false) (x := 0) (y := 0) (t := []) (l' := [itDel m]) (i0 := []) (s0 := 0) (t0 := 0) (C.rS1 m (by omega) x y t)
  have e1 : ((1 : Nat) : Int) = 1 := rfl
  have e2 : ((1 + 1 : Nat) : Int) = 2 := rfl
  have q2 : ¬ (m : Int) < 0 := by omega
  have q3 : ¬ (31 : Int) < m := by omega
  simp only [ns, nsR, lv, lvR, En_nil, EnR_nil, EnR_one, itR, itOf, e1, e2] at g k1
  refine ans_V rfl rfl ?_
  simp [c23, resV, resP, ns, nsR, lv, lvR, EnR_one, itR, itOf, q2, q3, g, k1]
end
end Go.Evl.Zone

namespace Go.Evl.Zone
open Go Go.Evl Go.Evl.Fl
variable {P : Program}
theorem zoneEnd (T : Typed2 P) {L : List RS} (hr : zoneRight (toSI L) = true) (hin : ∀ q ∈ L, q.inB) (hlen : L.length ≤ 100) {px py : Int} (hx : -1099511627776 ≤ px ∧ px ≤ 1099511627776) (hy : -1099511627776 ≤ py ∧ py ≤ 1099511627776) :
    ans (env P) 19 [.im (rsV L) false] = some (.im (stepsV (toSI L)) false) ∧ ans (env P) 46 [.im (stepsV (toSI L)) false] = some (bv true) ∧ ans (env P) 8 [.agg [iv px, iv py]] = some (cw px py) ∧
    ans (env P) 30 [.im (stepsV (toSI L)) false, cw px py] = some (bv (zoneHas (toSI L) px py)) ∧ ans (env P) 50 [.im (rsV L) false, .agg [iv px, iv py]] = some (bv (zoneHas (toSI L) px py)) ∧
    ans (env P) 29 [cw px py] = some (bv (near px && near py)) ∧ ans (env P) 49 [.agg [iv px, iv py]] = some (bv (near px && near py)) := by
  have ha : Is (FloatKind.f64.nearest px) px := Is.nearest (lt53 (by omega))
  have hb : Is (FloatKind.f64.nearest py) py := Is.nearest (lt53 (by omega))
  have hm : L.length ≤ most := by unfold most; omega
  have hok := si_ok hin
  refine ⟨to_ans T.toTyped hm, ?_, spot_ans T.toTyped, zoneHas_ans hok ha hb, refHas_ans hr, whole_is ha hb, refWhole_ans⟩
  rw [zoneRight_ans hok, hr]
theorem ns_ok {s k r : Nat} {l : List Item} {Z : List RS} (hl : l.length ≤ 1) (hi : ∀ q ∈ l, q.sm) (hZ : Z.length ≤ 100) (hz : ∀ q ∈ Z, q.sm) : NOK (ns s k r l Z) where
  know := by cases k <;> simp [ns, kn, most]
  ext := by cases k <;> simp [ns, kn, most]
  gone := by simp [ns]
  floor := by simp [ns]
  store := by simp only [ns]; unfold most; omega
  ism := hi
  zone := by simp only [ns]; unfold most; omega
  zin := hz
  members := by simp [ns, most]
  certs := by simp [ns]
  rows := by cases r <;> simp [ns, rw_, most]
  rvec := by cases r <;> simp [ns, rw_, most]
set_option maxRecDepth 20000 in
set_option maxHeartbeats 3200000 in
theorem nodeWrites_ans (T : TI P) (C : NC P) {z : List RS} {o : NOp} : ans (env P) 4 [.im (rsV z) false, .agg (opC o)] = some (bv true) := by
  have hF := few11_ans (P := P) (o := o)
  by_cases hf : fewO o = false
  · rw [hf] at hF
    have ht := C.told
    refine ans_V rfl rfl ?_
    simp [c4, hF, ht]
  have hf' : fewO o = true := by simpa using hf
  rw [hf'] at hF
  obtain ⟨hx, hy⟩ : (-1099511627776 ≤ o.x ∧ o.x ≤ 1099511627776) ∧ (-1099511627776 ≤ o.y ∧ o.y ≤ 1099511627776) := by
    simp only [fewO, fewO1, Bool.and_eq_true, decide_eq_true_eq] at hf'
    omega
  have T0 : Typed P := T.toTyped3.toTyped2.toTyped
  have hfix := fix_ans (P := P) T0 (l := z)
  obtain ⟨f1, f2, f3⟩ := fix_right z
  obtain ⟨Z, hZ⟩ : ∃ Z, Z = fix z := ⟨_, rfl⟩
  rw [← hZ] at hfix f1 f2 f3
  have hm : Z.length ≤ most := by unfold most; omega
  obtain ⟨z1, z2, z3, z4, z5, z6, z7⟩ := zoneEnd (P := P) T.toTyped3.toTyped2 f1 f2 (by omega) hx hy
  have rr : ans (env P) 48 [.im (rsV Z) false] = some (bv true) := by rw [refRight_ans, f1]
  have zs : ∀ q ∈ Z, q.sm := fun q hq => by
    have := f2 q hq
    obtain ⟨a1, a2, a3, a4⟩ := this
    simp only [near, Bool.and_eq_true, decide_eq_true_eq] at a1 a2
    unfold RS.sm smI
    omega
  have p1 := C.pR
  have p2 := C.pC
  have p3 := setZone_ans C hm z2
  have r1 := C.rR
  have r2 := C.rC
  have r3 := rsetZone_ans C hm rr
  have told := C.told
  have w1 := write_ans (P := P) (k := o.key) (t := o.text) C hm z6 z4
  have w2 := rwrite_ans (P := P) (k := o.key) (t := o.text) C hm z7 z5
  have n0 : NOK (ns 0 0 0 [] Z) := ns_ok (by simp) (by simp) (by omega) zs
  have q0 := from11_ans (P := P) T n0
  obtain ⟨b0, hb0, s0⟩ := rsame11_ans (P := P) T n0 (t := ns 0 0 0 [] Z)
  have hb0' : b0 = true := hb0.2 rfl
  rw [hb0'] at s0
  obtain ⟨e, he⟩ : ∃ e, e = wErr o.key o.x o.y o.text Z := ⟨_, rfl⟩
  rw [← he] at w1 w2
  have hnn : ∀ a b : Int, a = b → True := fun _ _ _ => trivial
  by_cases h0 : e = 0
  · have hk : 0 ≤ o.key ∧ o.key ≤ 31 := by
      rw [h0] at he
      unfold wErr at he
      split at he
      · cases he
      · omega
    rw [if_pos h0, h0] at w1 w2
    have d1 := delete1_ans (P := P) (x := o.x) (y := o.y) (t := o.text) C hm hk
    have d2 := rdelete1_ans (P := P) (x := o.x) (y := o.y) (t := o.text) (Z := Z) C hk
    have n1 : NOK (ns 1 1 1 [itOf o.key o.x o.y o.text] Z) := ns_ok (by simp) (by simp [itOf, Item.sm, smI]; omega) (by omega) zs
    have n2 : NOK (ns 2 2 2 [itDel o.key] Z) := ns_ok (by simp) (by simp [itDel, Item.sm, smI]) (by omega) zs
    have q1 := from11_ans (P := P) T n1
    have q2 := from11_ans (P := P) T n2
    obtain ⟨b1, hb1, s1⟩ := rsame11_ans (P := P) T n1 (t := ns 1 1 1 [itOf o.key o.x o.y o.text] Z)
    obtain ⟨b2, hb2, s2⟩ := rsame11_ans (P := P) T n2 (t := ns 2 2 2 [itDel o.key] Z)
    rw [hb1.2 rfl] at s1
    rw [hb2.2 rfl] at s2
    refine ans_V rfl rfl ?_
    generalize ns 0 0 0 [] Z = S0 at *
    generalize ns 1 1 1 [itOf o.key o.x o.y o.text] Z = S1 at *
    generalize ns 2 2 2 [itDel o.key] Z = S2 at *
    generalize ns 0 0 0 [] all1 = A0 at *
    generalize root1 = A1 at *
    generalize rootN = A2 at *
    simp [c4, hF, p1, p2, r1, r2, hfix, z1, z3, p3, r3, told, w1, w2, d1, d2, q1, q2, s1, s2]
    done
  · have d1 := delete0_ans (P := P) (k := o.key) (Z := Z) C hm
    have d2 := rdelete0_ans (P := P) (k := o.key) (Z := Z) C
    rw [if_neg h0] at w1 w2
    generalize (if o.key < 0 ∨ 31 < o.key then (6 : Int) else 11) = e2 at d1 d2
    refine ans_V rfl rfl ?_
    generalize ns 0 0 0 [] Z = S0 at *
    generalize ns 0 0 0 [] all1 = A0 at *
    generalize root1 = A1 at *
    generalize rootN = A2 at *
    simp [c4, hF, p1, p2, r1, r2, hfix, z1, z3, p3, r3, told, w1, w2, d1, d2, q0, s0, h0]
    done
end Go.Evl.Zone

namespace Go.Evl.Zone
open Go Go.Evl
set_option maxRecDepth 1000000
noncomputable def runF (f : FuncId) (cf : CF) (args : List PV) : Option (Option PV) := (ev (env Proofs.Tryz.prog) 3000 f cf.body ⟨start args, Heap.empty, []⟩).map fun q => ((resV q.2 cf.res).bind (expV q.2.h)).map (·.1)
theorem ans_run {f : FuncId} {cf : CF} {args : List PV} {v : PV} (hc : tab f = some cf) (h : runF f cf args = some (some v)) : ans (env Proofs.Tryz.prog) f args = some v := by
  unfold runF at h
  simp only [Option.map_eq_some_iff] at h
  obtain ⟨⟨e, st⟩, h1, ⟨v', is⟩, h2, h3⟩ := h
  simp only at h3
  subst h3
  exact ans_of ⟨cf, hc, rfl, 3000, e, st, is, h1, h2⟩
theorem upto1 {Q : Nat → Prop} (h0 : Q 0) (h1 : Q 1) : ∀ n, n ≤ 1 → Q n := by
  intro n h
  obtain rfl | rfl : n = 0 ∨ n = 1 := by omega
  · exact h0
  · exact h1
theorem upto2 {Q : Nat → Prop} (h0 : Q 0) (h1 : Q 1) (h2 : Q 2) : ∀ n, n ≤ 2 → Q n := by
  intro n h
  obtain rfl | rfl | rfl : n = 0 ∨ n = 1 ∨ n = 2 := by omega
  · exact h0
  · exact h1
  · exact h2
theorem pairs2 {Q : Nat → Nat → Prop} (h0 : Q 0 0) (h1 : Q 0 1) (h2 : Q 0 2) (h3 : Q 1 1) (h4 : Q 1 2) (h5 : Q 2 2) : ∀ m n, m ≤ n → n ≤ 2 → Q m n := by
  intro m n hm h
  obtain rfl | rfl | rfl : n = 0 ∨ n = 1 ∨ n = 2 := by omega
  · obtain rfl : m = 0 := by omega
    exact h0
  · obtain rfl | rfl : m = 0 ∨ m = 1 := by omega
    · exact h1
    · exact h3
  · obtain rfl | rfl | rfl : m = 0 ∨ m = 1 ∨ m = 2 := by omega
    · exact h2
    · exact h4
    · exact h5
theorem f_told : runF 13 c13 [] = some (some (.val (.bool true))) := by kernel_rfl
theorem f_pR : runF 5 c5 [] = some (some (.agg (nsP rootN))) := by kernel_rfl
theorem f_pC : runF 15 c15 [.agg (nsP rootN)] = some (some (.tup [.agg (nsP root1), .agg (nsP (ns 0 0 0 [] all1)), iv 0])) := by kernel_rfl
theorem f_pU (n : Nat) (h : n ≤ 2) : runF 32 c32 [lv (kn n), .im [] false] = some (some (lv (kn n))) := by
  revert n
  refine upto2 ?_ ?_ ?_
  all_goals (show _ = _; kernel_rfl)
theorem f_pM (n : Nat) (h : n ≤ 2) : runF 74 c74 [lv (rw_ n), .im [] false] = some (some (lv (rw_ n))) := by
  revert n
  refine upto2 ?_ ?_ ?_
  all_goals (show _ = _; kernel_rfl)
theorem f_pK : runF 33 c33 [.im [] false] = some (some (.im [] false)) := by kernel_rfl
theorem f_pF (n : Nat) (h : n ≤ 2) : runF 38 c38 [lv (kn n)] = some (some (lv (vc n))) := by
  revert n
  refine upto2 ?_ ?_ ?_
  all_goals (show _ = _; kernel_rfl)
theorem f_pP (m n : Nat) (hm : m ≤ n) (h : n ≤ 2) : runF 37 c37 [lv (rw_ m), sv id01, lv (vc n)] = some (some (lv (rw_ n))) := by
  revert m n
  refine pairs2 ?_ ?_ ?_ ?_ ?_ ?_
  all_goals (show _ = _; kernel_rfl)
theorem f_pA (n : Nat) (h : n ≤ 1) : runF 65 c65 [lv (kn n), sv id01, iv ((n + 1 : Nat) : Int)] = some (some (lv (kn (n + 1)))) := by
  revert n
  refine upto1 ?_ ?_
  all_goals (show _ = _; kernel_rfl)
theorem f_pS0 (k x y : Int) (t : Bytes) : runF 66 c66 [.im [] false, .agg (itP (itOf k x y t))] = some (some (.tup [lvP [itOf k x y t], bv true])) := by kernel_rfl
theorem f_pG0 (k : Int) : runF 64 c64 [.im [] false, iv k] = some (some (.tup [.agg [iv 0, sv [], iv 0, iv 0, bv false, .val (.complex .f64 0 0), sv [], bv false], bv false])) := by kernel_rfl
theorem f_rR : runF 17 c17 [] = some (some (.agg (nsR rootN))) := by kernel_rfl
theorem f_rC : runF 16 c16 [.agg (nsR rootN)] = some (some (.tup [.agg (nsR root1), .agg (nsR (ns 0 0 0 [] all1)), iv 0])) := by kernel_rfl
theorem f_rU (n : Nat) (h : n ≤ 2) : runF 90 c90 [lv (kn n), .im [] false] = some (some (lv (kn n))) := by
  revert n
  refine upto2 ?_ ?_ ?_
  all_goals (show _ = _; kernel_rfl)
theorem f_rK : runF 91 c91 [.im [] false] = some (some (.im [] false)) := by kernel_rfl
theorem f_rF (n : Nat) (h : n ≤ 2) : runF 43 c43 [lv (kn n)] = some (some (lv (vc n))) := by
  revert n
  refine upto2 ?_ ?_ ?_
  all_goals (show _ = _; kernel_rfl)
theorem f_rP (m n : Nat) (hm : m ≤ n) (h : n ≤ 2) : runF 42 c42 [lv (rw_ m), sv id01, lv (vc n)] = some (some (lv (rw_ n))) := by
  revert m n
  refine pairs2 ?_ ?_ ?_ ?_ ?_ ?_
  all_goals (show _ = _; kernel_rfl)
theorem f_rA (n : Nat) (h : n ≤ 1) : runF 94 c94 [lv (kn n), sv id01, iv ((n + 1 : Nat) : Int)] = some (some (lv (kn (n + 1)))) := by
  revert n
  refine upto1 ?_ ?_
  all_goals (show _ = _; kernel_rfl)
theorem f_rS0 (k x y : Int) (t : Bytes) : runF 95 c95 [.im [] false, .agg (itR (itOf k x y t))] = some (some (.tup [lvR [itOf k x y t], bv true])) := by kernel_rfl
theorem f_rG0 (k : Int) : runF 52 c52 [.im [] false, iv k] = some (some (.tup [.agg (itR it0), bv false])) := by kernel_rfl
end Go.Evl.Zone

namespace Go.Evl.Zone
open Go Go.Evl
set_option maxRecDepth 1000000
theorem k32 {Q : Nat → Prop} (h : Q 0 ∧ Q 1 ∧ Q 2 ∧ Q 3 ∧ Q 4 ∧ Q 5 ∧ Q 6 ∧ Q 7 ∧ Q 8 ∧ Q 9 ∧ Q 10 ∧ Q 11 ∧ Q 12 ∧ Q 13 ∧ Q 14 ∧ Q 15 ∧ Q 16 ∧ Q 17 ∧ Q 18 ∧ Q 19 ∧ Q 20 ∧ Q 21 ∧ Q 22 ∧ Q 23 ∧ Q 24 ∧ Q 25 ∧ Q 26 ∧ Q 27 ∧ Q 28 ∧ Q 29 ∧ Q 30 ∧ Q 31) : ∀ k : Nat, k < 32 → Q k := by
  obtain ⟨h0, h1, h2, h3, h4, h5, h6, h7, h8, h9, h10, h11, h12, h13, h14, h15, h16, h17, h18, h19, h20, h21, h22, h23, h24, h25, h26, h27, h28, h29, h30, h31⟩ := h
  intro k hk
  obtain rfl | rfl | rfl | rfl | rfl | rfl | rfl | rfl | rfl | rfl | rfl | rfl | rfl | rfl | rfl | rfl | rfl | rfl | rfl | rfl | rfl | rfl | rfl | rfl | rfl | rfl | rfl | rfl | rfl | rfl | rfl | rfl : k = 0 ∨ k = 1 ∨ k = 2 ∨ k = 3 ∨ k = 4 ∨ k = 5 ∨ k = 6 ∨ k = 7 ∨ k = 8 ∨ k = 9 ∨ k = 10 ∨ k = 11 ∨ k = 12 ∨ k = 13 ∨ k = 14 ∨ k = 15 ∨ k = 16 ∨ k = 17 ∨ k = 18 ∨ k = 19 ∨ k = 20 ∨ k = 21 ∨ k = 22 ∨ k = 23 ∨ k = 24 ∨ k = 25 ∨ k = 26 ∨ k = 27 ∨ k = 28 ∨ k = 29 ∨ k = 30 ∨ k = 31 := by omega
  all_goals assumption
theorem f_pS1 : ∀ k : Nat, k < 32 → ∀ (x y : Int) (t : Bytes), runF 66 c66 [lvP [itOf k x y t], .agg [iv k, sv id01, iv 2, iv 2, bv true, .val (.complex .f64 0 0), sv [], bv false]] = some (some (.tup [lvP [itDel k], bv true])) := by
  apply k32
  repeat' constructor
  all_goals (intro x y t; show _ = _; kernel_rfl)
theorem f_pG1 : ∀ k : Nat, k < 32 → ∀ (x y : Int) (t : Bytes), runF 64 c64 [lvP [itOf k x y t], iv k] = some (some (.tup [.agg (itP (itOf k x y t)), bv true])) := by
  apply k32
  repeat' constructor
  all_goals (intro x y t; show _ = _; kernel_rfl)
theorem f_rS1 : ∀ k : Nat, k < 32 → ∀ (x y : Int) (t : Bytes), runF 95 c95 [lvR [itOf k x y t], .agg (itR (itDel k))] = some (some (.tup [lvR [itDel k], bv true])) := by
  apply k32
  repeat' constructor
  all_goals (intro x y t; show _ = _; kernel_rfl)
theorem f_rG1 : ∀ k : Nat, k < 32 → ∀ (x y : Int) (t : Bytes), runF 52 c52 [lvR [itOf k x y t], iv k] = some (some (.tup [.agg (itR (itOf k x y t)), bv true])) := by
  apply k32
  repeat' constructor
  all_goals (intro x y t; show _ = _; kernel_rfl)
theorem nC : NC Proofs.Tryz.prog where
  told := ans_run rfl f_told
  pR := ans_run rfl f_pR
  pC := ans_run rfl f_pC
  pU := fun n h => ans_run rfl (f_pU n h)
  pM := fun n h => ans_run rfl (f_pM n h)
  pK := ans_run rfl f_pK
  pF := fun n h => ans_run rfl (f_pF n h)
  pP := fun m n hm h => ans_run rfl (f_pP m n hm h)
  pA := fun n h => ans_run rfl (f_pA n h)
  pS0 := fun k x y t => ans_run rfl (f_pS0 k x y t)
  pS1 := fun k h x y t => ans_run rfl (f_pS1 k h x y t)
  pG0 := fun k => ans_run rfl (f_pG0 k)
  pG1 := fun k h x y t => ans_run rfl (f_pG1 k h x y t)
  rR := ans_run rfl f_rR
  rC := ans_run rfl f_rC
  rU := fun n h => ans_run rfl (f_rU n h)
  rK := ans_run rfl f_rK
  rF := fun n h => ans_run rfl (f_rF n h)
  rP := fun m n hm h => ans_run rfl (f_rP m n hm h)
  rA := fun n h => ans_run rfl (f_rA n h)
  rS0 := fun k x y t => ans_run rfl (f_rS0 k x y t)
  rS1 := fun k h x y t => ans_run rfl (f_rS1 k h x y t)
  rG0 := fun k => ans_run rfl (f_rG0 k)
  rG1 := fun k h x y t => ans_run rfl (f_rG1 k h x y t)
end Go.Evl.Zone

namespace Go.Evl.Zone
open Go Go.Evl Go.Evl.Zone Go.Proofs Go.RowKit Go.ChangeShapes Go.WideShapes Go.ChangeAt
set_option maxRecDepth 100000
theorem typed3 : Typed3 P0 where
  t3 := Tryz.underlying3
  t5 := Tryz.underlying5
  t53 := Tryz.underlying40
  t41 := Tryz.underlying97
  t33 := Tryz.underlying50
  t59 := ⟨_, Tryz.underlying105, by kernel_rfl, by kernel_rfl⟩
  h59 := by kernel_rfl
  g59 := by kernel_rfl
  t51 := ⟨_, Tryz.underlying122, by kernel_rfl, by kernel_rfl⟩
  h51 := by kernel_rfl
  g51 := by kernel_rfl
theorem tI : TI P0 where
  toTyped3 := typed3
  t4 := Tryz.underlying4
  t9 := Tryz.underlying9
  place := ⟨⟨_, Tryz.underlying42, by kernel_rfl, by kernel_rfl⟩, by kernel_rfl, by kernel_rfl⟩
  tid := Tryz.underlying23
  at_ := ⟨⟨_, Tryz.underlying156, by kernel_rfl, by kernel_rfl⟩, by kernel_rfl, by kernel_rfl⟩
  rat := ⟨⟨_, Tryz.underlying182, by kernel_rfl, by kernel_rfl⟩, by kernel_rfl, by kernel_rfl⟩
  ver := ⟨⟨_, Tryz.underlying89, by kernel_rfl, by kernel_rfl⟩, by kernel_rfl, by kernel_rfl⟩
  verS := by kernel_rfl
  item := ⟨⟨_, Tryz.underlying91, by kernel_rfl, by kernel_rfl⟩, by kernel_rfl, by kernel_rfl⟩
  rver := ⟨⟨_, Tryz.underlying128, by kernel_rfl, by kernel_rfl⟩, by kernel_rfl, by kernel_rfl⟩
  rverS := by kernel_rfl
  placeS := by kernel_rfl
  ritem := ⟨⟨_, Tryz.underlying130, by kernel_rfl, by kernel_rfl⟩, by kernel_rfl, by kernel_rfl⟩
theorem map_of_all {α β : Type} {f : α → β} {Q : α → Prop} : ∀ {xs : List β}, (∀ x ∈ xs, ∃ a, x = f a ∧ Q a) → ∃ l : List α, xs = l.map f ∧ ∀ a ∈ l, Q a
  | [], _ => ⟨[], rfl, by simp⟩
  | x :: xs, h => by
    obtain ⟨a, rfl, ha⟩ := h x (by simp)
    obtain ⟨l, rfl, hl⟩ := map_of_all (xs := xs) fun y hy => h y (by simp [hy])
    exact ⟨a :: l, rfl, fun b hb => by rcases List.mem_cons.1 hb with rfl | hb; exact ha; exact hl b hb⟩
theorem fit_i {n : Nat} {ps : List PV} (h : Fit P0 (n + 1) 3 ps) : ∃ m, ps = [iv m] ∧ -9223372036854775808 ≤ m ∧ m ≤ 9223372036854775807 := by
  unfold Fit at h
  rw [Tryz.underlying3] at h
  obtain ⟨m, rfl, h2, h3⟩ := h
  exact ⟨m, rfl, h2, h3⟩
theorem fit_s {n : Nat} {ps : List PV} (h : Fit P0 (n + 1) 9 ps) : ∃ b : Bytes, ps = [sv b] ∧ b.length ≤ 9223372036854775807 := by
  unfold Fit at h
  rw [Tryz.underlying9] at h
  obtain ⟨s, rfl, h2⟩ := h
  refine ⟨s.data.toList, by simp [sv], ?_⟩
  have : s.data.toList.length = s.size := by rw [Array.length_toList]; rfl
  rw [this]
  exact Nat.le_trans h2 (by decide)
theorem fit_sl {n : Nat} {t e : TypeId} (hu : P0.underlying t = some (.slice e)) {α : Type} {f : α → List PV} {Q : α → Prop} (he : ∀ ps, Fit P0 n e ps → ∃ a, ps = f a ∧ Q a) {ps : List PV} (h : Fit P0 (n + 1) t ps) :
    ∃ l : List α, ps = [.im (l.map f) false] ∧ ∀ a ∈ l, Q a := by
  unfold Fit at h
  rw [hu] at h
  obtain ⟨xs, rfl, _, h3⟩ := h
  obtain ⟨l, rfl, hl⟩ := map_of_all (f := f) (Q := Q) fun x hx => he x (h3 x hx)
  exact ⟨l, rfl, hl⟩
theorem fit_step {n : Nat} {ps : List PV} (h : Fit P0 (n + 2) 105 ps) : ∃ q : RS, ps = q.cells := by
  unfold Fit at h
  rw [Tryz.underlying105] at h
  obtain ⟨x1, y1, rfl, h1, x2, y2, rfl, h2, x3, y3, rfl, h3, x4, y4, rfl, h4, rfl⟩ : FitL (Fit P0 (n + 1)) [3, 3, 3, 3] ps := h
  obtain ⟨a, rfl, _⟩ := fit_i h1
  obtain ⟨b, rfl, _⟩ := fit_i h2
  obtain ⟨c, rfl, _⟩ := fit_i h3
  obtain ⟨d, rfl, _⟩ := fit_i h4
  exact ⟨⟨a, b, c, d⟩, rfl⟩
theorem fit_steps {n : Nat} {ps : List PV} (h : Fit P0 (n + 3) 43 ps) : ∃ l : List RS, ps = [.im (rsV l) false] := by
  obtain ⟨l, rfl, _⟩ := fit_sl (f := RS.cells) (Q := fun _ => True) Tryz.underlying43 (fun ps h => let ⟨q, e⟩ := fit_step h; ⟨q, e, trivial⟩) h
  exact ⟨l, rfl⟩
theorem fit_zone {n : Nat} {p : PV} (h : FitV P0 (n + 3) 43 p) : ∃ l : List RS, p = .im (rsV l) false := by
  unfold FitV at h
  rw [Tryz.underlying43] at h
  obtain ⟨l, e⟩ := fit_steps (show Fit P0 (n + 3) 43 [p] from h)
  exact ⟨l, by simpa using e⟩
theorem fit_place {n : Nat} {ps : List PV} (h : Fit P0 (n + 2) 42 ps) : ∃ (a b : Int), ps = [iv a, iv b] := by
  unfold Fit at h
  rw [Tryz.underlying42] at h
  obtain ⟨x1, y1, rfl, h1, x2, y2, rfl, h2, rfl⟩ : FitL (Fit P0 (n + 1)) [3, 3] ps := h
  obtain ⟨b, rfl, _⟩ := fit_i h1
  obtain ⟨c, rfl, _⟩ := fit_i h2
  exact ⟨b, c, rfl⟩
theorem fit_opL {n : Nat} {ps : List PV} (h : Fit P0 (n + 4) 45 ps) : ∃ o : NOp, ps = opC o := by
  unfold Fit at h
  rw [Tryz.underlying45] at h
  obtain ⟨x1, y1, rfl, h1, x2, y2, rfl, h2, x3, y3, rfl, h3, x4, y4, rfl, h4, x5, y5, rfl, h5, x6, y6, rfl, h6, x7, y7, rfl, h7, rfl⟩ :
    FitL (Fit P0 (n + 3)) [3, 3, 3, 3, 42, 9, 43] ps := h
  obtain ⟨a, rfl, _⟩ := fit_i h1
  obtain ⟨b, rfl, _⟩ := fit_i h2
  obtain ⟨c, rfl, _⟩ := fit_i h3
  obtain ⟨d, rfl, _⟩ := fit_i h4
  obtain ⟨x, y, rfl⟩ := fit_place h5
  obtain ⟨s, rfl, _⟩ := fit_s h6
  obtain ⟨l, rfl⟩ := fit_steps h7
  exact ⟨⟨a, b, c, d, x, y, s, l⟩, rfl⟩
theorem fit_op {n : Nat} {p : PV} (h : FitV P0 (n + 4) 45 p) : ∃ o : NOp, p = .agg (opC o) := by
  unfold FitV at h
  rw [Tryz.underlying45] at h
  obtain ⟨ps, rfl, h⟩ := h
  obtain ⟨o, rfl⟩ := fit_opL h
  exact ⟨o, rfl⟩
end Go.Evl.Zone
