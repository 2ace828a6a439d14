/- The evaluator's texts ZPl to ZFm, joined. -/
import Derived.Test.YtabelkgkonmihaaDoorEv3
import Derived.Lib.SplitLaws
import Derived.Lib.Join
import Derived.Lib.ItoaNum
import Derived.Calls
import Derived.Below
import Derived.Sort.Grow
import Derived.Deep.Draws
import Derived.Lib.ConvBytes
import Derived.Shelf.Abstract
import Derived.Lib.LaidTab
import GoSem.Extern.MathFloor
import Derived.Test.YtabelkgkonmihaaDoorChecked
import Derived.WalkKit
import Derived.Lib.LaidU8
import Derived.Lib.LaidIn
import Derived.Deep.DeepWitnessRowRef
import Derived.ProofKit
import Derived.Test.YtabelkgkonmihaaDoorShelf
import Derived.Test.YtabelkgkonmihaaDoorRows
import Derived.Stop.LaidErr
import Derived.Test.YtabelkgkonmihaaDoorCards
import Derived.Test.YtabelkgkonmihaaDoorTie
import Derived.Lib.Strings
set_option linter.all false
set_option linter.deprecated false
set_option linter.unusedVariables false
set_option linter.unusedSimpArgs false
set_option linter.unnecessarySimpa false
/- The library's words and ours: what stands between bytes, joined texts, digits. -/
set_option linter.unusedVariables false
namespace Go.Evl.Zone
open Go Go.Evl

theorem joinL_lib (sep : List UInt8) : ∀ l : List (List UInt8), joinL sep l = Lib.join l sep
  | [] => rfl
  | [x] => by rw [Lib.join_one]; rfl
  | x :: y :: r => by
    rw [joinL, joinL_lib sep (y :: r), Lib.join_cons, Lib.join_cons]
    simp [Lib.joinTail]

theorem digL_lib : ∀ (f n : Nat) (acc : List UInt8), n < 10 ^ f → 0 < f → digL f n acc = Lib.decDigits n ++ acc
  | 0, _, _, _, h => absurd h (by decide)
  | f + 1, n, acc, hn, _ => by
    rw [digL, Lib.decDigits]
    split
    · simp
    · rename_i hge
      have hf : 0 < f := by
        cases f with
        | zero => simp at hn; omega
        | succ f => omega
      rw [digL_lib f (n / 10) _ (by rw [Nat.pow_succ] at hn; omega) hf]
      simp

theorem itoaL_lib {n : Int} (h0 : -9223372036854775808 ≤ n) (h1 : n ≤ 9223372036854775807) : itoaL n = Lib.itoa n := by
  unfold itoaL Lib.itoa
  have hp : n.natAbs < 10 ^ 20 := by
    have : (10 : Nat) ^ 20 = 100000000000000000000 := by decide
    omega
  split
  · rw [digL_lib 20 _ _ hp (by decide)]; simp
  · rename_i hn
    rw [digL_lib 20 _ _ hp (by decide), show n.natAbs = n.toNat by omega]; simp

theorem splitK_skip (c b : UInt8) (h : b ≠ c) : ∀ (k : Nat) (l : List UInt8) (x : List UInt8) (xs : List (List UInt8)), Lib.splitK [c] 0 k l = x :: xs → Lib.splitK [c] 0 k (b :: l) = (b :: x) :: xs := by
  intro k l x xs hx
  cases k with
  | zero => simp [Lib.splitK] at hx ⊢; exact hx
  | succ k =>
    have hp : ([c] : List UInt8).isPrefixOf (b :: l) = false := by simp [List.isPrefixOf, Ne.symm h]
    have hix : Lib.index (b :: l) [c] = if Lib.index l [c] == -1 then -1 else Lib.index l [c] + 1 := by rw [Lib.index, hp]; simp
    unfold Lib.splitK at hx ⊢
    by_cases hm : Lib.index l [c] = -1
    · rw [if_pos (by simpa using hm)] at hx
      rw [if_pos (by rw [hix, if_pos (by simpa using hm)]; rfl)]
      simp at hx ⊢; exact hx
    · have hge := Lib.index_ge l [c]
      obtain ⟨j, hj⟩ : ∃ j : Nat, Lib.index l [c] = j := ⟨(Lib.index l [c]).toNat, by omega⟩
      rw [if_neg (by simpa using hm)] at hx
      have hix' : Lib.index (b :: l) [c] = ((j + 1 : Nat) : Int) := by rw [hix, if_neg (by simpa using hm), hj]; omega
      rw [if_neg (by rw [hix']; simp; omega), hix']
      rw [hj] at hx
      simp at hx ⊢
      exact ⟨hx.1, hx.2⟩

theorem splitL_ne (c : UInt8) : ∀ l : List UInt8, splitL c l ≠ []
  | [] => by simp [splitL]
  | b :: l => by
    unfold splitL
    split
    · simp
    · split <;> simp

theorem splitL_lib (c : UInt8) : ∀ l : List UInt8, Lib.splitK [c] 0 (Lib.count l [c]) l = splitL c l
  | [] => by rw [Lib.count_miss (by simp [Lib.index])]; rfl
  | b :: l => by
    by_cases h : b = c
    · subst h
      rw [Lib.count_cons_eq, Nat.add_comm, Lib.splitK]
      have hix : Lib.index (b :: l) [b] = 0 := by rw [Lib.index]; simp [List.isPrefixOf]
      rw [if_neg (by rw [hix]; decide), hix, splitL, if_pos rfl]
      simp
      exact splitL_lib b l
    · rw [Lib.count_cons_ne b c l h, splitL, if_neg h]
      have ih := splitL_lib c l
      cases hs : splitL c l with
      | nil => exact absurd hs (splitL_ne c l)
      | cons x xs =>
        rw [hs] at ih
        exact splitK_skip c b h _ l x xs ih

theorem splitB_lib {s p : ByteArray} {c : UInt8} (hp : p.data.toList = [c]) : (Lib.splitB p 0 (Lib.countB s p) s).map (·.data.toList) = splitL c s.data.toList := by
  rw [Lib.splitB_data, Lib.countB, hp, splitL_lib]

end Go.Evl.Zone

/- The library's functions that are taken as told: that they do what is told of them. -/
set_option linter.unusedVariables false
namespace Go.Evl.Zone
open Go Go.Evl Go.RowKit Go.Sort

/-- A told function does what is told of it. -/
def PSound (P : Program) (Inv : G → Prop) (f : FuncId) (p : List PV → Heap → Option ORes) : Prop := ∀ args H r, p args H = some r → ∀ (g : G) (vs : List Value) (R : Value → World → Prop), WR g → Inv g → g.H = H → Cs g vs args →
    (∀ g' v, g'.H = r.h → WR g' → Ext g g' → VR g' v r.v → R v g'.w) → Goes P f vs.toArray g.w R

theorem goes_calls {P : Program} {f : FuncId} {args : Array Value} {w : World} {R : Value → World → Prop} {Q : Ending → World → Prop} (hE : Go.Proofs.Enters P f) (h : Calls P f args w Q) (hq : ∀ e w', Q e w' → ∃ v, e = .returned v ∧ R v w') : Goes P f args w R := by
  unfold Goes
  rw [hE args w]
  refine h.mono fun e w' hx => ?_
  obtain ⟨v, rfl, hr⟩ := hq e w' hx
  exact hr

/-- A world that has only grown. -/
theorem grown_g {g : G} (hW : WR g) {w' : World} (hb : Below g.w.heap.size g.w w') : ∃ g' : G, g'.w = w' ∧ g'.H = g.H ∧ WR g' ∧ Ext g g' ∧ ∀ b, g.w.heap.size ≤ b → b < w'.heap.size → g'.Z b := by
  obtain ⟨h1, h2⟩ := grow_world hW w' (fun b => g.w.heap.size ≤ b ∧ b < w'.heap.size) hb.size hb.block (fun b h => h) ⟨hb.os, hb.tape, hb.output⟩
  exact ⟨⟨w', fun b => g.Z b ∨ (g.w.heap.size ≤ b ∧ b < w'.heap.size), g.ι, g.H⟩, rfl, rfl, h1, h2, fun b h h' => .inr ⟨h, h'⟩⟩

/-- The cells of what a slice holds. -/
theorem elems_slice {g : G} (hW : WR g) {v : Value} {p : PV} (hv : VR g v p) (hp : ∀ x, p ≠ .val x) {k : Nat} {ys : List (List PV)} {is : List Nat} (h : elems g.H k p = some (ys, is)) :
    ∃ (ad : Option Addr) (c : Nat), v = .slice ad ys.length c ∧ ys.length ≤ c ∧ (ys ≠ [] → ∃ (b o : Nat) (news : List Value), ad = some ⟨b, o, none⟩ ∧ b < g.w.heap.size ∧ RR g k news ys ∧ ∀ (j : Nat) u, news[j]? = some u → g.w.cell? ⟨b, o + j, none⟩ = some u) := by
  unfold elems at h
  split at h
  · rename_i xs full
    split at h
    · rename_i hall
      simp at h; obtain ⟨rfl, rfl⟩ := h
      obtain ⟨ad, cap, rfl, _, hcap, hat⟩ := hv.inv_im
      refine ⟨ad, cap, rfl, hcap, fun hne => ?_⟩
      obtain ⟨k', b, off, c, t, fr, cv, rfl, hZ, hb, hk, hno, hc, hh⟩ := hat hne
      have hkk : k = k' := allLen_eq hall hne hk
      subst hkk
      have key : ∀ (q : Nat) (p : PV), xs.flatten[q]? = some p → ∃ u, g.w.cell? ⟨b, off + q, none⟩ = some u ∧ (VR g u p ∧ u.oneCell' = true) := by
        intro q p hq
        obtain ⟨hk0, x, h1, h2⟩ := flat_get' hk hq
        have h3 := hc _ x _ p h1 h2
        rw [Nat.add_assoc, Nat.mul_comm, Nat.div_add_mod] at h3
        exact ⟨_, by rw [cell_of hb]; exact h3.1, hh _ x _ p h1 h2, h3.2⟩
      obtain ⟨news, n1, n2⟩ := cells_of (g := g) (ps := xs.flatten) (ad := fun q => g.w.cell? ⟨b, off + q, none⟩) (fun q p hq => let ⟨u, z1, z2⟩ := key q p hq; ⟨u, z1, z2.1⟩)
      refine ⟨b, off, news, rfl, lt_of_heap hb, ⟨n1, hk, fun u hu => ?_⟩, n2⟩
      obtain ⟨q, hq⟩ := List.mem_iff_getElem?.1 hu
      have hq' : q < xs.flatten.length := by rw [← n1.1]; exact (List.getElem?_eq_some_iff.1 hq).1
      obtain ⟨u', z1, z2⟩ := key q _ (List.getElem?_eq_getElem hq')
      rw [n2 q u hq] at z1; simp at z1; subst z1; exact z2.2
    · simp at h
  · rename_i r k' gen off len
    split at h
    · rename_i k'' xs own hb
      split at h
      · rename_i hcond
        obtain ⟨rfl, rfl, rfl, hle⟩ := hcond
        simp at h; obtain ⟨rfl, rfl⟩ := h
        cases hv with
        | sl ad _ _ _ _ _ cap hlc hg hh =>
          obtain ⟨a1, a2, b, c, t, fr, q1, q2, q3, q4, q5, q6⟩ := hW.row r k xs own hb
          have hval : Valid g r k xs.length b := ⟨q1, by rw [hb]; rfl, by rw [hb]; rfl⟩
          obtain ⟨e1, _⟩ := hh b hval
          subst e1
          have hrr := row_rr a2 q5 q6
          have hsub := (hrr.drop off).take len
          have hlen : ((xs.drop off).take len).length = len := by simp; omega
          refine ⟨_, cap, by rw [hlen], by rw [hlen]; exact hlc, fun _ => ⟨b, off * k, _, rfl, lt_of_heap q2, hsub, fun j u hj => ?_⟩⟩
          rw [List.getElem?_take] at hj
          split at hj
          · rw [List.getElem?_drop, List.getElem?_take] at hj
            split at hj
            · rw [cell_of q2]; simpa using hj
            · simp at hj
          · simp at hj
      · simp at h
    · simp at h
  · exact absurd rfl (hp _)
  · simp at h

variable {P : Program} {Inv : G → Prop}

theorem cs_one {g : G} {vs : List Value} {p : PV} (h : Cs g vs [p]) : ∃ v, vs = [v] ∧ VR g v p := by
  obtain ⟨v, h1, h2⟩ := h.get (i := 0) (p := p) rfl
  have := h.1
  match vs, this, h1 with
  | [x], _, h1 => simp at h1; exact ⟨v, by rw [h1], h2⟩

theorem cs_two {g : G} {vs : List Value} {p q : PV} (h : Cs g vs [p, q]) : ∃ v u, vs = [v, u] ∧ VR g v p ∧ VR g u q := by
  obtain ⟨v, h1, h2⟩ := h.get (i := 0) (p := p) rfl
  obtain ⟨u, h3, h4⟩ := h.get (i := 1) (p := q) rfl
  have := h.1
  match vs, this, h1, h3 with
  | [x, y], _, h1, h3 => simp at h1 h3; exact ⟨v, u, by rw [h1, h3], h2, h4⟩

/-- strings.Split at a separator of one byte. -/
theorem split_ok {f : FuncId} {t : TypeId} (hE : Go.Proofs.Enters P f) (hC : ∀ g, Inv g → ∀ (s sep : ByteArray), s.size < 4294967281 → 1 ≤ sep.size → Calls P f #[.string s, .string sep] g.w fun e w' =>
      e = .returned (.slice (some ⟨g.w.heap.size, 0, none⟩) (Lib.countB s sep + 1) (Lib.countB s sep + 1)) ∧ w' = g.w.alloc (.cells ((Lib.splitB sep 0 (Lib.countB s sep) s).map Value.string).toArray t)) : PSound P Inv f pSplit := by
  intro args H r h g vs R hW hI hH ha hR
  unfold pSplit at h
  split at h
  · rename_i s p
    split at h
    · rename_i c hc
      split at h
      · rename_i hs
        simp at h; subst h
        obtain ⟨v, u, rfl, h1, h2⟩ := cs_two ha
        obtain rfl := h1.inv_val
        obtain rfl := h2.inv_val
        have hp1 : 1 ≤ p.size := by
          have : p.size = p.data.toList.length := (Array.length_toList (xs := p.data)).symm
          rw [this, hc]; simp
        refine goes_calls hE (hC g hI s p hs hp1) ?_
        rintro e w' ⟨rfl, hw⟩
        refine ⟨_, rfl, ?_⟩
        generalize hL : Lib.splitB p 0 (Lib.countB s p) s = L at hw
        have hlen : L.length = Lib.countB s p + 1 := by rw [← hL]; exact Lib.splitB_all p hp1 0 _ s rfl
        have hLL : L.map (·.data.toList) = splitL c s.data.toList := by rw [← hL]; exact splitB_lib hc
        have hbel : Below g.w.heap.size g.w w' := hw ▸ (Below.refl _ _).alloc (Nat.le_refl _) _
        obtain ⟨g', e1, e2, e3, e4, e5⟩ := grown_g hW hbel
        have hnew : g'.w.heap[g.w.heap.size]? = some (.cells (L.map Value.string).toArray t (0, 0)) := by
          rw [e1, hw]; exact heap_alloc_new g.w _
        have hx : ((splitL c s.data.toList).map fun x => [strOf x]) = L.map fun x => [PV.val (.string x)] := by
          rw [← hLL, List.map_map]
          refine List.map_congr_left fun x _ => ?_
          simp [strOf]
        refine e1 ▸ hR g' _ (by rw [e2, hH]) e3 e4 ?_
        rw [← hlen, hx]
        refine VR.mk_im (by simp) (by simp) (by simp) fun _ => ⟨1, g.w.heap.size, 0, _, t, _, fun i j => ((L.map Value.string)[i]?).getD undef, rfl, e5 _ (Nat.le_refl _) (lt_of_heap (e1 ▸ hnew)), hnew, ?_, ?_, ?_, ?_⟩
        · intro x hx; simp at hx; obtain ⟨c, _, rfl⟩ := hx; rfl
        · intro x hx p hp; simp at hx; obtain ⟨c, _, rfl⟩ := hx; simp at hp; subst hp; exact .val _
        all_goals
          intro i x j p hx hp
          simp only [List.getElem?_map, Option.map_eq_some_iff] at hx
          obtain ⟨c, hc, rfl⟩ := hx
          have hj : j = 0 := by have := (List.getElem?_eq_some_iff.1 hp).1; simp at this; omega
          subst hj
          simp at hp; subst hp
          have hat : (L.map Value.string)[i]? = some (.string c) := by simp [hc]
          first
            | exact ⟨by simp [hc], by simp [hc, Value.oneCell']⟩
            | (simp only [hat, Option.getD_some]; exact .val _)
      · simp at h
    · simp at h
  · simp at h

/-- A told function that answers one scalar and lets the world grow. -/
theorem goes_val {f : FuncId} {args : Array Value} {g : G} {x : Value} {H : Heap} {R : Value → World → Prop} {Q : Ending → World → Prop} (hE : Go.Proofs.Enters P f) (h : Calls P f args g.w Q) (hW : WR g) (hH : g.H = H)
    (hq : ∀ e w', Q e w' → e = .returned x ∧ Below g.w.heap.size g.w w') (hR : ∀ g' v, g'.H = H → WR g' → Ext g g' → VR g' v (.val x) → R v g'.w) : Goes P f args g.w R := by
  refine goes_calls hE h fun e w' hx => ?_
  obtain ⟨he, hb⟩ := hq e w' hx
  obtain ⟨g', e1, e2, e3, e4, e5⟩ := grown_g hW hb
  exact ⟨x, he, e1 ▸ hR g' x (by rw [e2, hH]) e3 e4 (.val x)⟩

theorem below_grow (w : World) (k : Nat) (os : Array Obj) : Below w.heap.size w (grow (w.drewN k) os) :=
  ⟨rfl, rfl, rfl, by simp [grow, World.drewN], fun b hb => by
    show (w.heap ++ os)[b]? = _
    rw [Array.getElem?_append, if_pos hb]⟩

theorem itoa_ok {f : FuncId} (hE : Go.Proofs.Enters P f) (hC : ∀ g, Inv g → ∀ n : Int, -9223372036854775808 ≤ n → n ≤ 9223372036854775807 → Calls P f #[.int .i64 n] g.w fun e w' => e = .returned (.string ⟨(Lib.itoa n).toArray⟩) ∧ ∃ k os, w' = grow (g.w.drewN k) os) : PSound P Inv f pItoa := by
  intro args H r h g vs R hW hI hH ha hR
  unfold pItoa at h
  split at h
  · rename_i n
    split at h
    · rename_i hn
      simp at h; subst h
      obtain ⟨v, rfl, h1⟩ := cs_one ha
      obtain rfl := h1.inv_val
      refine goes_val (x := .string ⟨(itoaL n).toArray⟩) hE (hC g hI n hn.1 hn.2) hW hH ?_ hR
      rintro e w' ⟨rfl, k, os, rfl⟩
      exact ⟨by rw [itoaL_lib hn.1 hn.2], below_grow _ _ _⟩
    · simp at h
  · simp at h

theorem join_ok {f : FuncId} (hE : Go.Proofs.Enters P f) (hN : ∀ (g : G) (a : Option Addr) (c : Nat) (sep : ByteArray), Calls P f #[.slice a 0 c, .string sep] g.w fun e w' => e = .returned (.string ⟨#[]⟩) ∧ w' = g.w)
    (hC : ∀ (g : G) (bk o c : Nat) (xs : List ByteArray) (sep : ByteArray), (∀ (j : Nat) x, xs[j]? = some x → g.w.cell? ⟨bk, o + j, none⟩ = some (.string x)) → bk < g.w.heap.size → xs.length ≤ 140737488355328 → xs.length ≤ c → (Lib.join (xs.map (·.data.toList)) sep.data.toList).length ≤ 140737488355328 →
      Calls P f #[.slice (some ⟨bk, o, none⟩) xs.length c, .string sep] g.w fun e w' => e = .returned (.string ⟨(Lib.join (xs.map (·.data.toList)) sep.data.toList).toArray⟩) ∧ Below g.w.heap.size g.w w') : PSound P Inv f pJoin := by
  intro args H r h g vs R hW hI hH ha hR
  unfold pJoin at h
  split at h
  · simp at h
  · rename_i x p hnv
    split at h
    · rename_i xs is hel
      split at h
      · rename_i l hl
        split at h
        · rename_i hcond
          simp at h; subst h
          obtain ⟨v, u, rfl, h1, h2⟩ := cs_two ha
          obtain rfl := h2.inv_val
          subst hH
          obtain ⟨ad, c, rfl, hlc, hat⟩ := elems_slice hW h1 (fun x0 hx0 => hnv x0 hx0) hel
          have hstr : ∀ (xs : List (List PV)) (l : List (List UInt8)), strs xs = some l → xs = l.map fun x => [strOf x] := by
            intro xs
            induction xs with
            | nil => intro l h; simp [strs] at h; subst h; rfl
            | cons y ys ih =>
              intro l h
              unfold strs at h
              split at h
              · rename_i heq; simp at heq
              · rename_i s r heq
                simp at heq; obtain ⟨rfl, rfl⟩ := heq
                simp only [Option.map_eq_some_iff] at h
                obtain ⟨l', h', rfl⟩ := h
                rw [ih l' h']; simp [strOf]
              · simp at h
          have hxs := hstr xs l hl
          cases hne : xs with
          | nil =>
            have hl0 : l = [] := by rw [hne] at hxs; simpa using hxs.symm
            subst hl0
            rw [show ([] : List (List PV)).length = 0 from rfl]
            refine goes_val (x := .string ⟨#[]⟩) hE (hN g ad c p) hW rfl ?_ hR
            rintro e w' ⟨rfl, rfl⟩
            exact ⟨rfl, Below.refl _ _⟩
          | cons y ys =>
            obtain ⟨b, o, news, rfl, hbl, hrr, hcell⟩ := hat (by rw [hne]; simp)
            rw [← hne]
            have hlen : (l.map fun x => (⟨x.toArray⟩ : ByteArray)).length = xs.length := by rw [hxs]; simp
            rw [← hlen]
            have hmm : (l.map fun x => (⟨x.toArray⟩ : ByteArray)).map (·.data.toList) = l := by rw [List.map_map]; exact (List.map_congr_left fun x _ => by simp).trans (List.map_id l)
            generalize hL : (l.map fun x => (⟨x.toArray⟩ : ByteArray)) = L at hlen hmm
            have hLl : L.length ≤ 140737488355328 := by rw [← hL, List.length_map]; exact hcond.1
            have hLc : L.length ≤ c := by rw [hlen]; exact hlc
            have hLj : (Lib.join (L.map (·.data.toList)) p.data.toList).length ≤ 140737488355328 := by rw [hmm, ← joinL_lib]; exact hcond.2
            have hcells : ∀ (j : Nat) x, L[j]? = some x → g.w.cell? ⟨b, o + j, none⟩ = some (.string x) := by
              intro j x hx
              rw [← hL] at hx
              have hflat : xs.flatten = l.map strOf := by
                rw [hxs]
                have : ∀ l : List (List UInt8), (l.map fun x => [strOf x]).flatten = l.map strOf := by
                  intro l
                  induction l with
                  | nil => rfl
                  | cons a l ih => simp only [List.map_cons, List.flatten_cons, ih]; rfl
                exact this l
              obtain ⟨z, hz⟩ : ∃ z, l[j]? = some z ∧ (⟨z.toArray⟩ : ByteArray) = x := by simpa using hx
              have hfj : xs.flatten[j]? = some (strOf z) := by rw [hflat]; simp [hz.1]
              obtain ⟨cv, c1, c2⟩ := hrr.cs.get hfj
              have := c2.inv_val
              rw [hcell j cv c1, this, ← hz.2]
            have hcall := hC g b o c L p hcells hbl hLl hLc hLj
            rw [hmm, ← joinL_lib] at hcall
            exact goes_val (x := .string ⟨(joinL p.data.toList l).toArray⟩) hE hcall hW rfl (fun e w' h => h) hR
        · simp at h
      · simp at h
    · simp at h
  · simp at h

theorem below_bytes (w : World) (e : TypeId) (s : ByteArray) : Below w.heap.size w (Lib.bytesWorld w e s) := by
  have h1 : ((w.drew.alloc (.cells (Lib.bytesCells w e s) e)).heap).size = w.heap.size + 1 := by simp
  unfold Lib.bytesWorld World.freeze
  simp only [Nat.one_ne_zero, if_false]
  refine ⟨rfl, rfl, rfl, ?_, fun b hb => ?_⟩
  · simp only [Array.size_modify]; omega
  · simp only [Array.getElem?_modify]
    rw [if_neg (by omega)]
    exact Below.heap_alloc w.drew _ b hb

theorem atoi_ok {f : FuncId} {t : TypeId} {ti : TypeId} (hE : Go.Proofs.Enters P f)
    (hC : ∀ (g : G) (s : ByteArray), s.size ≤ 9223372036854775806 → ∀ v : Int, Lib.atoiAll s.data.toList = .ok v → Calls P f #[.string s] g.w fun e w' => e = .returned (.tuple #[.int .i64 v, .nilIface]) ∧ (w' = g.w ∨ ∃ t', w' = Lib.bytesWorld g.w t t'))
    (hS : ∀ g, Inv g → ∀ (s : ByteArray), s.size ≤ 281474976710656 → (∀ v, Lib.atoiAll s.data.toList ≠ .ok v) → Lib.atoiAll s.data.toList ≠ .range → Calls P f #[.string s] g.w fun e w' => (∃ N, e = .returned (.tuple #[.int .i64 (0), .iface ti (.pointer (some ⟨N, 0, none⟩))])) ∧ Below g.w.heap.size g.w w')
    (hR : ∀ g, Inv g → ∀ (s : ByteArray), s.size ≤ 281474976710656 → Lib.atoiAll s.data.toList = .range → Calls P f #[.string s] g.w fun e w' => (∃ N, e = .returned (.tuple #[.int .i64 (Lib.atoiSat s.data.toList), .iface ti (.pointer (some ⟨N, 0, none⟩))])) ∧ Below g.w.heap.size g.w w') : PSound P Inv f pAtoi := by
  intro args H r h g vs R hW hI hH ha hQ
  unfold pAtoi at h
  split at h
  · rename_i s
    split at h
    · rename_i hs
      split at h
      · rename_i v hv
        simp at h; subst h
        obtain ⟨u, rfl, h1⟩ := cs_one ha
        obtain rfl := h1.inv_val
        refine goes_calls hE (hC g s (by omega) v hv) ?_
        rintro e w' ⟨rfl, hw⟩
        have hb : Below g.w.heap.size g.w w' := by
          rcases hw with rfl | ⟨t', rfl⟩
          · exact Below.refl _ _
          · exact below_bytes _ _ _
        obtain ⟨g', e1, e2, e3, e4, e5⟩ := grown_g hW hb
        exact ⟨_, rfl, e1 ▸ hQ g' _ (by rw [e2, hH]) e3 e4 (VR.of_tup (Cs.cons (.val _) (Cs.cons (.val _) (Cs.nil _))))⟩
      · rename_i hv
        simp at h; subst h
        obtain ⟨u, rfl, h1⟩ := cs_one ha
        obtain rfl := h1.inv_val
        refine goes_calls hE (hR g hI s hs hv) ?_
        rintro e w' ⟨⟨N, rfl⟩, hb⟩
        obtain ⟨g', e1, e2, e3, e4, e5⟩ := grown_g hW hb
        exact ⟨_, rfl, e1 ▸ hQ g' _ (by rw [e2, hH]) e3 e4 (VR.of_tup (Cs.cons (.val _) (Cs.cons (.ifc _ _) (Cs.nil _))))⟩
      · rename_i hv1 hv2
        simp at h; subst h
        obtain ⟨u, rfl, h1⟩ := cs_one ha
        obtain rfl := h1.inv_val
        refine goes_calls hE (hS g hI s hs hv1 hv2) ?_
        rintro e w' ⟨⟨N, rfl⟩, hb⟩
        obtain ⟨g', e1, e2, e3, e4, e5⟩ := grown_g hW hb
        exact ⟨_, rfl, e1 ▸ hQ g' _ (by rw [e2, hH]) e3 e4 (VR.of_tup (Cs.cons (.val _) (Cs.cons (.ifc _ _) (Cs.nil _))))⟩
    · simp at h
  · simp at h

theorem trunc_ok {f : FuncId} (hC : ∀ (x : Nat) (w : World) (args : Array Value), (callFunc f args).run P w = (do return Next.value (← Extern.MathFloor.toIntegral "math.archTrunc" .zero args) : Sem Next).run P w) : PSound P Inv f pTrunc := by
  intro args H r h g vs R hW hI hH ha hR
  unfold pTrunc at h
  split at h
  · rename_i b
    split at h
    · simp at h
    · rename_i d hd
      simp at h; subst h
      obtain ⟨u, rfl, h1⟩ := cs_one ha
      obtain rfl := h1.inv_val
      have hrun : (callFunc f [Value.float .f64 b].toArray).run P g.w = .ok (.value (.float .f64 (FloatKind.f64.encode ((FloatKind.f64.decode b).integral .zero)))) g.w := by
        rw [hC b]
        simp only [Sem.run_bind]
        have key : ∀ e, FloatKind.f64.decode b = e → (∀ s t, e ≠ .nan s t) → Extern.MathFloor.toIntegral "math.archTrunc" .zero [Value.float .f64 b].toArray = pure (.float .f64 (FloatKind.f64.encode (e.integral .zero))) := by
          intro e he hn
          unfold Extern.MathFloor.toIntegral
          show (match FloatKind.f64.decode b with
            | .nan s t => _
            | d => (pure (Value.float .f64 (FloatKind.f64.encode (d.integral .zero))) : Sem Value)) = _
          rw [he]
          cases e with
          | nan s t => exact (hn s t rfl).elim
          | number _ _ _ => rfl
          | infinity _ => rfl
        rw [key _ rfl (fun s t hx => hd s t hx)]
        rfl
      unfold Goes
      rw [hrun]
      exact hR g _ hH hW (Ext.refl g) (.val _)
  · simp at h

end Go.Evl.Zone

/- The table tells what the program's functions are: each compared by the kernel. -/
namespace Go.Evl.Zone
open Go Go.Evl
set_option maxRecDepth 100000

theorem ok3 : (env Proofs.Tryd.prog).code 3 = some c3 := by kernel_rfl
theorem ok4 : (env Proofs.Tryd.prog).code 4 = some c4 := by kernel_rfl
theorem ok5 : (env Proofs.Tryd.prog).code 5 = some c5 := by kernel_rfl
theorem ok6 : (env Proofs.Tryd.prog).code 6 = some c6 := by kernel_rfl
theorem ok7 : (env Proofs.Tryd.prog).code 7 = some c7 := by kernel_rfl
theorem ok8 : (env Proofs.Tryd.prog).code 8 = some c8 := by kernel_rfl
theorem ok9 : (env Proofs.Tryd.prog).code 9 = some c9 := by kernel_rfl
theorem ok10 : (env Proofs.Tryd.prog).code 10 = some c10 := by kernel_rfl
theorem ok11 : (env Proofs.Tryd.prog).code 11 = some c11 := by kernel_rfl
theorem ok12 : (env Proofs.Tryd.prog).code 12 = some c12 := by kernel_rfl
theorem ok13 : (env Proofs.Tryd.prog).code 13 = some c13 := by kernel_rfl
theorem ok14 : (env Proofs.Tryd.prog).code 14 = some c14 := by kernel_rfl
theorem ok15 : (env Proofs.Tryd.prog).code 15 = some c15 := by kernel_rfl
theorem ok16 : (env Proofs.Tryd.prog).code 16 = some c16 := by kernel_rfl
theorem ok17 : (env Proofs.Tryd.prog).code 17 = some c17 := by kernel_rfl
theorem ok18 : (env Proofs.Tryd.prog).code 18 = some c18 := by kernel_rfl
theorem ok19 : (env Proofs.Tryd.prog).code 19 = some c19 := by kernel_rfl
theorem ok20 : (env Proofs.Tryd.prog).code 20 = some c20 := by kernel_rfl
theorem ok21 : (env Proofs.Tryd.prog).code 21 = some c21 := by kernel_rfl
theorem ok22 : (env Proofs.Tryd.prog).code 22 = some c22 := by kernel_rfl
theorem ok23 : (env Proofs.Tryd.prog).code 23 = some c23 := by kernel_rfl
theorem ok24 : (env Proofs.Tryd.prog).code 24 = some c24 := by kernel_rfl
theorem ok25 : (env Proofs.Tryd.prog).code 25 = some c25 := by kernel_rfl
theorem ok26 : (env Proofs.Tryd.prog).code 26 = some c26 := by kernel_rfl
theorem ok27 : (env Proofs.Tryd.prog).code 27 = some c27 := by kernel_rfl
theorem ok28 : (env Proofs.Tryd.prog).code 28 = some c28 := by kernel_rfl
theorem ok29 : (env Proofs.Tryd.prog).code 29 = some c29 := by kernel_rfl
theorem ok30 : (env Proofs.Tryd.prog).code 30 = some c30 := by kernel_rfl
theorem ok31 : (env Proofs.Tryd.prog).code 31 = some c31 := by kernel_rfl
theorem ok32 : (env Proofs.Tryd.prog).code 32 = some c32 := by kernel_rfl
theorem ok33 : (env Proofs.Tryd.prog).code 33 = some c33 := by kernel_rfl
theorem ok34 : (env Proofs.Tryd.prog).code 34 = some c34 := by kernel_rfl
theorem ok35 : (env Proofs.Tryd.prog).code 35 = some c35 := by kernel_rfl
theorem ok36 : (env Proofs.Tryd.prog).code 36 = some c36 := by kernel_rfl
theorem ok38 : (env Proofs.Tryd.prog).code 38 = some c38 := by kernel_rfl
theorem ok39 : (env Proofs.Tryd.prog).code 39 = some c39 := by kernel_rfl
theorem ok40 : (env Proofs.Tryd.prog).code 40 = some c40 := by kernel_rfl
theorem ok41 : (env Proofs.Tryd.prog).code 41 = some c41 := by kernel_rfl
theorem ok43 : (env Proofs.Tryd.prog).code 43 = some c43 := by kernel_rfl
theorem ok44 : (env Proofs.Tryd.prog).code 44 = some c44 := by kernel_rfl
theorem ok45 : (env Proofs.Tryd.prog).code 45 = some c45 := by kernel_rfl
theorem ok46 : (env Proofs.Tryd.prog).code 46 = some c46 := by kernel_rfl
theorem ok47 : (env Proofs.Tryd.prog).code 47 = some c47 := by kernel_rfl
theorem ok49 : (env Proofs.Tryd.prog).code 49 = some c49 := by kernel_rfl
theorem ok55 : (env Proofs.Tryd.prog).code 55 = some c55 := by kernel_rfl

theorem tab_ok : TabOK (env Proofs.Tryd.prog) := by
  intro f cf h
  change tab f = some cf at h
  unfold tab at h
  split at h
  · simp only [Option.some.injEq] at h; subst h; exact ok3
  · simp only [Option.some.injEq] at h; subst h; exact ok4
  · simp only [Option.some.injEq] at h; subst h; exact ok5
  · simp only [Option.some.injEq] at h; subst h; exact ok6
  · simp only [Option.some.injEq] at h; subst h; exact ok7
  · simp only [Option.some.injEq] at h; subst h; exact ok8
  · simp only [Option.some.injEq] at h; subst h; exact ok9
  · simp only [Option.some.injEq] at h; subst h; exact ok10
  · simp only [Option.some.injEq] at h; subst h; exact ok11
  · simp only [Option.some.injEq] at h; subst h; exact ok12
  · simp only [Option.some.injEq] at h; subst h; exact ok13
  · simp only [Option.some.injEq] at h; subst h; exact ok14
  · simp only [Option.some.injEq] at h; subst h; exact ok15
  · simp only [Option.some.injEq] at h; subst h; exact ok16
  · simp only [Option.some.injEq] at h; subst h; exact ok17
  · simp only [Option.some.injEq] at h; subst h; exact ok18
  · simp only [Option.some.injEq] at h; subst h; exact ok19
  · simp only [Option.some.injEq] at h; subst h; exact ok20
  · simp only [Option.some.injEq] at h; subst h; exact ok21
  · simp only [Option.some.injEq] at h; subst h; exact ok22
  · simp only [Option.some.injEq] at h; subst h; exact ok23
  · simp only [Option.some.injEq] at h; subst h; exact ok24
  · simp only [Option.some.injEq] at h; subst h; exact ok25
  · simp only [Option.some.injEq] at h; subst h; exact ok26
  · simp only [Option.some.injEq] at h; subst h; exact ok27
  · simp only [Option.some.injEq] at h; subst h; exact ok28
  · simp only [Option.some.injEq] at h; subst h; exact ok29
  · simp only [Option.some.injEq] at h; subst h; exact ok30
  · simp only [Option.some.injEq] at h; subst h; exact ok31
  · simp only [Option.some.injEq] at h; subst h; exact ok32
  · simp only [Option.some.injEq] at h; subst h; exact ok33
  · simp only [Option.some.injEq] at h; subst h; exact ok34
  · simp only [Option.some.injEq] at h; subst h; exact ok35
  · simp only [Option.some.injEq] at h; subst h; exact ok36
  · simp only [Option.some.injEq] at h; subst h; exact ok38
  · simp only [Option.some.injEq] at h; subst h; exact ok39
  · simp only [Option.some.injEq] at h; subst h; exact ok40
  · simp only [Option.some.injEq] at h; subst h; exact ok41
  · simp only [Option.some.injEq] at h; subst h; exact ok43
  · simp only [Option.some.injEq] at h; subst h; exact ok44
  · simp only [Option.some.injEq] at h; subst h; exact ok45
  · simp only [Option.some.injEq] at h; subst h; exact ok46
  · simp only [Option.some.injEq] at h; subst h; exact ok47
  · simp only [Option.some.injEq] at h; subst h; exact ok49
  · simp only [Option.some.injEq] at h; subst h; exact ok55
  · simp at h

end Go.Evl.Zone

/- The zone statements: what they first ask of the program, reckoned by the kernel. -/
namespace Go.Evl.Zone
open Go Go.Evl
set_option maxRecDepth 100000

noncomputable def toldEnd : Option (Option (PV × List Nat)) := (ev (env Proofs.Tryd.prog) 200 12 c12.body ⟨start [], Heap.empty, []⟩).map fun q => (resV q.2 c12.res).bind (expV q.2.h)

theorem told_end : toldEnd = some (some (.val (.bool true), [])) := by kernel_rfl

theorem told_ans : ans (env Proofs.Tryd.prog) 12 [] = some (.val (.bool true)) := by
  have h := told_end
  unfold toldEnd at h
  simp only [Option.map_eq_some_iff] at h
  obtain ⟨⟨e, st⟩, h1, h2⟩ := h
  exact ans_of ⟨c12, rfl, rfl, 200, e, st, [], h1, h2⟩

end Go.Evl.Zone

/- ZoneDiscs: its function answers true. -/
namespace Go.Evl.Zone
open Go Go.Evl Go.Evl.Fl
set_option linter.unusedSimpArgs false
set_option linter.unusedVariables false
attribute [local simp] VB_ite VG_ite
variable {P : Program}

theorem un_cneg {a b : Nat} : scal P (Op.unary .neg (.complex .f64 a b)) = some (.val (.complex .f64 (Op.negFloat .f64 a) (Op.negFloat .f64 b))) := rfl
theorem evBin_bneq {t : TypeId} {cx cy : Bool} {a b : Bool} (h : P.underlying t = some .bool) : evBin P .neq t cx cy (.val (.bool a)) (.val (.bool b)) = some (.val (.bool (a != b))) := by
  simp only [evBin, toV, scal, pureRun_bind]
  have h1 : pureRun P (eqGuard .neq t (if cx then .const (.bool a) else .tmp 0) (if cy then .const (.bool b) else .tmp 0) (.bool a) (.bool b)) = some () := by
    unfold eqGuard
    cases cx <;> cases cy <;> rfl
  rw [h1]
  simp only [Option.bind_some]
  simp only [binOp, pureRun_bind]
  have h2 : pureRun P (Op.equal t (.bool a) (.bool b)) = some (a == b) := by
    unfold Op.equal
    rw [show Op.maxDepth = (Op.maxDepth - 1) + 1 from rfl, Op.equalIn]
    simp only [pureRun_bind, pureRun_under, h, Option.bind_some]
    rfl
  rw [h2]
  simp only [Option.bind_some]
  rfl

theorem evBin_beql {t : TypeId} {cx cy : Bool} {a b : Bool} (h : P.underlying t = some .bool) : evBin P .eql t cx cy (.val (.bool a)) (.val (.bool b)) = some (.val (.bool (a == b))) := by
  simp only [evBin, toV, scal, pureRun_bind]
  have h1 : pureRun P (eqGuard .eql t (if cx then .const (.bool a) else .tmp 0) (if cy then .const (.bool b) else .tmp 0) (.bool a) (.bool b)) = some () := by
    unfold eqGuard
    cases cx <;> cases cy <;> rfl
  rw [h1]
  simp only [Option.bind_some]
  simp only [binOp, pureRun_bind]
  have h2 : pureRun P (Op.equal t (.bool a) (.bool b)) = some (a == b) := by
    unfold Op.equal
    rw [show Op.maxDepth = (Op.maxDepth - 1) + 1 from rfl, Op.equalIn]
    simp only [pureRun_bind, pureRun_under, h, Option.bind_some]
    rfl
  rw [h2]
  simp only [Option.bind_some]
  rfl

/-- A zone of one step that takes nothing. -/
theorem has_one {op x y s px py : Int} {re im sz : Nat} {a b : Nat} (hop : op = 2 ∨ op = 3) (hr : rightB op x y s = true) (h1 : Is re x) (h2 : Is im y) (h3 : Is sz s) (ha : Is a px) (hb : Is b py) (n3 : near px = true) (n4 : near py = true) :
    ans (env P) 15 [.im [[.val (.int .i64 op), .val (.complex .f64 re im), .val (.float .f64 sz)]] false, .val (.complex .f64 a b)] = some (.val (.bool (truthB op x y s px py []))) := by
  have h := zoneHas_ans (P := P) (l := [⟨op, x, y, s, re, im, sz⟩]) (by simp [SI.ok, h1, h2, h3]) ha hb
  have hn : needsN op = 0 := by unfold needsN; rcases hop with rfl | rfl <;> rfl
  have hz : zoneHas [⟨op, x, y, s, re, im, sz⟩] px py = truthB op x y s px py [] := by
    simp [zoneHas, zoneRight, foldR, SI.right, hr, hn, n3, n4, runT, stepT, SI.truth]
  rw [hz] at h
  exact h

set_option maxRecDepth 10000 in
set_option maxHeartbeats 4000000 in
theorem zoneDiscs_ans (T : Typed P) (T4 : P.underlying 4 = some .bool) (told : ans (env P) 12 [] = some (.val (.bool true))) {ax ay px py size : Int} : ans (env P) 7 [placeV ax ay, placeV px py, .val (.int .i64 size)] = some (.val (.bool true)) := by
  have e3 : ∀ n : Int, scal P (Go.convert 3 53 (.int .i64 n)) = some (.val (.int .u64 (n % 18446744073709551616))) := fun n => by
    rw [cv_ii (k := .u64) (by rw [T.t3]; rfl) T.t53, wrapU64]
  have e4 : ∀ n : Int, scal P (Go.convert 53 3 (.int .u64 (n % 18446744073709551616 % 2001))) = some (.val (.int .i64 (n % 18446744073709551616 % 2001))) := fun n => by
    rw [cv_ii (k := .i64) (by rw [T.t53]; rfl) T.t3, wrap64_id (by omega)]
  have e5 : ∀ n : Int, (n % 18446744073709551616).tmod 2001 = n % 18446744073709551616 % 2001 := fun n => tmod_pos (by omega) (by omega)
  have e6 : ∀ n : Int, scal P (Go.convert 3 41 (.int .i64 n)) = some (.val (.float .f64 (FloatKind.f64.nearest n))) := fun n => cv_if (by rw [T.t3]; rfl) T.t41
  have s1 : ∀ x y : Int, ans (env P) 11 [.agg [.val (.int .i64 x), .val (.int .i64 y)]] = some (.agg [.val (.int .i64 (spotN x)), .val (.int .i64 (spotN y))]) := fun x y => refSpot_ans T
  have s2 : ∀ x y : Int, ans (env P) 16 [.agg [.val (.int .i64 x), .val (.int .i64 y)]] = some (.val (.complex .f64 (FloatKind.f64.nearest x) (FloatKind.f64.nearest y))) := fun x y => spot_ans T
  have nA := spotN_near ax
  have nB := spotN_near ay
  have nX := spotN_near px
  have nY := spotN_near py
  generalize hA : spotN ax = A at *
  generalize hB : spotN ay = B at *
  generalize hX : spotN px = X at *
  generalize hY : spotN py = Y at *
  have hn : 0 ≤ size % 18446744073709551616 % 2001 ∧ size % 18446744073709551616 % 2001 ≤ 2000 := by omega
  have e7 := e4 size
  generalize hsz : size % 18446744073709551616 % 2001 = n at *
  have nA' := nA; have nB' := nB; have nX' := nX; have nY' := nY
  simp only [near, Bool.and_eq_true, decide_eq_true_eq] at nA' nB' nX' nY'
  have iA : Is (FloatKind.f64.nearest A) A := Is.nearest (abs_lt53 (by omega))
  have iB : Is (FloatKind.f64.nearest B) B := Is.nearest (abs_lt53 (by omega))
  have iX : Is (FloatKind.f64.nearest X) X := Is.nearest (abs_lt53 (by omega))
  have iY : Is (FloatKind.f64.nearest Y) Y := Is.nearest (abs_lt53 (by omega))
  have iN : Is (FloatKind.f64.nearest n) n := Is.nearest (abs_lt53 (by omega))
  have iM : Is (FloatKind.f64.nearest (-n)) (-n) := Is.nearest (abs_lt53 (by omega))
  have r1 : rightB 2 A B n = true := by simp [rightB, nA, nB, hn]
  have r2 : rightB 3 A B n = true := by simp [rightB, nA, nB]; omega
  have r3 : rightB 3 (-A) (-B) (-n) = true := by simp [rightB, near]; omega
  have hd := has_one (P := P) (.inl rfl) r1 iA iB iN iX iY nX nY
  have hh := has_one (P := P) (.inr rfl) r2 iA iB iN iX iY nX nY
  have ho := has_one (P := P) (.inr rfl) r3 iA.neg iB.neg iM iX iY nX nY
  have m1 := mul_le (a := A) (b := X) (by unfold sm; omega) (by unfold sm; omega)
  have m2 := mul_le (a := B) (b := Y) (by unfold sm; omega) (by unfold sm; omega)
  have m3 := mul_le (a := X - A) (b := X - A) (by unfold sm; omega) (by unfold sm; omega)
  have m4 := mul_le (a := Y - B) (b := Y - B) (by unfold sm; omega) (by unfold sm; omega)
  have m5 := mul_le (a := n) (b := n) (by unfold sm; omega) (by unfold sm; omega)
  have w1 : IntKind.i64.wrap (A * X) = A * X := wrap64_id (by omega)
  have w2 : IntKind.i64.wrap (B * Y) = B * Y := wrap64_id (by omega)
  have w3 : IntKind.i64.wrap (A * X + B * Y) = A * X + B * Y := wrap64_id (by omega)
  have w4 : IntKind.i64.wrap (X - A) = X - A := wrap64_id (by omega)
  have w5 : IntKind.i64.wrap (Y - B) = Y - B := wrap64_id (by omega)
  have w6 : IntKind.i64.wrap ((X - A) * (X - A)) = (X - A) * (X - A) := wrap64_id (by omega)
  have w7 : IntKind.i64.wrap ((Y - B) * (Y - B)) = (Y - B) * (Y - B) := wrap64_id (by omega)
  have w8 : IntKind.i64.wrap ((X - A) * (X - A) + (Y - B) * (Y - B)) = (X - A) * (X - A) + (Y - B) * (Y - B) := wrap64_id (by omega)
  have w9 : IntKind.i64.wrap (n * n) = n * n := wrap64_id (by omega)
  have w10 : IntKind.i64.wrap (-n) = -n := wrap64_id (by omega)
  have t1 : truthB 2 A B n X Y [] = decide ((X - A) * (X - A) + (Y - B) * (Y - B) ≤ n * n) := rfl
  have t2 : truthB 3 A B n X Y [] = decide (n ≤ A * X + B * Y) := by rw [Int.mul_comm A X, Int.mul_comm B Y]; rfl
  have t3 : truthB 3 (-A) (-B) (-n) X Y [] = decide (A * X + B * Y ≤ n) := by
    show decide (-n ≤ X * (-A) + Y * (-B)) = _
    rw [Int.mul_neg, Int.mul_neg, Int.mul_comm X A, Int.mul_comm Y B]
    exact decide_eq_decide.2 (by omega)
  rw [t1] at hd; rw [t2] at hh; rw [t3] at ho
  refine ans_V rfl rfl ?_
  by_cases c1 : n ≤ A * X + B * Y <;> by_cases c2 : A * X + B * Y ≤ n <;> by_cases c3 : (X - A) * (X - A) + (Y - B) * (Y - B) ≤ n * n <;>
    simp [c7, placeV, e3, e7, e5, e6, s1, s2, hA, hB, hX, hY, hsz, told, un_cneg, hd, hh, ho, w1, w2, w3, w4, w5, w6, w7, w8, w9, w10, evBin_bneq T4, evBin_beql T4, chunks, c1, c2, c3]
  all_goals (clear hd hh ho; omega)

end Go.Evl.Zone

/- The zone statements: zones as the program has them. -/
namespace Go.Evl.Zone
open Go Go.Evl Go.Evl.Fl
set_option linter.unusedSimpArgs false
set_option linter.unusedVariables false
attribute [local simp] VB_ite VG_ite
variable {P : Program}

/-- A step as the document has it. -/
structure RS where
  op : Int
  x : Int
  y : Int
  s : Int
  deriving DecidableEq

def RS.cells (q : RS) : List PV := [.val (.int .i64 q.op), .val (.int .i64 q.x), .val (.int .i64 q.y), .val (.int .i64 q.s)]
def rsV (l : List RS) : List (List PV) := l.map RS.cells
noncomputable def RS.si (q : RS) : SI := ⟨q.op, q.x, q.y, q.s, FloatKind.f64.nearest q.x, FloatKind.f64.nearest q.y, FloatKind.f64.nearest q.s⟩
noncomputable def toSI (l : List RS) : List SI := l.map RS.si

@[simp] theorem rsV_length (l : List RS) : (rsV l).length = l.length := by simp [rsV]
@[simp] theorem rsV_len : ∀ (l : List RS), allLen 4 (rsV l) = true
  | [] => rfl
  | q :: l => by simp only [rsV, List.map_cons, allLen, RS.cells]; rw [show (List.map RS.cells l) = rsV l from rfl, rsV_len l]; rfl
theorem rsV_at {l : List RS} {i : Nat} {q : RS} (h : l[i]? = some q) (h' : i < (rsV l).length) : (rsV l)[i] = q.cells := by
  have : l[i]? = some q := h
  simp only [rsV, List.getElem_map]
  rw [(List.getElem?_eq_some_iff.1 h).2]

theorem plain_rs (q : RS) : plains q.cells = some q.cells := rfl
theorem plainss_rs (l : List RS) : plainss (rsV l) = some (rsV l) := plainss_ok (by intro y hy; simp [rsV] at hy; obtain ⟨q, _, rfl⟩ := hy; rfl)
theorem plainss_si (l : List SI) : plainss (stepsV l) = some (stepsV l) := plainss_ok (by intro y hy; simp [stepsV] at hy; obtain ⟨q, _, rfl⟩ := hy; rfl)

theorem drop_cons {α : Type} {l : List α} {i : Nat} {q : α} {rest : List α} (h : l.drop i = q :: rest) : l[i]? = some q ∧ i < l.length ∧ l.drop (i + 1) = rest ∧ l.take (i + 1) = l.take i ++ [q] := by
  have hq : l[i]? = some q := by
    have : (l.drop i)[0]? = some q := by rw [h]; rfl
    simpa using this
  have hlt := (List.getElem?_eq_some_iff.1 hq).1
  refine ⟨hq, hlt, by rw [← List.drop_drop, h]; rfl, ?_⟩
  rw [List.take_add_one, hq]; rfl

theorem drop_nil {α : Type} {l : List α} {i : Nat} (h : l.drop i = []) (hi : i ≤ l.length) : i = l.length ∧ ¬ i < l.length ∧ l.take i = l := by
  have := congrArg List.length h
  simp at this
  have e : i = l.length := by omega
  exact ⟨e, by omega, by rw [e]; exact List.take_length⟩

theorem wrapS {i : Nat} (h : i < 9223372036854775807) : IntKind.i64.wrap ((i : Int) + 1) = ((i + 1 : Nat) : Int) := by rw [wrap64_id (by omega)]; rfl

theorem loop13 (T : Typed P) {L : List RS} {ks : List Fr'} {K : Ex → St → Prop} (hL : L.length ≤ most) : ∀ (rest : List RS) (i : Nat) (st : St) (v : PV), L.drop i = rest → i ≤ L.length → st.σ 0 = .im (rsV L) false → st.σ 4 = .val (.int .i64 i) → st.σ 3 = v → Lst st.h 3 v (stepsV (toSI (L.take i))) →
    (∀ st' v, st'.σ 3 = v → Lst st'.h 3 v (stepsV (toSI L)) → VN (env P) 13 st' ks K) → V (env P) 13 (.loop L13_0) st (.blk 0 :: ks) K
  | [], i, st, v, hr, hi, h0, h4, h3, hl, hend => by
    obtain ⟨_, hlt, ht⟩ := drop_nil hr hi
    rw [ht] at hl
    rw [V_loop]
    simp [L13_0, h0, h4, hlt]
    exact hend _ v (by simp [h3]) (by simpa using hl.grow)
  | q :: rest, i, st, v, hr, hi, h0, h4, h3, hl, hend => by
    obtain ⟨hq, hlt, hr', ht⟩ := drop_cons hr
    have hc := fun h => rsV_at hq h
    have e6 : ∀ n : Int, scal P (Go.convert 3 41 (.int .i64 n)) = some (.val (.float .f64 (FloatKind.f64.nearest n))) := fun n => cv_if (by rw [T.t3]; rfl) T.t41
    have s2 : ∀ x y : Int, ans (env P) 16 [.agg [.val (.int .i64 x), .val (.int .i64 y)]] = some (.val (.complex .f64 (FloatKind.f64.nearest x) (FloatKind.f64.nearest y))) := fun x y => spot_ans T
    have hw3 := wrapS (i := i) (by unfold most at hL; omega)
    rw [V_loop]
    simp [L13_0, h0, h4, h3, hlt, hc, RS.cells, s2, e6, chunks, elems, allLen]
    obtain ⟨v', H', wr, rd, e1, e2, e3, _⟩ := (hl.grow (m := 1)).app (slot := st.h.n) (zs := [q.si.cells]) (by simp) (by simp) rfl (by simp [toSI]; omega)
    simp only [RS.si, SI.cells] at e1
    simp [e1, hw3, e3, h0, h4]
    refine loop13 T hL rest (i + 1) _ v' hr' (by omega) ?_ ?_ ?_ ?_ hend
    · simp [h0]
    · simp
    · simp
    · rw [ht, show stepsV (toSI (L.take i ++ [q])) = stepsV (toSI (L.take i)) ++ [q.si.cells] by simp [stepsV, toSI]]
      exact e2.grow

theorem to_ans (T : Typed P) {l : List RS} (hl : l.length ≤ most) : ans (env P) 13 [.im (rsV l) false] = some (.im (stepsV (toSI l)) false) := by
  refine ans_V rfl rfl ?_
  simp [c13]
  refine loop13 T hl l 0 _ _ rfl (by omega) (by simp) (by simp) rfl ?_ ?_
  · simp; exact Lst.nil
  · intro st' v h3 hl'
    simp [h3]
    obtain ⟨is, hi⟩ := (hl'.grow (m := 0)).expV (plainss_si _)
    exact ⟨is, by simpa using hi⟩

end Go.Evl.Zone

/- The zone statements: the document's zones: which may be; the same; back from the program's. -/
namespace Go.Evl.Zone
open Go Go.Evl Go.Evl.Fl
set_option linter.unusedSimpArgs false
set_option linter.unusedVariables false
attribute [local simp] VB_ite VG_ite
variable {P : Program}

theorem near_ans {x n : Int} (hn : -9223372036854775807 ≤ n ∧ n ≤ 9223372036854775807) : ans (env P) 35 [.val (.int .i64 x), .val (.int .i64 n)] = some (.val (.bool (decide (-n ≤ x) && decide (x ≤ n)))) := by
  refine ans_V rfl rfl ?_
  have hw : IntKind.i64.wrap (-n) = -n := wrap64_id (by omega)
  by_cases h : -n ≤ x <;> simp [c35, hw, h]

theorem refWhole_ans {x y : Int} : ans (env P) 19 [.agg [.val (.int .i64 x), .val (.int .i64 y)]] = some (.val (.bool (near x && near y))) := by
  refine ans_V rfl rfl ?_
  have h1 : ans (env P) 35 [.val (.int .i64 x), .val (.int .i64 1000)] = some (.val (.bool (near x))) := near_ans (by omega)
  have h2 : ans (env P) 35 [.val (.int .i64 y), .val (.int .i64 1000)] = some (.val (.bool (near y))) := near_ans (by omega)
  cases hx : near x <;> simp [c19, h1, h2, hx]

theorem place_ans (T : Typed P) (T33 : P.underlying 33 = some (.complex .f64)) {a b : Nat} {x y : Int} (ha : Is a x) (hb : Is b y) (hx : -9223372036854775808 ≤ x ∧ x ≤ 9223372036854775807) (hy : -9223372036854775808 ≤ y ∧ y ≤ 9223372036854775807) :
    ans (env P) 36 [.val (.complex .f64 a b)] = some (placeV x y) := by
  refine ans_V rfl rfl ?_
  have c1 : scal P (Go.convert 41 3 (.float .f64 a)) = some (.val (.int .i64 x)) := cv_fi (by rw [T.t41]; rfl) T.t3 ha.toInt hx
  have c2 : scal P (Go.convert 41 3 (.float .f64 b)) = some (.val (.int .i64 y)) := cv_fi (by rw [T.t41]; rfl) T.t3 hb.toInt hy
  simp [c36, c1, c2, placeV]

theorem loop21 (T : Typed P) (T33 : P.underlying 33 = some (.complex .f64)) {L : List SI} (hok : ∀ q ∈ L, q.ok) (hin : ∀ q ∈ L, ∀ z ∈ [q.x, q.y, q.s], -9223372036854775808 ≤ z ∧ z ≤ 9223372036854775807) {ks : List Fr'} {K : Ex → St → Prop} (hL : L.length ≤ most) :
    ∀ (rest : List SI) (i : Nat) (st : St) (v : PV), L.drop i = rest → i ≤ L.length → st.σ 0 = .im (stepsV L) false → st.σ 4 = .val (.int .i64 i) → st.σ 3 = v → Lst st.h 4 v (rsV ((L.take i).map fun q => ⟨q.op, q.x, q.y, q.s⟩)) →
    (∀ st' v, st'.σ 3 = v → Lst st'.h 4 v (rsV (L.map fun q => ⟨q.op, q.x, q.y, q.s⟩)) → VN (env P) 21 st' ks K) → V (env P) 21 (.loop L21_0) st (.blk 0 :: ks) K
  | [], i, st, v, hr, hi, h0, h4, h3, hl, hend => by
    obtain ⟨_, hlt, ht⟩ := drop_nil hr hi
    rw [ht] at hl
    rw [V_loop]
    simp [L21_0, h0, h4, hlt]
    exact hend _ v (by simp [h3]) (by simpa using hl.grow)
  | q :: rest, i, st, v, hr, hi, h0, h4, h3, hl, hend => by
    obtain ⟨hq, hlt, hr', ht⟩ := drop_cons hr
    have hc : ∀ h, (stepsV L)[i]'h = q.cells := fun h => (List.getElem?_eq_some_iff.1 (stepsV_get hq)).2
    obtain ⟨q1, q2, q3⟩ := hok q (List.mem_of_getElem? hq)
    have hz := hin q (List.mem_of_getElem? hq)
    have c1 : scal P (Go.convert 41 3 (.float .f64 q.sz)) = some (.val (.int .i64 q.s)) := cv_fi (by rw [T.t41]; rfl) T.t3 q3.toInt (hz q.s (by simp))
    have s2 := place_ans (P := P) T T33 q1 q2 (hz q.x (by simp)) (hz q.y (by simp))
    rw [placeV] at s2
    have hw3 := wrapS (i := i) (by unfold most at hL; omega)
    rw [V_loop]
    simp [L21_0, h0, h4, h3, hlt, hc, SI.cells, s2, c1, chunks, elems, allLen]
    refine VP_app (ys := rsV ((L.take i).map fun q => ⟨q.op, q.x, q.y, q.s⟩)) (by repeat (first | exact hl | refine Lst.grow ?_ | refine Lst.putN ?_ (by simp))) (by simp) (by simp) rfl (by simp; omega) fun v' H' wr rd e2 e3 _ => ?_
    simp [h0, h4, hw3, e3]
    refine loop21 T T33 hok hin hL rest (i + 1) _ v' hr' (by omega) ?_ ?_ ?_ ?_ hend
    · simp [h0]
    · simp
    · simp
    · rw [ht, show ∀ A B : List SI, rsV ((A ++ B).map fun q => (⟨q.op, q.x, q.y, q.s⟩ : RS)) = rsV (A.map fun q => ⟨q.op, q.x, q.y, q.s⟩) ++ rsV (B.map fun q => ⟨q.op, q.x, q.y, q.s⟩) from fun A B => by simp [rsV]]
      exact e2.grow

theorem from_ans (T : Typed P) (T33 : P.underlying 33 = some (.complex .f64)) {l : List SI} (hok : ∀ q ∈ l, q.ok) (hin : ∀ q ∈ l, ∀ z ∈ [q.x, q.y, q.s], -9223372036854775808 ≤ z ∧ z ≤ 9223372036854775807) (hl : l.length ≤ most) : ans (env P) 21 [.im (stepsV l) false] = some (.im (rsV (l.map fun q => ⟨q.op, q.x, q.y, q.s⟩)) false) := by
  refine ans_V rfl rfl ?_
  simp [c21]
  refine loop21 T T33 hok hin hl l 0 _ _ rfl (by omega) (by simp) (by simp) rfl ?_ ?_
  · simp; exact Lst.nil
  · intro st' v h3 hl'
    simp [h3]
    exact (hl'.grow (m := 0)).expV (plainss_rs _)

/-- What the program's types are, as far as the zones' functions ask. -/
structure Typed2 (P : Program) : Prop extends Typed P where
  t33 : P.underlying 33 = some (.complex .f64)
  t59 : ∃ fs : Array Field, P.underlying 59 = some (.struct fs) ∧ fs.toList.map (fun f => (f.type, f.offset)) = [(3, 0), (3, 1), (3, 2), (3, 3)] ∧ (fs.toList.all fun f => f.name != "_") = true
  h59 : P.stoodInHeld 59 = false
  g59 : P.eqGuardType P.depth 59 = false

theorem fields4 {fs : List Field} {a b c d : TypeId × Nat} (h : fs.map (fun f => (f.type, f.offset)) = [a, b, c, d]) (hn : (fs.all fun f => f.name != "_") = true) : ∃ f0 f1 f2 f3 : Field, fs = [f0, f1, f2, f3] ∧ ((f0.type, f0.offset) = a ∧ (f0.name == "_") = false) ∧ ((f1.type, f1.offset) = b ∧ (f1.name == "_") = false) ∧ ((f2.type, f2.offset) = c ∧ (f2.name == "_") = false) ∧ ((f3.type, f3.offset) = d ∧ (f3.name == "_") = false) := by
  match fs, h, hn with
  | [f0, f1, f2, f3], h, hn =>
    simp only [List.map_cons, List.map_nil, List.cons.injEq, and_true] at h
    simp only [List.all_cons, List.all_nil, Bool.and_true, Bool.and_eq_true, bne, Bool.not_eq_true'] at hn
    exact ⟨f0, f1, f2, f3, rfl, ⟨h.1, hn.1⟩, ⟨h.2.1, hn.2.1⟩, ⟨h.2.2.1, hn.2.2.1⟩, ⟨h.2.2.2, hn.2.2.2⟩⟩

theorem rs_neq (T : Typed2 P) {cx cy : Bool} (a b : RS) : evBin P .neq 59 cx cy (.agg a.cells) (.agg b.cells) = some (.val (.bool (decide (a ≠ b)))) := by
  obtain ⟨fs, ht, hf, hn⟩ := T.t59
  obtain ⟨f0, f1, f2, f3, hfs, ⟨e0, n0⟩, ⟨e1, n1⟩, ⟨e2, n2⟩, ⟨e3, n3⟩⟩ := fields4 hf hn
  simp only [Prod.mk.injEq] at e0 e1 e2 e3
  have hT := T.t3
  have h3 : ∀ {cs : Array Value} {o : Nat} {v : Value}, cs[o]? = some v → pureRun P (part 3 cs o) = some v := fun hx => pureRun_part hT rfl hx
  have key : pureRun P (Op.eqFields 9999 #[.int .i64 a.op, .int .i64 a.x, .int .i64 a.y, .int .i64 a.s] #[.int .i64 b.op, .int .i64 b.x, .int .i64 b.y, .int .i64 b.s] fs.toList) = some ((a.op == b.op) && ((a.x == b.x) && ((a.y == b.y) && ((a.s == b.s) && true)))) := by
    rw [hfs]
    refine pureRun_eqCons n0 (by rw [e0.1, e0.2]; exact h3 rfl) (by rw [e0.1, e0.2]; exact h3 rfl) (by rw [e0.1]; exact pureRun_equal_int hT) ?_
    refine pureRun_eqCons n1 (by rw [e1.1, e1.2]; exact h3 rfl) (by rw [e1.1, e1.2]; exact h3 rfl) (by rw [e1.1]; exact pureRun_equal_int hT) ?_
    refine pureRun_eqCons n2 (by rw [e2.1, e2.2]; exact h3 rfl) (by rw [e2.1, e2.2]; exact h3 rfl) (by rw [e2.1]; exact pureRun_equal_int hT) ?_
    exact pureRun_eqCons n3 (by rw [e3.1, e3.2]; exact h3 rfl) (by rw [e3.1, e3.2]; exact h3 rfl) (by rw [e3.1]; exact pureRun_equal_int hT) pureRun_eqNil
  rw [(evBin_struct_eql (vs := [.int .i64 a.op, .int .i64 a.x, .int .i64 a.y, .int .i64 a.s]) (us := [.int .i64 b.op, .int .i64 b.x, .int .i64 b.y, .int .i64 b.s]) ht T.h59 T.g59 rfl rfl key).2]
  congr 3
  obtain ⟨a1, a2, a3, a4⟩ := a
  obtain ⟨b1, b2, b3, b4⟩ := b
  rw [Bool.eq_iff_iff]
  simp

theorem loop20 (T : Typed2 P) {L M : List RS} {ks : List Fr'} {K : Ex → St → Prop} (hlen : L.length = M.length) (hL : L.length ≤ most) : ∀ (rest : List RS) (i : Nat) (st : St), L.drop i = rest → i ≤ L.length → L.take i = M.take i → st.σ 0 = .im (rsV L) false → st.σ 1 = .im (rsV M) false → st.σ 5 = .val (.int .i64 i) →
    (∀ st', L ≠ M → st'.σ 4 = .val (.bool false) → K .ret st') → (∀ st', L = M → VN (env P) 20 st' ks K) → V (env P) 20 (.loop L20_0) st (.blk 0 :: ks) K
  | [], i, st, hr, hi, hp, h0, h1, h5, hret, hend => by
    obtain ⟨he, hlt, ht⟩ := drop_nil hr hi
    rw [V_loop]
    simp [L20_0, h0, h5, hlt]
    refine hend _ ?_
    rw [ht, he, hlen, List.take_length] at hp
    exact hp
  | q :: rest, i, st, hr, hi, hp, h0, h1, h5, hret, hend => by
    obtain ⟨hq, hlt, hr', ht⟩ := drop_cons hr
    have hc := fun h => rsV_at hq h
    have hm : M[i]? = some (M[i]'(by omega)) := List.getElem?_eq_getElem (by omega)
    generalize M[i]'(by omega) = m at hm
    have hd := fun h => rsV_at hm h
    have hltM : i < M.length := by omega
    have hn := rs_neq T (cx := false) (cy := false) q m
    have hw3 := wrapS (i := i) (by unfold most at hL; omega)
    rw [V_loop]
    by_cases hqm : q = m
    · subst hqm
      simp [L20_0, h0, h1, h5, hlt, hltM, hc, hd, hn, hw3, RS.cells]
      simp [RS.cells] at hn
      simp [hn, hw3, h5]
      refine loop20 T hlen hL rest (i + 1) _ hr' (by omega) ?_ ?_ ?_ ?_ hret hend
      · rw [ht, List.take_add_one, hm, hp]; rfl
      · simp [h0]
      · simp [h1]
      · simp
    · simp [L20_0, h0, h1, h5, hlt, hltM, hc, hd, hn, hw3, hqm, RS.cells]
      simp [RS.cells, hqm] at hn
      simp [hn, hqm]
      refine hret _ ?_ (by simp)
      intro e
      rw [e] at hq
      rw [hq] at hm
      exact hqm (Option.some.inj hm)

theorem refSame_ans (T : Typed2 P) {l m : List RS} (hl : l.length ≤ most) : ans (env P) 20 [.im (rsV l) false, .im (rsV m) false] = some (.val (.bool (decide (l = m)))) := by
  refine ans_V rfl rfl ?_
  by_cases hlen : l.length = m.length
  · have hlen' : (l.length : Int) = (m.length : Int) := by omega
    simp [c20, hlen']
    refine loop20 T hlen hl l 0 _ rfl (by omega) rfl (by simp) (by simp) (by simp) ?_ ?_
    · intro st' hne h4; simp [h4, hne]
    · intro st' he; simp [he]
  · have hlen' : ¬ (l.length : Int) = (m.length : Int) := by omega
    have hne : l ≠ m := fun e => hlen (by rw [e])
    simp [c20, hlen', hne]

end Go.Evl.Zone

/- The zone statements: a zone that may be, out of any steps. -/
namespace Go.Evl.Zone
open Go Go.Evl Go.Evl.Fl
set_option linter.unusedSimpArgs false
set_option linter.unusedVariables false
attribute [local simp] VB_ite VG_ite
variable {P : Program}

def u64 (n : Int) : Int := n % 18446744073709551616

def fixOp (q : RS) (n : Int) : Int := if (1 + u64 q.op % 6 = 4 ∧ n < 1) ∨ (4 < 1 + u64 q.op % 6 ∧ n < 2) then 2 else 1 + u64 q.op % 6

def fixStep (q : RS) (n : Int) : RS :=
  if fixOp q n = 2 then ⟨2, spotN q.x, spotN q.y, u64 q.s % 2001⟩
  else if fixOp q n = 3 then ⟨3, spotN q.x, spotN q.y, u64 q.s % 4000001 - 2000000⟩
  else ⟨fixOp q n, 0, 0, 0⟩

def fixN (q : RS) (n : Int) : Int := if fixOp q n ≤ 3 then n + 1 else if 4 < fixOp q n then n - 1 else n

/-- The steps, and how many truths stand behind them. -/
def fixL : List RS → Int → List RS × Int
  | [], n => ([], n)
  | q :: l, n => (fixStep q n :: (fixL l (fixN q n)).1, (fixL l (fixN q n)).2)

def fix (l : List RS) : List RS := if (fixL (l.take 12) 0).2 = 0 then [⟨1, 0, 0, 0⟩] else (fixL (l.take 12) 0).1 ++ List.replicate ((fixL (l.take 12) 0).2 - 1).toNat ⟨6, 0, 0, 0⟩

theorem fixOp_le (q : RS) (n : Int) : 1 ≤ fixOp q n ∧ fixOp q n ≤ 6 := by
  unfold fixOp u64
  split <;> omega

theorem fixN_le {q : RS} {n : Int} (hn : 0 ≤ n) : 0 ≤ fixN q n ∧ fixN q n ≤ n + 1 := by
  have h1 := fixOp_le q n
  unfold fixN
  split
  · omega
  · split
    · rename_i h
      have : ¬ n < 2 := fun q2 => by
        unfold fixOp at h
        split at h
        · omega
        · rename_i h3; exact h3 (.inr ⟨by omega, q2⟩)
      omega
    · omega

theorem fixL_length : ∀ (l : List RS) (n : Int), (fixL l n).1.length = l.length
  | [], n => rfl
  | q :: l, n => by simp [fixL, fixL_length l]

theorem fixL_n : ∀ (l : List RS) (n : Int), 0 ≤ n → 0 ≤ (fixL l n).2 ∧ (fixL l n).2 ≤ n + l.length
  | [], n, h => by simp [fixL]; omega
  | q :: l, n, h => by
    have h1 := fixN_le (q := q) h
    have h2 := fixL_n l (fixN q n) h1.1
    simp only [fixL, List.length_cons]
    omega

theorem take_cons {α : Type} {l : List α} {i : Nat} {q : α} {rest : List α} (h : l.drop i = q :: rest) (hi : i < 12) : (l.take 12).drop i = q :: (l.take 12).drop (i + 1) := by
  have hq := (drop_cons h).1
  rw [List.drop_eq_getElem_cons (by simp; have := (drop_cons h).2.1; omega)]
  congr 1
  rw [List.getElem_take]
  exact (List.getElem?_eq_some_iff.1 hq).2

set_option maxRecDepth 20000 in
set_option maxHeartbeats 4000000 in
theorem loop10 (T : Typed P) {L : List RS} {ks : List Fr'} {K : Ex → St → Prop} : ∀ (m i : Nat) (n : Int) (st : St) (v : PV) (ys : List RS), i + m = 12 → 0 ≤ n ∧ n ≤ i → ys.length ≤ i → i ≤ L.length → st.σ 0 = .im (rsV L) false → st.σ 5 = .val (.int .i64 i) → st.σ 4 = .val (.int .i64 n) → st.σ 3 = v → Lst st.h 4 v (rsV ys) →
    (∀ st' v n' zs, st'.σ 3 = v → st'.σ 4 = .val (.int .i64 n') → (zs, n') = fixL ((L.take 12).drop i) n → Lst st'.h 4 v (rsV (ys ++ zs)) → VN (env P) 10 st' ks K) → V (env P) 10 (.loop L10_0) st (.blk 0 :: ks) K := by
  intro m
  induction m with
  | zero =>
    intro i n st v ys hm hn hys hi h0 h5 h4 h3 hl hend
    have hi12 : i = 12 := by omega
    subst hi12
    rw [V_loop]
    by_cases hlt : (12 : Int) < (L.length : Int)
    · simp [L10_0, h0, h5, hlt]
      refine hend _ v n [] (by simp [h3]) (by simp [h4]) ?_ (by simpa using hl.grow)
      rw [List.drop_eq_nil_of_le (by simp; omega)]; rfl
    · simp [L10_0, h0, h5, hlt]
      refine hend _ v n [] (by simp [h3]) (by simp [h4]) ?_ (by simpa using hl.grow)
      rw [List.drop_eq_nil_of_le (by simp; omega)]; rfl
  | succ m ih =>
    intro i n st v ys hm hn hys hi h0 h5 h4 h3 hl hend
    have hi12 : i < 12 := by omega
    have hi12' : (i : Int) < 12 := by omega
    rw [V_loop]
    cases hr : L.drop i with
    | nil =>
      obtain ⟨_, hlt, _⟩ := drop_nil hr hi
      simp [L10_0, h0, h5, hlt]
      refine hend _ v n [] (by simp [h3]) (by simp [h4]) ?_ (by simpa using hl.grow)
      rw [List.drop_eq_nil_of_le (by simp; omega)]; rfl
    | cons q rest =>
      obtain ⟨hq, hlt, _, _⟩ := drop_cons hr
      have hT := take_cons hr hi12
      have hc := fun h => rsV_at hq h
      have hw3 := wrapS (i := i) (by omega)
      have s1 : ans (env P) 11 [.agg [.val (.int .i64 q.x), .val (.int .i64 q.y)]] = some (.agg [.val (.int .i64 (spotN q.x)), .val (.int .i64 (spotN q.y))]) := refSpot_ans T
      have e3 : ∀ n : Int, scal P (Go.convert 3 53 (.int .i64 n)) = some (.val (.int .u64 (u64 n))) := fun n => by
        rw [cv_ii (k := .u64) (by rw [T.t3]; rfl) T.t53, wrapU64]; rfl
      have e4 : ∀ n : Int, 0 ≤ n → n < 18446744 → scal P (Go.convert 53 3 (.int .u64 n)) = some (.val (.int .i64 n)) := fun n h1 h2 => by
        rw [cv_ii (k := .i64) (by rw [T.t53]; rfl) T.t3, wrap64_id (by omega)]
      have u0 : ∀ n : Int, 0 ≤ u64 n := fun n => by unfold u64; omega
      have e5 : ∀ n k : Int, 0 ≤ k → (u64 n).tmod k = u64 n % k := fun n k hk => tmod_pos (u0 n) hk
      have m6 : (u64 q.op).tmod 6 = u64 q.op % 6 := e5 _ _ (by omega)
      have m2 : (u64 q.s).tmod 2001 = u64 q.s % 2001 := e5 _ _ (by omega)
      have m4 : (u64 q.s).tmod 4000001 = u64 q.s % 4000001 := e5 _ _ (by omega)
      have v6 := e4 (u64 q.op % 6) (by omega) (by omega)
      have v2 := e4 (u64 q.s % 2001) (by omega) (by omega)
      have v4 := e4 (u64 q.s % 4000001) (by omega) (by omega)
      have w6 : IntKind.i64.wrap (1 + u64 q.op % 6) = 1 + u64 q.op % 6 := wrap64_id (by omega)
      have w4 : IntKind.i64.wrap (u64 q.s % 4000001 - 2000000) = u64 q.s % 4000001 - 2000000 := wrap64_id (by omega)
      have wn : IntKind.i64.wrap (n + 1) = n + 1 := wrap64_id (by omega)
      have wm : IntKind.i64.wrap (n - 1) = n - 1 := wrap64_id (by omega)
      have hnn := fixN_le (q := q) hn.1
      have hfin : ∀ st' v', st'.σ 0 = .im (rsV L) false → st'.σ 5 = .val (.int .i64 (i + 1 : Nat)) → st'.σ 4 = .val (.int .i64 (fixN q n)) → st'.σ 3 = v' → Lst st'.h 4 v' (rsV ys ++ [(fixStep q n).cells]) → V (env P) 10 (.loop L10_0) st' (.blk 0 :: ks) K := by
        intro st' v' k0 k5 k4 k3 kl
        refine ih (i + 1) (fixN q n) st' v' (ys ++ [fixStep q n]) (by omega) ⟨hnn.1, by omega⟩ (by simp; omega) (by omega) k0 k5 k4 k3 (by rw [show rsV (ys ++ [fixStep q n]) = rsV ys ++ [(fixStep q n).cells] by simp [rsV]]; exact kl) ?_
        intro st2 v2 n2 zs j3 j4 jf jl
        refine hend st2 v2 n2 (fixStep q n :: zs) j3 j4 ?_ (by simpa using jl)
        rw [hT, fixL, ← jf]
      clear ih hend hT
      obtain ⟨o, ho⟩ : ∃ o, o = 1 + u64 q.op % 6 := ⟨_, rfl⟩
      have w6 := w6.trans ho.symm
      have hoc : o = 1 ∨ o = 2 ∨ o = 3 ∨ o = 4 ∨ o = 5 ∨ o = 6 := by omega
      have hmost : ys.length + 1 ≤ most := by unfold most; omega
      rcases hoc with h | h | h | h | h | h <;> subst h
      · simp [L10_0, h0, h5, h4, h3, hlt, hi12', hc, RS.cells, s1, e3, m6, v6, w6, chunks, elems, allLen, wn, wm]
        refine VP_app (ys := rsV ys) (by repeat (first | exact hl | refine Lst.grow ?_ | refine Lst.putN ?_ (by simp))) (by simp) (by simp) rfl (by simp; omega) fun v' H' wr rd k2 k3 _ => ?_
        simp [h0, h5, hw3, k3, wn, wm]
        refine hfin _ v' ?_ ?_ ?_ ?_ ?_
        · simp [h0]
        · simp
        · simp [fixN, fixOp, ← ho, h4]
        · simp
        · refine (show [(fixStep q n).cells] = _ from ?_) ▸ k2.grow
          simp [fixStep, fixOp, ← ho, RS.cells, ]
      · simp [L10_0, h0, h5, h4, h3, hlt, hi12', hc, RS.cells, s1, e3, m6, v6, w6, m2, v2, chunks, elems, allLen, wn, wm]
        refine VP_app (ys := rsV ys) (by repeat (first | exact hl | refine Lst.grow ?_ | refine Lst.putN ?_ (by simp))) (by simp) (by simp) rfl (by simp; omega) fun v' H' wr rd k2 k3 _ => ?_
        simp [h0, h5, hw3, k3, wn, wm]
        refine hfin _ v' ?_ ?_ ?_ ?_ ?_
        · simp [h0]
        · simp
        · simp [fixN, fixOp, ← ho, h4]
        · simp
        · refine (show [(fixStep q n).cells] = _ from ?_) ▸ k2.grow
          simp [fixStep, fixOp, ← ho, RS.cells, ]
      · simp [L10_0, h0, h5, h4, h3, hlt, hi12', hc, RS.cells, s1, e3, m6, v6, w6, m4, v4, w4, chunks, elems, allLen, wn, wm]
        refine VP_app (ys := rsV ys) (by repeat (first | exact hl | refine Lst.grow ?_ | refine Lst.putN ?_ (by simp))) (by simp) (by simp) rfl (by simp; omega) fun v' H' wr rd k2 k3 _ => ?_
        simp [h0, h5, hw3, k3, wn, wm]
        refine hfin _ v' ?_ ?_ ?_ ?_ ?_
        · simp [h0]
        · simp
        · simp [fixN, fixOp, ← ho, h4]
        · simp
        · refine (show [(fixStep q n).cells] = _ from ?_) ▸ k2.grow
          simp [fixStep, fixOp, ← ho, RS.cells, ]
      · by_cases hlow : n < 1
        · simp [L10_0, h0, h5, h4, h3, hlt, hi12', hc, RS.cells, s1, e3, m6, v6, w6, hlow, m2, v2, chunks, elems, allLen, wn, wm]
          refine VP_app (ys := rsV ys) (by repeat (first | exact hl | refine Lst.grow ?_ | refine Lst.putN ?_ (by simp))) (by simp) (by simp) rfl (by simp; omega) fun v' H' wr rd k2 k3 _ => ?_
          simp [h0, h5, hw3, k3, wn, wm]
          refine hfin _ v' ?_ ?_ ?_ ?_ ?_
          · simp [h0]
          · simp
          · simp [fixN, fixOp, ← ho, hlow, h4]
          · simp
          · refine (show [(fixStep q n).cells] = _ from ?_) ▸ k2.grow
            simp [fixStep, fixOp, ← ho, RS.cells, hlow, ]
        · simp [L10_0, h0, h5, h4, h3, hlt, hi12', hc, RS.cells, s1, e3, m6, v6, w6, hlow, chunks, elems, allLen, wn, wm]
          refine VP_app (ys := rsV ys) (by repeat (first | exact hl | refine Lst.grow ?_ | refine Lst.putN ?_ (by simp))) (by simp) (by simp) rfl (by simp; omega) fun v' H' wr rd k2 k3 _ => ?_
          simp [h0, h5, hw3, k3, wn, wm]
          refine hfin _ v' ?_ ?_ ?_ ?_ ?_
          · simp [h0]
          · simp
          · simp [fixN, fixOp, ← ho, hlow, h4]
          · simp
          · refine (show [(fixStep q n).cells] = _ from ?_) ▸ k2.grow
            simp [fixStep, fixOp, ← ho, RS.cells, hlow, ]
      · by_cases hlow : n < 2
        · simp [L10_0, h0, h5, h4, h3, hlt, hi12', hc, RS.cells, s1, e3, m6, v6, w6, hlow, m2, v2, chunks, elems, allLen, wn, wm]
          refine VP_app (ys := rsV ys) (by repeat (first | exact hl | refine Lst.grow ?_ | refine Lst.putN ?_ (by simp))) (by simp) (by simp) rfl (by simp; omega) fun v' H' wr rd k2 k3 _ => ?_
          simp [h0, h5, hw3, k3, wn, wm]
          refine hfin _ v' ?_ ?_ ?_ ?_ ?_
          · simp [h0]
          · simp
          · simp [fixN, fixOp, ← ho, hlow, h4]
          · simp
          · refine (show [(fixStep q n).cells] = _ from ?_) ▸ k2.grow
            simp [fixStep, fixOp, ← ho, RS.cells, hlow, ]
        · simp [L10_0, h0, h5, h4, h3, hlt, hi12', hc, RS.cells, s1, e3, m6, v6, w6, hlow, chunks, elems, allLen, wn, wm]
          refine VP_app (ys := rsV ys) (by repeat (first | exact hl | refine Lst.grow ?_ | refine Lst.putN ?_ (by simp))) (by simp) (by simp) rfl (by simp; omega) fun v' H' wr rd k2 k3 _ => ?_
          simp [h0, h5, hw3, k3, wn, wm]
          refine hfin _ v' ?_ ?_ ?_ ?_ ?_
          · simp [h0]
          · simp
          · simp [fixN, fixOp, ← ho, hlow, h4]
          · simp
          · refine (show [(fixStep q n).cells] = _ from ?_) ▸ k2.grow
            simp [fixStep, fixOp, ← ho, RS.cells, hlow, ]
      · by_cases hlow : n < 2
        · simp [L10_0, h0, h5, h4, h3, hlt, hi12', hc, RS.cells, s1, e3, m6, v6, w6, hlow, m2, v2, chunks, elems, allLen, wn, wm]
          refine VP_app (ys := rsV ys) (by repeat (first | exact hl | refine Lst.grow ?_ | refine Lst.putN ?_ (by simp))) (by simp) (by simp) rfl (by simp; omega) fun v' H' wr rd k2 k3 _ => ?_
          simp [h0, h5, hw3, k3, wn, wm]
          refine hfin _ v' ?_ ?_ ?_ ?_ ?_
          · simp [h0]
          · simp
          · simp [fixN, fixOp, ← ho, hlow, h4]
          · simp
          · refine (show [(fixStep q n).cells] = _ from ?_) ▸ k2.grow
            simp [fixStep, fixOp, ← ho, RS.cells, hlow, ]
        · simp [L10_0, h0, h5, h4, h3, hlt, hi12', hc, RS.cells, s1, e3, m6, v6, w6, hlow, chunks, elems, allLen, wn, wm]
          refine VP_app (ys := rsV ys) (by repeat (first | exact hl | refine Lst.grow ?_ | refine Lst.putN ?_ (by simp))) (by simp) (by simp) rfl (by simp; omega) fun v' H' wr rd k2 k3 _ => ?_
          simp [h0, h5, hw3, k3, wn, wm]
          refine hfin _ v' ?_ ?_ ?_ ?_ ?_
          · simp [h0]
          · simp
          · simp [fixN, fixOp, ← ho, hlow, h4]
          · simp
          · refine (show [(fixStep q n).cells] = _ from ?_) ▸ k2.grow
            simp [fixStep, fixOp, ← ho, RS.cells, hlow, ]

end Go.Evl.Zone

/- The zone statements: a zone that may be, out of any steps, whole; it is one. -/
namespace Go.Evl.Zone
open Go Go.Evl Go.Evl.Fl
set_option linter.unusedSimpArgs false
set_option linter.unusedVariables false
attribute [local simp] VB_ite VG_ite
variable {P : Program}

theorem loop10b {ks : List Fr'} {K : Ex → St → Prop} : ∀ (k : Nat) (n : Int) (st : St) (v : PV) (ys : List RS), n = k + 1 → n ≤ 100 → ys.length + k ≤ 1000 → st.σ 4 = .val (.int .i64 n) → st.σ 3 = v → Lst st.h 4 v (rsV ys) →
    (∀ st' v, st'.σ 3 = v → Lst st'.h 4 v (rsV (ys ++ List.replicate k ⟨6, 0, 0, 0⟩)) → VN (env P) 10 st' ks K) → V (env P) 10 (.loop L10_1) st (.blk 2 :: ks) K
  | 0, n, st, v, ys, hn, hb, hy, h4, h3, hl, hend => by
    have hn1 : n = 1 := by omega
    subst hn1
    rw [V_loop]
    simp [L10_1, h4]
    exact hend _ v (by simp [h3]) (by simpa using hl.grow)
  | k + 1, n, st, v, ys, hn, hb, hy, h4, h3, hl, hend => by
    have h1 : 1 < n := by omega
    have hw : IntKind.i64.wrap (n - 1) = n - 1 := wrap64_id (by omega)
    have hmost : ys.length + 1 ≤ most := by unfold most; omega
    rw [V_loop]
    simp [L10_1, h4, h3, h1, chunks, elems, allLen]
    refine VP_app (ys := rsV ys) (by repeat (first | exact hl | refine Lst.grow ?_ | refine Lst.putN ?_ (by simp))) (by simp) (by simp) rfl (by simp; omega) fun v' H' wr rd k2 k3 _ => ?_
    simp [h4, hw, k3]
    refine loop10b k (n - 1) _ v' (ys ++ [⟨6, 0, 0, 0⟩]) (by omega) (by omega) (by simp; omega) ?_ ?_ ?_ ?_
    · simp
    · simp
    · simpa [rsV, RS.cells] using k2.grow
    · intro st' v2 j3 jl
      refine hend st' v2 j3 ?_
      rw [List.replicate_succ]
      simpa using jl

theorem fix_ans (T : Typed P) {l : List RS} : ans (env P) 10 [.im (rsV l) false] = some (.im (rsV (fix l)) false) := by
  refine ans_V rfl rfl ?_
  simp [c10]
  refine loop10 T (L := l) 12 0 0 _ _ [] rfl (by omega) (by simp) (by omega) (by simp) (by simp) (by simp) rfl ?_ ?_
  · simp; exact Lst.nil
  · intro st' v n' zs h3 h4 hf hl'
    simp only [List.drop_zero] at hf
    have hlen := fixL_length (l.take 12) 0
    have hn := fixL_n (l.take 12) 0 (by omega)
    rw [← hf] at hlen hn
    simp only [List.length_take] at hlen hn
    have hf1 : (fixL (l.take 12) 0).1 = zs := by rw [← hf]
    have hf2 : (fixL (l.take 12) 0).2 = n' := by rw [← hf]
    by_cases h0 : n' = 0
    · simp [h4, h0, chunks, allLen]
      unfold fix
      rw [if_pos (by rw [hf2]; exact h0)]
      rfl
    · simp [h4, h0, h3]
      refine loop10b (n' - 1).toNat n' _ v zs (by omega) (by omega) (by omega) (by simp [h4]) (by simp [h3]) ?_ ?_
      · simpa using hl'.grow
      · intro st2 v2 j3 jl
        simp [j3]
        unfold fix
        rw [if_neg (by rw [hf2]; exact h0), hf1, hf2]
        exact (jl.grow (m := 0)).expV (plainss_rs _)

/-! ### It is a zone -/

def RS.inB (q : RS) : Prop := near q.x = true ∧ near q.y = true ∧ -2000000 ≤ q.s ∧ q.s ≤ 2000000

theorem fixStep_right (q : RS) (n : Int) : (fixStep q n).si.right = true ∧ (fixStep q n).inB ∧ (fixStep q n).op = fixOp q n := by
  have h := fixOp_le q n
  have h1 := spotN_near q.x
  have h2 := spotN_near q.y
  have e1 : u64 q.s % 2001 ≤ 2000 ∧ 0 ≤ u64 q.s % 2001 := by unfold u64; omega
  have e2 : -2000000 ≤ u64 q.s % 4000001 - 2000000 ∧ u64 q.s % 4000001 - 2000000 ≤ 2000000 := by unfold u64; omega
  unfold fixStep
  by_cases c2 : fixOp q n = 2
  · simp [c2, RS.si, SI.right, rightB, RS.inB, h1, h2]; omega
  · by_cases c3 : fixOp q n = 3
    · simp [c3, RS.si, SI.right, rightB, RS.inB, h1, h2]; omega
    · have : fixOp q n = 1 ∨ fixOp q n = 4 ∨ fixOp q n = 5 ∨ fixOp q n = 6 := by omega
      simp [c2, c3, RS.si, SI.right, rightB, RS.inB, this]
      decide

theorem fixL_fold : ∀ (l : List RS) (n : Int), 0 ≤ n → foldR (toSI (fixL l n).1) n = some (fixL l n).2 ∧ (∀ q ∈ (fixL l n).1, q.inB)
  | [], n, _ => ⟨rfl, by simp [fixL]⟩
  | q :: l, n, hn => by
    obtain ⟨hr, hi, ho⟩ := fixStep_right q n
    have hN := fixN_le (q := q) hn
    obtain ⟨i1, i2⟩ := fixL_fold l (fixN q n) hN.1
    have hle := fixOp_le q n
    have hneed : n + (1 - needsN (fixStep q n).op) = fixN q n ∧ ¬ n < needsN (fixStep q n).op := by
      rw [ho]
      have key : (fixOp q n = 4 → ¬ n < 1) ∧ (4 < fixOp q n → ¬ n < 2) := by
        unfold fixOp
        split
        · omega
        · rename_i hno
          exact ⟨fun h q => hno (.inl ⟨h, q⟩), fun h q => hno (.inr ⟨h, q⟩)⟩
      unfold needsN fixN
      split
      · rename_i h; rw [h]; have := key.1 h; simp; omega
      · split
        · rename_i h; have := key.2 (by omega); rw [if_neg (by omega), if_pos (by omega)]; omega
        · rw [if_pos (by omega)]; omega
    refine ⟨?_, ?_⟩
    · rw [fixL]
      simp only [toSI, List.map_cons, foldR]
      rw [if_neg (by rw [hr]; simp only [RS.si, Bool.true_eq_false, false_or]; exact hneed.2)]
      show foldR (toSI (fixL l (fixN q n)).1) (n + (1 - needsN (fixStep q n).op)) = _
      rw [hneed.1, i1]
    · intro x hx
      rw [fixL] at hx
      rcases List.mem_cons.1 hx with rfl | hx
      · exact hi
      · exact i2 x hx

theorem foldR_append : ∀ (l m : List SI) (n : Int), foldR (l ++ m) n = (foldR l n).bind (foldR m)
  | [], m, n => rfl
  | q :: l, m, n => by
    rw [List.cons_append, foldR, foldR]
    split
    · rfl
    · exact foldR_append l m _

theorem foldR_ors : ∀ (k : Nat), foldR (toSI (List.replicate k ⟨6, 0, 0, 0⟩)) (k + 1) = some 1
  | 0 => rfl
  | k + 1 => by
    have h := foldR_ors k
    rw [List.replicate_succ]
    simp only [toSI, List.map_cons, foldR]
    rw [if_neg]
    · rw [show ((k + 1 : Nat) : Int) + 1 + (1 - needsN (RS.si ⟨6, 0, 0, 0⟩).op) = (k : Int) + 1 by show _ + (1 - 2) = _; omega]
      exact h
    · have : (RS.si ⟨6, 0, 0, 0⟩).right = true := by decide
      rw [this]
      show ¬ (true = false ∨ ((k + 1 : Nat) : Int) + 1 < 2)
      simp; omega

theorem fix_right (l : List RS) : zoneRight (toSI (fix l)) = true ∧ (∀ q ∈ fix l, q.inB) ∧ (fix l).length ≤ 23 := by
  obtain ⟨f1, f2⟩ := fixL_fold (l.take 12) 0 (by omega)
  have hn := fixL_n (l.take 12) 0 (by omega)
  have hlen := fixL_length (l.take 12) 0
  simp only [List.length_take] at hn hlen
  unfold fix
  split
  · exact ⟨by decide, by intro q hq; simp at hq; subst hq; exact ⟨by decide, by decide, by decide, by decide⟩, by simp⟩
  · rename_i h0
    refine ⟨?_, ?_, ?_⟩
    · unfold zoneRight
      rw [Bool.and_eq_true, decide_eq_true_eq, decide_eq_true_eq]
      refine ⟨by simp [toSI]; omega, ?_⟩
      rw [toSI, List.map_append, foldR_append]
      rw [show List.map RS.si (fixL (l.take 12) 0).1 = toSI (fixL (l.take 12) 0).1 from rfl, f1]
      have := foldR_ors ((fixL (l.take 12) 0).2 - 1).toNat
      rw [show ((((fixL (l.take 12) 0).2 - 1).toNat : Nat) : Int) + 1 = (fixL (l.take 12) 0).2 by omega] at this
      exact this
    · intro q hq
      rcases List.mem_append.1 hq with h | h
      · exact f2 q h
      · rw [List.mem_replicate] at h
        rw [h.2]
        exact ⟨by decide, by decide, by decide, by decide⟩
    · simp; omega

end Go.Evl.Zone

/- The zone statements: which zones the document lets be. -/
namespace Go.Evl.Zone
open Go Go.Evl Go.Evl.Fl
set_option linter.unusedSimpArgs false
set_option linter.unusedVariables false
variable {P : Program}

set_option maxRecDepth 20000 in
set_option maxHeartbeats 4000000 in
theorem loop27 {L : List RS} {ks : List Fr'} {K : Ex → St → Prop} (hL : L.length ≤ 32) : ∀ (rest : List RS) (i : Nat) (n : Int) (st : St), L.drop i = rest → i ≤ L.length → 0 ≤ n ∧ n ≤ i → st.σ 0 = .im (rsV L) false → st.σ 4 = .val (.int .i64 i) → st.σ 3 = .val (.int .i64 n) →
    (∀ st', foldR (toSI rest) n = none → st'.σ 2 = .val (.bool false) → K .ret st') → (∀ st' m, foldR (toSI rest) n = some m → st'.σ 3 = .val (.int .i64 m) → VN (env P) 27 st' ks K) → V (env P) 27 (.loop L27_0) st (.blk 0 :: ks) K
  | [], i, n, st, hr, hi, hn, h0, h4, h3, hret, hend => by
    obtain ⟨_, hlt, _⟩ := drop_nil hr hi
    rw [V_loop]
    simp [L27_0, h0, h4, hlt]
    exact hend _ n rfl (by simp [h3])
  | q :: rest, i, n, st, hr, hi, hn, h0, h4, h3, hret, hend => by
    obtain ⟨hq, hlt, hr', ht⟩ := drop_cons hr
    have hc := fun h => rsV_at hq h
    have hw3 := wrapS (i := i) (by omega)
    have hwh := refWhole_ans (P := P) (x := q.x) (y := q.y)
    have hns : ans (env P) 35 [.val (.int .i64 q.s), .val (.int .i64 2000000)] = some (.val (.bool (decide (-2000000 ≤ q.s) && decide (q.s ≤ 2000000)))) := near_ans (by omega)
    have wn : IntKind.i64.wrap (n + 1) = n + 1 := wrap64_id (by omega)
    have wm : IntKind.i64.wrap (n - 1) = n - 1 := wrap64_id (by omega)
    -- what comes of a step
    have hfold : foldR (toSI (q :: rest)) n = if q.si.right = false ∨ n < needsN q.op then none else foldR (toSI rest) (n + (1 - needsN q.op)) := rfl
    have hgo : ∀ st', q.si.right = true → ¬ n < needsN q.op → st'.σ 0 = .im (rsV L) false → st'.σ 4 = .val (.int .i64 (i + 1 : Nat)) → st'.σ 3 = .val (.int .i64 (n + (1 - needsN q.op))) → V (env P) 27 (.loop L27_0) st' (.blk 0 :: ks) K := by
      intro st' c1 c2 k0 k4 k3
      have hb := needsN_le q.op
      rw [hfold, if_neg (by simp [c1, c2])] at hret hend
      exact loop27 hL rest (i + 1) _ st' hr' (by omega) (by omega) k0 k4 k3 hret hend
    have hno : ∀ st', (q.si.right = false ∨ n < needsN q.op) → st'.σ 2 = .val (.bool false) → K .ret st' := by
      intro st' c k
      exact hret st' (by rw [hfold, if_pos c]) k
    clear hret hend hfold
    rw [V_loop]
    by_cases c2 : q.op = 2
    · cases hw : (near q.x && near q.y) with
      | false =>
        simp [L27_0, h0, h4, h3, hlt, hc, RS.cells, c2, hwh, hw]
        exact hno _ (.inl (by simp only [SI.right, RS.si, rightB, c2, if_true, hw, Bool.false_and])) (by simp)
      | true =>
        have hri : q.si.right = (decide (0 ≤ q.s) && decide (q.s ≤ 2000)) := by simp only [SI.right, RS.si, rightB, c2, if_true, hw, Bool.true_and]
        by_cases s1 : q.s < 0
        · simp [L27_0, h0, h4, h3, hlt, hc, RS.cells, c2, hwh, hw, s1]
          exact hno _ (.inl (by rw [hri]; simp; omega)) (by simp)
        · by_cases s2 : 2000 < q.s
          · simp [L27_0, h0, h4, h3, hlt, hc, RS.cells, c2, hwh, hw, s1, s2]
            exact hno _ (.inl (by rw [hri]; simp; omega)) (by simp)
          · simp [L27_0, h0, h4, h3, hlt, hc, RS.cells, c2, hwh, hw, s1, s2, wn, hw3]
            refine hgo _ (by rw [hri]; simp; omega) (by simp [needsN, c2]; omega) ?_ ?_ ?_
            · simp [h0]
            · simp
            · simp [needsN, c2]
    · by_cases c3 : q.op = 3
      · cases hw : (near q.x && near q.y) with
        | false =>
          simp [L27_0, h0, h4, h3, hlt, hc, RS.cells, c3, hwh, hw]
          exact hno _ (.inl (by simp [SI.right, RS.si, rightB, c3]; intro h1 h2; simp [h1, h2] at hw)) (by simp)
        | true =>
          have hri : q.si.right = (decide (-2000000 ≤ q.s) && decide (q.s ≤ 2000000)) := by
            simp only [Bool.and_eq_true] at hw
            simp [SI.right, RS.si, rightB, c3, hw]
          cases hs : (decide (-2000000 ≤ q.s) && decide (q.s ≤ 2000000)) with
          | false =>
            rw [hs] at hns hri
            simp [L27_0, h0, h4, h3, hlt, hc, RS.cells, c3, hwh, hw, hns]
            exact hno _ (.inl hri) (by simp)
          | true =>
            rw [hs] at hns hri
            simp [L27_0, h0, h4, h3, hlt, hc, RS.cells, c3, hwh, hw, hns, wn, hw3]
            refine hgo _ hri (by simp [needsN, c3]; omega) ?_ ?_ ?_
            · simp [h0]
            · simp
            · simp [needsN, c3]
      · by_cases c : q.op = 1 ∨ q.op = 4 ∨ q.op = 5 ∨ q.op = 6
        · by_cases hz : q.x = 0 ∧ q.y = 0 ∧ q.s = 0
          · obtain ⟨z1, z2, z3⟩ := hz
            have hri : q.si.right = true := by
              rw [show q.si.right = rightB q.op q.x q.y q.s from rfl]
              unfold rightB
              rw [if_neg c2, if_neg c3, if_pos c, z1, z2, z3]; rfl
            rcases c with c | c | c | c
            · simp [L27_0, h0, h4, h3, hlt, hc, RS.cells, c, z1, z2, z3, wn, hw3]
              refine hgo _ hri (by simp [needsN, c]; omega) ?_ ?_ ?_
              · simp [h0]
              · simp
              · simp [needsN, c]
            · by_cases hlow : n < 1
              · simp [L27_0, h0, h4, h3, hlt, hc, RS.cells, c, z1, z2, z3, wn, hw3, hlow]
                exact hno _ (.inr (by simp [needsN, c]; omega)) (by simp)
              · simp [L27_0, h0, h4, h3, hlt, hc, RS.cells, c, z1, z2, z3, wn, hw3, hlow]
                refine hgo _ hri (by simp [needsN, c]; omega) ?_ ?_ ?_
                · simp [h0]
                · simp
                · simp [needsN, c, h3]
            · by_cases hlow : n < 2
              · simp [L27_0, h0, h4, h3, hlt, hc, RS.cells, c, z1, z2, z3, wn, wm, hw3, hlow]
                exact hno _ (.inr (by simp [needsN, c]; omega)) (by simp)
              · simp [L27_0, h0, h4, h3, hlt, hc, RS.cells, c, z1, z2, z3, wn, wm, hw3, hlow]
                refine hgo _ hri (by simp [needsN, c]; omega) ?_ ?_ ?_
                · simp [h0]
                · simp
                · simp [needsN, c]; omega
            · by_cases hlow : n < 2
              · simp [L27_0, h0, h4, h3, hlt, hc, RS.cells, c, z1, z2, z3, wn, wm, hw3, hlow]
                exact hno _ (.inr (by simp [needsN, c]; omega)) (by simp)
              · simp [L27_0, h0, h4, h3, hlt, hc, RS.cells, c, z1, z2, z3, wn, wm, hw3, hlow]
                refine hgo _ hri (by simp [needsN, c]; omega) ?_ ?_ ?_
                · simp [h0]
                · simp
                · simp [needsN, c]; omega
          · have hri : q.si.right = false := by
              rw [show q.si.right = rightB q.op q.x q.y q.s from rfl]
              unfold rightB
              rw [if_neg c2, if_neg c3, if_pos c]
              simp only [Bool.and_eq_false_iff, decide_eq_false_iff_not]
              omega
            have hz' : q.x ≠ 0 ∨ q.y ≠ 0 ∨ q.s ≠ 0 := by omega
            by_cases z1 : q.x = 0
            · by_cases z2 : q.y = 0
              · have z3 : ¬ q.s = 0 := by omega
                rcases c with c | c | c | c <;>
                  (simp [L27_0, h0, h4, h3, hlt, hc, RS.cells, c, z1, z2, z3]
                   exact hno _ (.inl hri) (by simp))
              · rcases c with c | c | c | c <;>
                  (simp [L27_0, h0, h4, h3, hlt, hc, RS.cells, c, z1, z2]
                   exact hno _ (.inl hri) (by simp))
            · rcases c with c | c | c | c <;>
                (simp [L27_0, h0, h4, h3, hlt, hc, RS.cells, c, z1]
                 exact hno _ (.inl hri) (by simp))
        · have hri : q.si.right = false := by
            rw [show q.si.right = rightB q.op q.x q.y q.s from rfl]
            unfold rightB
            rw [if_neg c2, if_neg c3, if_neg c]
          simp only [not_or] at c
          simp [L27_0, h0, h4, h3, hlt, hc, RS.cells, c2, c3, c]
          exact hno _ (.inl hri) (by simp)

theorem refRight_ans {l : List RS} : ans (env P) 27 [.im (rsV l) false] = some (.val (.bool (zoneRight (toSI l)))) := by
  refine ans_V rfl rfl ?_
  by_cases h1 : l.length < 1
  · have hl : l = [] := List.length_eq_zero_iff.1 (by omega)
    subst hl
    simp [c27]
    decide
  · have h1' : ¬ (l.length : Int) < 1 := by omega
    by_cases h32 : 32 < l.length
    · have h2 : (32 : Int) < (l.length : Int) := by omega
      have hz : zoneRight (toSI l) = false := by simp [zoneRight, toSI]; intro h; omega
      simp [c27, h1', h2, hz]
    · have h2 : ¬ (32 : Int) < (l.length : Int) := by omega
      simp [c27, h1', h2]
      refine loop27 (by omega) l 0 0 _ rfl (by omega) (by omega) (by simp) (by simp) (by simp) ?_ ?_
      · intro st' hf hs
        simp [hs, zoneRight, hf]
      · intro st' m hf hs
        simp [hs, zoneRight, hf]
        simp [toSI]; omega

end Go.Evl.Zone

/- The zone statements: whether a place is in a zone, as the document has it. -/
namespace Go.Evl.Zone
open Go Go.Evl Go.Evl.Fl
set_option linter.unusedSimpArgs false
set_option linter.unusedVariables false
variable {P : Program}

/-- The truths that stand: none yet, or in a row of their own. -/
def Tr (H : Heap) (v : PV) (t : List Bool) : Prop := (v = .im [] true ∧ t = []) ∨ ∃ r xs, Rw H 1 v (boolsV t) r xs

theorem Tr.lst {H : Heap} {v : PV} {t : List Bool} (h : Tr H v t) : Lst H 1 v (boolsV t) := by
  rcases h with ⟨rfl, rfl⟩ | ⟨r, xs, h⟩
  · exact Lst.nil
  · exact h.lst

theorem Tr.len {H : Heap} {v : PV} {t : List Bool} (h : Tr H v t) : lenP false v = some t.length := by
  rw [h.lst.len, boolsV_length]

theorem bools_get {xs : List (List PV)} {t : List Bool} (he : xs.take (boolsV t).length = boolsV t) {i : Nat} {b : Bool} (hb : t[i]? = some b) : xs[i]? = some [.val (.bool b)] := by
  have hi : i < t.length := (List.getElem?_eq_some_iff.1 hb).1
  have : (xs.take (boolsV t).length)[i]? = some [.val (.bool b)] := by rw [he]; simp [boolsV, hb]
  rw [List.getElem?_take, boolsV_length, if_pos hi] at this
  exact this

theorem stepT_eq (q : RS) (px py : Int) (t u : List Bool) (k : Nat) (hk : (k : Int) = needsN q.op) (hu : u.length = k) (t0 : List Bool) (ht : t = t0 ++ u) : stepT q.si px py t = t0 ++ [truthB q.op q.x q.y q.s px py u] := by
  subst ht
  unfold stepT SI.truth
  have h1 : (needsN q.si.op).toNat = k := by show (needsN q.op).toNat = k; omega
  rw [h1, List.length_append, hu, Nat.add_sub_cancel]
  simp
  rfl

set_option maxRecDepth 20000 in
set_option maxHeartbeats 4000000 in
theorem loop17 {L : List RS} (hin : ∀ q ∈ L, q.si.right = true) {ks : List Fr'} {K : Ex → St → Prop} (hL : L.length ≤ 32) {px py : Int} (n3 : near px = true) (n4 : near py = true) (m : Int) (rp : Nat) :
    ∀ (rest : List RS) (i : Nat) (t : List Bool) (st : St) (v : PV), L.drop i = rest → i ≤ L.length → foldR (toSI rest) t.length = some m → t.length ≤ i → st.σ 0 = .im (rsV L) false → st.σ 6 = .val (.int .i64 i) → st.σ 3 = .ptr rp 0 → st.h.at_ rp = .box [.val (.int .i64 px), .val (.int .i64 py)] → rp < st.h.n → st.σ 5 = v → Tr st.h v t →
    (∀ st' v, st'.σ 5 = v → Tr st'.h v (runT px py (toSI rest) t) → VN (env P) 17 st' ks K) → V (env P) 17 (.loop L17_0) st (.blk 0 :: ks) K
  | [], i, t, st, v, hr, hi, hf, hti, h0, h6, h3, hb, hbn, h5, htr, hend => by
    obtain ⟨_, hlt, _⟩ := drop_nil hr hi
    rw [V_loop]
    simp [L17_0, h0, h6, hlt]
    refine hend _ v (by simp [h5]) ?_
    rcases htr with ⟨h, h'⟩ | ⟨r, xs, h⟩
    · exact .inl ⟨h, h'⟩
    · exact .inr ⟨r, xs, h.grow⟩
  | q :: rest, i, t, st, v, hr, hi, hf, hti, h0, h6, h3, hb, hbn, h5, htr, hend => by
    obtain ⟨hq, hlt, hr', ht⟩ := drop_cons hr
    have hc := fun h => rsV_at hq h
    have hw3 := wrapS (i := i) (by omega)
    have hri := hin q (List.mem_of_getElem? hq)
    have hnear : near q.x = true ∧ near q.y = true ∧ (q.op = 2 → 0 ≤ q.s ∧ q.s ≤ 2000) := right_near hri
    have hopr : q.op = 1 ∨ q.op = 2 ∨ q.op = 3 ∨ q.op = 4 ∨ q.op = 5 ∨ q.op = 6 := by
      have : rightB q.op q.x q.y q.s = true := hri
      unfold rightB at this
      by_cases a : q.op = 2
      · exact .inr (.inl a)
      · by_cases b : q.op = 3
        · exact .inr (.inr (.inl b))
        · rw [if_neg a, if_neg b] at this
          split at this
          · omega
          · cases this
    obtain ⟨nx, ny, nz⟩ := hnear
    simp only [near, Bool.and_eq_true, decide_eq_true_eq] at nx ny n3 n4
    have hfold : foldR (toSI (q :: rest)) t.length = if q.si.right = false ∨ (t.length : Int) < needsN q.op then none else foldR (toSI rest) (t.length + (1 - needsN q.op)) := rfl
    rw [hfold] at hf
    split at hf
    · cases hf
    · rename_i hno
      simp only [not_or, Int.not_lt] at hno
      have hnn := hno.2
      have hb2 := needsN_le q.op
      -- what comes of it
      have hgo : ∀ st' v', st'.σ 0 = .im (rsV L) false → st'.σ 6 = .val (.int .i64 (i + 1 : Nat)) → st'.σ 3 = .ptr rp 0 → st'.h.at_ rp = .box [.val (.int .i64 px), .val (.int .i64 py)] → rp < st'.h.n → st'.σ 5 = v' → Tr st'.h v' (stepT q.si px py t) → V (env P) 17 (.loop L17_0) st' (.blk 0 :: ks) K := by
        intro st' v' k0 k6 k3 kb kn k5 ktr
        have hlenT : ((stepT q.si px py t).length : Int) = t.length + (1 - needsN q.op) := by
          unfold stepT; show ((t.take (t.length - (needsN q.op).toNat) ++ [_]).length : Int) = _; simp; omega
        exact loop17 hin hL (by simp [near, n3]) (by simp [near, n4]) m rp rest (i + 1) _ st' v' hr' (by omega) (by rw [hlenT]; exact hf) (by omega) k0 k6 k3 kb kn k5 ktr hend
      clear hend hfold hf
      have hlen := htr.len
      have hrn : rp ≠ st.h.n := by omega
      have hrn' : ¬ st.h.n = rp := by omega
      have hbn1 : rp < st.h.n + 1 := by omega
      rw [V_loop]
      rcases hopr with c | c | c | c | c | c
      · simp [L17_0, h0, h6, h3, h5, hb, hbn, hbn1, hrn, hlt, hc, RS.cells, c, hlen, chunks, elems, allLen, ]
        refine VP_appR (ys := boolsV t) (zs := [[.val (.bool (true))]]) (by repeat (first | exact htr.lst | refine Lst.grow ?_ | refine Lst.putN ?_ (by simp))) (by simp) (by simp) rfl (by simp) (by simp [boolsV]; unfold most; omega) fun v' H' wr rd r' xs' k2 k3 k4 => ?_
        simp [h0, h6, hw3, k3]
        refine hgo _ v' ?_ ?_ ?_ ?_ ?_ ?_ ?_
        · simp [h0]
        · simp
        · simp [h3]
        · have kb := k4 rp [.val (.int .i64 px), .val (.int .i64 py)] (by simp [hb, hrn, hrn', hbn, hbn1])
          simp [kb, k3]; omega
        · simp [k3]; omega
        · simp
        · exact .inr ⟨r', xs', (by have := k2.grow (m := 0); rw [stepT_eq q px py t [] 0 (by simp [needsN, c]) rfl t (by simp)]; simpa [boolsV, truthB, c] using this)⟩
      · obtain ⟨nz1, nz2⟩ := nz c
        have m3 := mul_le (a := px - q.x) (b := px - q.x) (by unfold sm; omega) (by unfold sm; omega)
        have m4 := mul_le (a := py - q.y) (b := py - q.y) (by unfold sm; omega) (by unfold sm; omega)
        have m5 := mul_le (a := q.s) (b := q.s) (by unfold sm; omega) (by unfold sm; omega)
        have w4 : IntKind.i64.wrap (px - q.x) = px - q.x := wrap64_id (by omega)
        have w5 : IntKind.i64.wrap (py - q.y) = py - q.y := wrap64_id (by omega)
        have w6 : IntKind.i64.wrap ((px - q.x) * (px - q.x)) = (px - q.x) * (px - q.x) := wrap64_id (by omega)
        have w7 : IntKind.i64.wrap ((py - q.y) * (py - q.y)) = (py - q.y) * (py - q.y) := wrap64_id (by omega)
        have w8 : IntKind.i64.wrap ((px - q.x) * (px - q.x) + (py - q.y) * (py - q.y)) = (px - q.x) * (px - q.x) + (py - q.y) * (py - q.y) := wrap64_id (by omega)
        have w9 : IntKind.i64.wrap (q.s * q.s) = q.s * q.s := wrap64_id (by omega)
        simp [L17_0, h0, h6, h3, h5, hb, hbn, hbn1, hrn, hlt, hc, RS.cells, c, hlen, chunks, elems, allLen, w4, w5, w6, w7, w8, w9]
        refine VP_appR (ys := boolsV t) (zs := [[.val (.bool (decide ((px - q.x) * (px - q.x) + (py - q.y) * (py - q.y) ≤ q.s * q.s)))]]) (by repeat (first | exact htr.lst | refine Lst.grow ?_ | refine Lst.putN ?_ (by simp))) (by simp) (by simp) rfl (by simp) (by simp [boolsV]; unfold most; omega) fun v' H' wr rd r' xs' k2 k3 k4 => ?_
        simp [h0, h6, hw3, k3]
        refine hgo _ v' ?_ ?_ ?_ ?_ ?_ ?_ ?_
        · simp [h0]
        · simp
        · simp [h3]
        · have kb := k4 rp [.val (.int .i64 px), .val (.int .i64 py)] (by simp [hb, hrn, hrn', hbn, hbn1])
          simp [kb, k3]; omega
        · simp [k3]; omega
        · simp
        · exact .inr ⟨r', xs', (by have := k2.grow (m := 0); rw [stepT_eq q px py t [] 0 (by simp [needsN, c]) rfl t (by simp)]; simpa [boolsV, truthB, c] using this)⟩
      · have m3 := mul_le (a := px) (b := q.x) (by unfold sm; omega) (by unfold sm; omega)
        have m4 := mul_le (a := py) (b := q.y) (by unfold sm; omega) (by unfold sm; omega)
        have w6 : IntKind.i64.wrap (px * q.x) = px * q.x := wrap64_id (by omega)
        have w7 : IntKind.i64.wrap (py * q.y) = py * q.y := wrap64_id (by omega)
        have w8 : IntKind.i64.wrap (px * q.x + py * q.y) = px * q.x + py * q.y := wrap64_id (by omega)
        simp [L17_0, h0, h6, h3, h5, hb, hbn, hbn1, hrn, hlt, hc, RS.cells, c, hlen, chunks, elems, allLen, w6, w7, w8]
        refine VP_appR (ys := boolsV t) (zs := [[.val (.bool (decide (q.s ≤ px * q.x + py * q.y)))]]) (by repeat (first | exact htr.lst | refine Lst.grow ?_ | refine Lst.putN ?_ (by simp))) (by simp) (by simp) rfl (by simp) (by simp [boolsV]; unfold most; omega) fun v' H' wr rd r' xs' k2 k3 k4 => ?_
        simp [h0, h6, hw3, k3]
        refine hgo _ v' ?_ ?_ ?_ ?_ ?_ ?_ ?_
        · simp [h0]
        · simp
        · simp [h3]
        · have kb := k4 rp [.val (.int .i64 px), .val (.int .i64 py)] (by simp [hb, hrn, hrn', hbn, hbn1])
          simp [kb, k3]; omega
        · simp [k3]; omega
        · simp
        · exact .inr ⟨r', xs', (by have := k2.grow (m := 0); rw [stepT_eq q px py t [] 0 (by simp [needsN, c]) rfl t (by simp)]; simpa [boolsV, truthB, c] using this)⟩
      · have hne : needsN q.op = 1 := by simp [needsN, c]
        obtain ⟨t0, b, rfl⟩ : ∃ t0 b, t = t0 ++ [b] := ⟨t.dropLast, t.getLast (by intro e; subst e; simp at hnn; omega), (List.dropLast_concat_getLast _).symm⟩
        rcases htr with ⟨_, h⟩ | ⟨r, xs, h⟩
        · simp at h
        · have hv := h.v
          have hrb := h.b
          have hrl := h.lt
          have hx := bools_get h.eq (i := t0.length) (b := b) (by simp)
          have hle := h.le
          simp [boolsV] at hv hle
          have hrr : ¬ r = st.h.n := by omega
          have hrl1 : r < st.h.n + 1 := by omega
          have hrp : ¬ rp = r := fun e => by rw [e, hrb] at hb; cases hb
          have w1 : IntKind.i64.wrap (t0.length : Int) = t0.length := wrap64_id (by simp at hti; omega)
          have hxl : t0.length < xs.length := by omega
          have hl1 : (t0.length : Int) < (t0.length : Int) + 1 := by omega
          have hx' : ∀ h, xs[t0.length]'h = [.val (.bool b)] := fun h => (List.getElem?_eq_some_iff.1 hx).2
          rw [hv] at h5
          simp [L17_0, h0, h6, h3, h5, hb, hbn, hbn1, hrn, hlt, hc, RS.cells, c, hlen, chunks, elems, allLen, hrb, hrl, hrl1, hrr, hrp, w1, loadR_row, storeR, hxl, hx', hw3, hl1]
          refine hgo _ v ?_ ?_ ?_ ?_ ?_ ?_ ?_
          · simp [h0]
          · simp
          · simp [h3]
          · simp [hrp, hrn, hb, hbn, hbn1]
          · simp; omega
          · simp [h5, hv]
          · rw [stepT_eq q px py (t0 ++ [b]) [b] 1 (by rw [hne]; rfl) rfl t0 rfl]
            refine .inr ⟨r, xs.set t0.length [.val (.bool (!b))], ?_⟩
            have h2 := (((((h.grow (m := 1)).putN (s := st.h.n) (b := .box [.val (.int .i64 0), .val (.int .i64 0), .val (.int .i64 0), .val (.int .i64 0)]) (by simp)).putN (s := st.h.n) (b := .box [.val (.int .i64 4), .val (.int .i64 q.x), .val (.int .i64 q.y), .val (.int .i64 q.s)]) (by simp)).grow (m := 0)).set (i := t0.length) (y := [.val (.bool (!b))]) rfl).grow (m := 0)
            have e : (boolsV (t0 ++ [b])).set t0.length [.val (.bool (!b))] = boolsV (t0 ++ [!b]) := by simp [boolsV]
            rw [e] at h2
            simpa [truthB, c] using h2
      · have hne : needsN q.op = 2 := by simp [needsN, c]
        obtain ⟨t1, b, rfl⟩ : ∃ t1 b, t = t1 ++ [b] := ⟨t.dropLast, t.getLast (by intro e; subst e; simp at hnn; omega), (List.dropLast_concat_getLast _).symm⟩
        obtain ⟨t0, a, rfl⟩ : ∃ t0 a, t1 = t0 ++ [a] := ⟨t1.dropLast, t1.getLast (by intro e; subst e; simp at hnn; omega), (List.dropLast_concat_getLast _).symm⟩
        rcases htr with ⟨_, h⟩ | ⟨r, xs, h⟩
        · simp at h
        · have hv := h.v
          have hrb := h.b
          have hrl := h.lt
          have hx := bools_get h.eq (i := t0.length) (b := a) (by simp)
          have hy := bools_get h.eq (i := t0.length + 1) (b := b) (by simp)
          have hle := h.le
          simp [boolsV] at hv hle
          have hrr : ¬ r = st.h.n := by omega
          have hrl1 : r < st.h.n + 1 := by omega
          have hrp : ¬ rp = r := fun e => by rw [e, hrb] at hb; cases hb
          have hti2 : t0.length < 32 := by simp at hti; omega
          have w0 : IntKind.i64.wrap (t0.length : Int) = t0.length := wrap64_id (by omega)
          have w1 : IntKind.i64.wrap ((t0.length : Int) + 1) = ((t0.length + 1 : Nat) : Int) := by rw [wrap64_id (by omega)]; rfl
          have w2 : IntKind.i64.wrap ((t0.length : Int) + 2 - 1) = ((t0.length + 1 : Nat) : Int) := by rw [wrap64_id (by omega)]; omega
          have w3 : IntKind.i64.wrap ((t0.length : Int) + 2 - 2) = t0.length := by rw [wrap64_id (by omega)]; omega
          have hxl : t0.length < xs.length := by omega
          have hyl : t0.length + 1 < xs.length := by omega
          have hx' : ∀ h, xs[t0.length]'h = [.val (.bool a)] := fun h => (List.getElem?_eq_some_iff.1 hx).2
          have hy' : ∀ h, xs[t0.length + 1]'h = [.val (.bool b)] := fun h => (List.getElem?_eq_some_iff.1 hy).2
          have hl1 : (t0.length : Int) < (t0.length : Int) + 2 := by omega
          have hl2 : (t0.length : Int) + 1 < (t0.length : Int) + 2 := by omega
          have hl3 : (0 : Int) ≤ (t0.length : Int) + 1 := by omega
          have hsl : ∀ H : Heap, H.at_ r = .row 1 xs true → sliceP H 1 (.sl r 1 xs.length 0 (t0.length + 2)) none (some t0.length) none = some (.sl r 1 xs.length 0 t0.length, [r]) := fun H e => slice_lo e rfl (by omega) (by omega)
          have hpt := h.part (m := t0.length) (by simp [boolsV])
          have hpb : (boolsV (t0 ++ [a] ++ [b])).take t0.length = boolsV t0 := by simp [boolsV]
          rw [hpb] at hpt
          rw [hv] at h5
          have hfin : stepT q.si px py (t0 ++ [a] ++ [b]) = t0 ++ [a && b] := by
            rw [stepT_eq q px py (t0 ++ [a] ++ [b]) [a, b] 2 (by rw [hne]; rfl) rfl t0 (by simp)]
            simp [truthB, c]
          cases a <;> (
            simp [L17_0, h0, h6, h3, h5, hb, hbn, hbn1, hrn, hlt, hc, RS.cells, c, hlen, chunks, elems, allLen, hrb, hrl, hrl1, hrr, hrp, w0, w1, w2, w3, loadR_row, hxl, hyl, hx', hy', hl1, hl2, hl3, hsl]
            refine VP_appR (ys := boolsV t0) (by repeat (first | exact hpt.lst | refine Lst.grow ?_ | refine Lst.putN ?_ (by simp))) (by simp) (by simp) rfl (by simp) (by simp [boolsV]; unfold most; omega) fun v' H' wr rd r' xs' k2 k3 k4 => ?_
            simp [h0, h6, hw3, k3]
            refine hgo _ v' ?_ ?_ ?_ ?_ ?_ ?_ ?_
            · simp [h0]
            · simp
            · simp [h3]
            · have kb := k4 rp [.val (.int .i64 px), .val (.int .i64 py)] (by simp [hb, hrn, hrn', hbn, hbn1])
              simp [kb, k3]; omega
            · simp [k3]; omega
            · simp
            · rw [hfin]
              refine .inr ⟨r', xs', ?_⟩
              have := k2.grow (m := 0)
              simpa [boolsV] using this)
      · have hne : needsN q.op = 2 := by simp [needsN, c]
        obtain ⟨t1, b, rfl⟩ : ∃ t1 b, t = t1 ++ [b] := ⟨t.dropLast, t.getLast (by intro e; subst e; simp at hnn; omega), (List.dropLast_concat_getLast _).symm⟩
        obtain ⟨t0, a, rfl⟩ : ∃ t0 a, t1 = t0 ++ [a] := ⟨t1.dropLast, t1.getLast (by intro e; subst e; simp at hnn; omega), (List.dropLast_concat_getLast _).symm⟩
        rcases htr with ⟨_, h⟩ | ⟨r, xs, h⟩
        · simp at h
        · have hv := h.v
          have hrb := h.b
          have hrl := h.lt
          have hx := bools_get h.eq (i := t0.length) (b := a) (by simp)
          have hy := bools_get h.eq (i := t0.length + 1) (b := b) (by simp)
          have hle := h.le
          simp [boolsV] at hv hle
          have hrr : ¬ r = st.h.n := by omega
          have hrl1 : r < st.h.n + 1 := by omega
          have hrp : ¬ rp = r := fun e => by rw [e, hrb] at hb; cases hb
          have hti2 : t0.length < 32 := by simp at hti; omega
          have w0 : IntKind.i64.wrap (t0.length : Int) = t0.length := wrap64_id (by omega)
          have w1 : IntKind.i64.wrap ((t0.length : Int) + 1) = ((t0.length + 1 : Nat) : Int) := by rw [wrap64_id (by omega)]; rfl
          have w2 : IntKind.i64.wrap ((t0.length : Int) + 2 - 1) = ((t0.length + 1 : Nat) : Int) := by rw [wrap64_id (by omega)]; omega
          have w3 : IntKind.i64.wrap ((t0.length : Int) + 2 - 2) = t0.length := by rw [wrap64_id (by omega)]; omega
          have hxl : t0.length < xs.length := by omega
          have hyl : t0.length + 1 < xs.length := by omega
          have hx' : ∀ h, xs[t0.length]'h = [.val (.bool a)] := fun h => (List.getElem?_eq_some_iff.1 hx).2
          have hy' : ∀ h, xs[t0.length + 1]'h = [.val (.bool b)] := fun h => (List.getElem?_eq_some_iff.1 hy).2
          have hl1 : (t0.length : Int) < (t0.length : Int) + 2 := by omega
          have hl2 : (t0.length : Int) + 1 < (t0.length : Int) + 2 := by omega
          have hl3 : (0 : Int) ≤ (t0.length : Int) + 1 := by omega
          have hsl : ∀ H : Heap, H.at_ r = .row 1 xs true → sliceP H 1 (.sl r 1 xs.length 0 (t0.length + 2)) none (some t0.length) none = some (.sl r 1 xs.length 0 t0.length, [r]) := fun H e => slice_lo e rfl (by omega) (by omega)
          have hpt := h.part (m := t0.length) (by simp [boolsV])
          have hpb : (boolsV (t0 ++ [a] ++ [b])).take t0.length = boolsV t0 := by simp [boolsV]
          rw [hpb] at hpt
          rw [hv] at h5
          have hfin : stepT q.si px py (t0 ++ [a] ++ [b]) = t0 ++ [a || b] := by
            rw [stepT_eq q px py (t0 ++ [a] ++ [b]) [a, b] 2 (by rw [hne]; rfl) rfl t0 (by simp)]
            simp [truthB, c]
          cases a <;> (
            simp [L17_0, h0, h6, h3, h5, hb, hbn, hbn1, hrn, hlt, hc, RS.cells, c, hlen, chunks, elems, allLen, hrb, hrl, hrl1, hrr, hrp, w0, w1, w2, w3, loadR_row, hxl, hyl, hx', hy', hl1, hl2, hl3, hsl]
            refine VP_appR (ys := boolsV t0) (by repeat (first | exact hpt.lst | refine Lst.grow ?_ | refine Lst.putN ?_ (by simp))) (by simp) (by simp) rfl (by simp) (by simp [boolsV]; unfold most; omega) fun v' H' wr rd r' xs' k2 k3 k4 => ?_
            simp [h0, h6, hw3, k3]
            refine hgo _ v' ?_ ?_ ?_ ?_ ?_ ?_ ?_
            · simp [h0]
            · simp
            · simp [h3]
            · have kb := k4 rp [.val (.int .i64 px), .val (.int .i64 py)] (by simp [hb, hrn, hrn', hbn, hbn1])
              simp [kb, k3]; omega
            · simp [k3]; omega
            · simp
            · rw [hfin]
              refine .inr ⟨r', xs', ?_⟩
              have := k2.grow (m := 0)
              simpa [boolsV] using this)

theorem foldR_right : ∀ (l : List RS) (n m : Int), foldR (toSI l) n = some m → ∀ q ∈ l, q.si.right = true
  | [], n, m, h, q, hq => by cases hq
  | x :: l, n, m, h, q, hq => by
    have h' : (if x.si.right = false ∨ n < needsN x.op then none else foldR (toSI l) (n + (1 - needsN x.op))) = some m := h
    split at h'
    · cases h'
    · rename_i hno
      simp only [not_or, Bool.not_eq_false] at hno
      rcases List.mem_cons.1 hq with rfl | hq
      · exact hno.1
      · exact foldR_right l _ m h' q hq

theorem refHas_ans {l : List RS} (hr : zoneRight (toSI l) = true) {px py : Int} : ans (env P) 17 [.im (rsV l) false, placeV px py] = some (.val (.bool (zoneHas (toSI l) px py))) := by
  refine ans_V rfl rfl ?_
  have h1 := refRight_ans (P := P) (l := l)
  have h2 := refWhole_ans (P := P) (x := px) (y := py)
  rw [hr] at h1
  cases hw : (near px && near py) with
  | false =>
    rw [hw] at h2
    simp [c17, placeV, h1, h2, zoneHas, hr, hw]
  | true =>
    rw [hw] at h2
    have hz := hr
    simp only [zoneRight, Bool.and_eq_true, decide_eq_true_eq] at hz
    simp only [Bool.and_eq_true] at hw
    simp [c17, placeV, h1, h2]
    refine loop17 (px := px) (py := py) (foldR_right l 0 1 hz.2) (by simpa [toSI] using hz.1) hw.1 hw.2 1 0 l 0 [] _ _ rfl (by omega) hz.2 (by simp) (by simp) (by simp) (by simp) (by simp) (by simp) rfl (by simp; exact .inl ⟨rfl, rfl⟩) ?_
    intro st' v h5 htr
    have hlen := runT_length px py (toSI l) [] 1 hz.2
    obtain ⟨b0, hb0⟩ : ∃ b0, runT px py (toSI l) [] = [b0] := by
      match hh : runT px py (toSI l) [] with
      | [] => rw [hh] at hlen; simp at hlen
      | [b0] => exact ⟨b0, rfl⟩
      | _ :: _ :: _ => rw [hh] at hlen; simp at hlen; omega
    rw [hb0] at htr
    rcases htr with ⟨_, h⟩ | ⟨r, xs, h⟩
    · simp at h
    · have hv := h.v
      have hrb := h.b
      have hrl := h.lt
      have hx := bools_get h.eq (i := 0) (b := b0) (by simp)
      have hx' : ∀ h, xs[0]'h = [.val (.bool b0)] := fun h => (List.getElem?_eq_some_iff.1 hx).2
      have hle := h.le
      simp [boolsV] at hv hle
      rw [hv] at h5
      have hxl : 0 < xs.length := by omega
      simp [h5, hrb, hrl, loadR_row, hx', hxl, zoneHas, hr, hw, hb0]

end Go.Evl.Zone

/- ZoneHas: its function answers true. -/
namespace Go.Evl.Zone
open Go Go.Evl Go.Evl.Fl
set_option linter.unusedSimpArgs false
set_option linter.unusedVariables false
variable {P : Program}

theorem lt53 {n : Int} (h : -1099511627776 ≤ n ∧ n ≤ 1099511627776) : n.natAbs < 2 ^ 53 := by
  have h53 : (2 : Nat) ^ 53 = 9007199254740992 := by decide
  omega

theorem si_ok {l : List RS} (h : ∀ q ∈ l, q.inB) : ∀ q ∈ toSI l, q.ok := by
  intro q hq
  simp only [toSI, List.mem_map] at hq
  obtain ⟨r, hr, rfl⟩ := hq
  obtain ⟨h1, h2, h3, h4⟩ := h r hr
  simp only [near, Bool.and_eq_true, decide_eq_true_eq] at h1 h2
  exact ⟨Is.nearest (abs_lt53 (by omega)), Is.nearest (abs_lt53 (by omega)), Is.nearest (abs_lt53 (by omega))⟩

theorem si_in {l : List RS} (h : ∀ q ∈ l, q.inB) : ∀ q ∈ toSI l, ∀ z ∈ [q.x, q.y, q.s], -9223372036854775808 ≤ z ∧ z ≤ 9223372036854775807 := by
  intro q hq z hz
  simp only [toSI, List.mem_map] at hq
  obtain ⟨r, hr, rfl⟩ := hq
  obtain ⟨h1, h2, h3, h4⟩ := h r hr
  simp only [near, Bool.and_eq_true, decide_eq_true_eq] at h1 h2
  simp only [List.mem_cons, List.mem_nil_iff, or_false] at hz
  simp only [RS.si] at hz
  rcases hz with rfl | rfl | rfl <;> omega

theorem si_back (l : List RS) : (toSI l).map (fun q => (⟨q.op, q.x, q.y, q.s⟩ : RS)) = l := by
  simp only [toSI, List.map_map]
  exact (List.map_congr_left fun q _ => rfl).trans (List.map_id l)

theorem zoneHasEnd (T : Typed2 P) (T4 : P.underlying 4 = some .bool) (told : ans (env P) 12 [] = some (.val (.bool true))) {L : List RS} (hr : zoneRight (toSI L) = true) (hin : ∀ q ∈ L, q.inB) (hlen : L.length ≤ 100) {px py : Int} (hx : -1099511627776 ≤ px ∧ px ≤ 1099511627776) (hy : -1099511627776 ≤ py ∧ py ≤ 1099511627776) :
    ans (env P) 13 [.im (rsV L) false] = some (.im (stepsV (toSI L)) false) ∧ ans (env P) 14 [.im (stepsV (toSI L)) false] = some (.val (.bool true)) ∧ ans (env P) 16 [.agg [.val (.int .i64 px), .val (.int .i64 py)]] = some (.val (.complex .f64 (FloatKind.f64.nearest px) (FloatKind.f64.nearest py))) ∧
    ans (env P) 15 [.im (stepsV (toSI L)) false, .val (.complex .f64 (FloatKind.f64.nearest px) (FloatKind.f64.nearest py))] = some (.val (.bool (zoneHas (toSI L) px py))) ∧ ans (env P) 17 [.im (rsV L) false, .agg [.val (.int .i64 px), .val (.int .i64 py)]] = some (.val (.bool (zoneHas (toSI L) px py))) ∧
    ans (env P) 18 [.val (.complex .f64 (FloatKind.f64.nearest px) (FloatKind.f64.nearest py))] = some (.val (.bool (near px && near py))) ∧ ans (env P) 19 [.agg [.val (.int .i64 px), .val (.int .i64 py)]] = some (.val (.bool (near px && near py))) ∧
    ans (env P) 21 [.im (stepsV (toSI L)) false] = some (.im (rsV L) false) ∧ ans (env P) 20 [.im (rsV L) false, .im (rsV L) false] = some (.val (.bool true)) := by
  have ha : Is (FloatKind.f64.nearest px) px := Is.nearest (lt53 (by omega))
  have hb : Is (FloatKind.f64.nearest py) py := Is.nearest (lt53 (by omega))
  have hm : L.length ≤ most := by unfold most; omega
  have hok := si_ok hin
  refine ⟨to_ans T.toTyped hm, ?_, spot_ans T.toTyped, zoneHas_ans hok ha hb, refHas_ans hr, whole_is ha hb, refWhole_ans, ?_, ?_⟩
  · rw [zoneRight_ans hok, hr]
  · have h := from_ans (P := P) T.toTyped T.t33 hok (si_in hin) (by simpa [toSI] using hm)
    rw [si_back] at h
    exact h
  · have h := refSame_ans (P := P) T (l := L) (m := L) hm
    simpa using h

set_option maxRecDepth 20000 in
set_option maxHeartbeats 4000000 in
theorem zoneHasLaw_ans (T : Typed2 P) (T4 : P.underlying 4 = some .bool) (told : ans (env P) 12 [] = some (.val (.bool true))) {l : List RS} {px py : Int} {raw : Bool} : ans (env P) 3 [.im (rsV l) false, placeV px py, .val (.bool raw)] = some (.val (.bool true)) := by
  have hfix := fix_ans (P := P) T.toTyped (l := l)
  obtain ⟨f1, f2, f3⟩ := fix_right l
  generalize fix l = L at hfix f1 f2 f3
  have s1 : ∀ x y : Int, ans (env P) 11 [.agg [.val (.int .i64 x), .val (.int .i64 y)]] = some (.agg [.val (.int .i64 (spotN x)), .val (.int .i64 (spotN y))]) := fun x y => refSpot_ans T.toTyped
  have hbool : ∀ a b : Bool, evBin P .eql 4 false false (.val (.bool a)) (.val (.bool b)) = some (.val (.bool (a == b))) := fun a b => evBin_beql T4
  refine ans_V rfl rfl ?_
  obtain ⟨X, Y, hX, hraw⟩ : ∃ X Y : Int, (raw = false → X = spotN px ∧ Y = spotN py) ∧ (raw = true → X = px ∧ Y = py) := by
    cases raw
    · exact ⟨spotN px, spotN py, fun _ => ⟨rfl, rfl⟩, by simp⟩
    · exact ⟨px, py, by simp, fun _ => ⟨rfl, rfl⟩⟩
  by_cases c1 : 1099511627776 < X
  · cases raw
    · obtain ⟨rfl, rfl⟩ := hX rfl
      simp [c3, placeV, hfix, s1, told, c1]
    · obtain ⟨rfl, rfl⟩ := hraw rfl
      simp [c3, placeV, hfix, s1, told, c1]
  · by_cases c2 : X < -1099511627776
    · cases raw
      · obtain ⟨rfl, rfl⟩ := hX rfl
        simp [c3, placeV, hfix, s1, told, c1, c2]
      · obtain ⟨rfl, rfl⟩ := hraw rfl
        simp [c3, placeV, hfix, s1, told, c1, c2]
    · by_cases c3' : 1099511627776 < Y
      · cases raw
        · obtain ⟨rfl, rfl⟩ := hX rfl
          simp [c3, placeV, hfix, s1, told, c1, c2, c3']
        · obtain ⟨rfl, rfl⟩ := hraw rfl
          simp [c3, placeV, hfix, s1, told, c1, c2, c3']
      · by_cases c4 : Y < -1099511627776
        · cases raw
          · obtain ⟨rfl, rfl⟩ := hX rfl
            simp [c3, placeV, hfix, s1, told, c1, c2, c3', c4]
          · obtain ⟨rfl, rfl⟩ := hraw rfl
            simp [c3, placeV, hfix, s1, told, c1, c2, c3', c4]
        · obtain ⟨k1, k2, k3, k4, k5, k6, k7, k8, k9⟩ := zoneHasEnd T T4 told f1 f2 (by omega) (px := X) (py := Y) (by omega) (by omega)
          cases raw
          · obtain ⟨rfl, rfl⟩ := hX rfl
            simp [c3, placeV, hfix, s1, told, c1, c2, c3', c4, k1, k2, k3, k4, k5, k6, k7, k8, k9, hbool]
          · obtain ⟨rfl, rfl⟩ := hraw rfl
            simp [c3, placeV, hfix, s1, told, c1, c2, c3', c4, k1, k2, k3, k4, k5, k6, k7, k8, k9, hbool]

end Go.Evl.Zone

/- The zone statements at their door: the told functions at this program; what a row's list gives; the step from a law's answer to its row. -/
set_option linter.unusedVariables false
namespace Go.Evl.Zone
open Go Go.Evl Go.Proofs Go.RowKit Go.ChangeShapes Go.WideShapes Go.ChangeAt

noncomputable abbrev P0 : Program := Tryd.prog

/-- What is asked of the world at the door. -/
structure Wd (W : World) : Prop where
  m : ∃ m, W.cell? ⟨1, 0, none⟩ = some (.int .i64 m)
  e : ∃ u v, W.cell? ⟨2, 0, none⟩ = some (.iface u v)
  r : ∃ u v, W.cell? ⟨3, 0, none⟩ = some (.iface u v)
  t : Lib.TabIs P0 W "internal/strconv.uint64pow10" .u64 Lib.pow10Tab
  s : 7 ≤ W.heap.size

def InvW (W : World) (g : G) : Prop := ∀ b, b < W.heap.size → g.Z b ∧ g.w.heap[b]? = W.heap[b]?

theorem invW_ok (W : World) : InvOK (InvW W) where
  mono := fun g g' hW e h b hb => ⟨e.zin b (h b hb).1, (e.keepZ hW (h b hb).1).trans (h b hb).2⟩
  same := fun g g' hw hz h b hb => ⟨hz b (h b hb).1, by rw [hw]; exact (h b hb).2⟩

theorem invW_g0 (W : World) : InvW W (g0 W) := fun b hb => ⟨hb, rfl⟩

theorem InvW.cell {W : World} {g : G} (h : InvW W g) {a : Addr} (ha : a.block < W.heap.size) : g.w.cell? a = W.cell? a := World.cell?_of_block (w := W) (h a.block ha).2

theorem InvW.var {W : World} {g : G} (h : InvW W g) {n : String} {k : Nat} (hg : P0.globalNamed n = some k) (hk : k < W.heap.size) : g.w.var? P0 n = W.var? P0 n := by
  unfold World.var?
  rw [hg]
  simp only [Option.bind_some]
  rw [(h k hk).2]

/-- A told function that asks no memory. -/
def Still (p : List PV → Heap → Option ORes) : Prop := ∀ args, (∀ H, p args H = none) ∨ ∃ v, ∀ H, p args H = some ⟨v, H, [], some []⟩

theorem still_split : Still pSplit := by
  intro args
  unfold pSplit
  split
  · split
    · split
      · exact .inr ⟨_, fun _ => rfl⟩
      · exact .inl fun _ => rfl
    · exact .inl fun _ => rfl
  · exact .inl fun _ => rfl

theorem still_itoa : Still pItoa := by
  intro args
  unfold pItoa
  split
  · split
    · exact .inr ⟨_, fun _ => rfl⟩
    · exact .inl fun _ => rfl
  · exact .inl fun _ => rfl

theorem still_atoi : Still pAtoi := by
  intro args
  unfold pAtoi
  split
  · split
    · split
      · exact .inr ⟨_, fun _ => rfl⟩
      · exact .inr ⟨_, fun _ => rfl⟩
      · exact .inr ⟨_, fun _ => rfl⟩
    · exact .inl fun _ => rfl
  · exact .inl fun _ => rfl

theorem still_trunc : Still pTrunc := by
  intro args
  unfold pTrunc
  split
  · split
    · exact .inl fun _ => rfl
    · exact .inr ⟨_, fun _ => rfl⟩
  · exact .inl fun _ => rfl

theorem Still.out {p : List PV → Heap → Option ORes} (hs : Still p) {args : List PV} {H : Heap} {r : ORes} (h : p args H = some r) : r.h = H ∧ r.wr = [] ∧ ∀ H', p args H' = some ⟨r.v, H'.patch r.h r.wr, r.wr, r.rd⟩ := by
  rcases hs args with q | ⟨v, q⟩
  · rw [q] at h; cases h
  · rw [q] at h
    simp only [Option.some.injEq] at h
    subst h
    exact ⟨rfl, rfl, fun H' => by rw [patch_nil]; exact q H'⟩

theorem join_out {args : List PV} {H : Heap} {r : ORes} (h : pJoin args H = some r) : r.h = H ∧ r.wr = [] ∧ ∀ H', Agree H' H r.rd → pJoin args H' = some ⟨r.v, H'.patch r.h r.wr, r.wr, r.rd⟩ := by
  unfold pJoin at h
  split at h
  · simp at h
  · rename_i x q hnv
    split at h
    · rename_i xs is hel
      split at h
      · rename_i l hl
        split at h
        · rename_i hc
          simp only [Option.some.injEq] at h; subst h
          refine ⟨rfl, rfl, fun H' ha => ?_⟩
          rw [patch_nil]
          have hel' := elems_local hel (show ∀ i ∈ is, H'.at_ i = H.at_ i from ha.2)
          cases x with
          | val y => exact (hnv y rfl).elim
          | _ => simp only [pJoin, hel', hl, if_pos hc]
        · simp at h
      · simp at h
    · simp at h
  · simp at h

theorem prim_out {f : FuncId} {p : List PV → Heap → Option ORes} (hp : prim f = some p) {args : List PV} {H : Heap} {r : ORes} (h : p args H = some r) : r.h = H ∧ r.wr = [] ∧ ∀ H', Agree H' H r.rd → p args H' = some ⟨r.v, H'.patch r.h r.wr, r.wr, r.rd⟩ := by
  unfold prim at hp
  split at hp
  · cases hp; exact let ⟨a, b, c⟩ := still_split.out h; ⟨a, b, fun H' _ => c H'⟩
  · cases hp; exact join_out h
  · cases hp; exact let ⟨a, b, c⟩ := still_atoi.out h; ⟨a, b, fun H' _ => c H'⟩
  · cases hp; exact let ⟨a, b, c⟩ := still_itoa.out h; ⟨a, b, fun H' _ => c H'⟩
  · cases hp; exact let ⟨a, b, c⟩ := still_trunc.out h; ⟨a, b, fun H' _ => c H'⟩
  · cases hp

theorem prim_fr : PrimFr (env P0) where
  fr := fun f p hp args H r h => by
    obtain ⟨h1, h2, _⟩ := prim_out hp h
    rw [h1, h2]; exact Fr.refl _ _
  loc := fun f p hp args H r h _ => by
    obtain ⟨h1, h2, h3⟩ := prim_out hp h
    exact ⟨fun i _ => by rw [h1], h3⟩

theorem prim_dd : PrimDd (env P0) where
  dd := fun f p hp args H r h => by
    obtain ⟨h1, _, _⟩ := prim_out hp h
    rw [h1]; exact fun _ _ h => h

end Go.Evl.Zone

/- The zone statements at their door, second part: the told functions at this program. -/
set_option linter.unusedVariables false
namespace Go.Evl.Zone
open Go Go.Evl Go.Proofs Go.RowKit Go.ChangeShapes Go.WideShapes Go.ChangeAt
set_option maxRecDepth 100000

theorem ent37 : Proofs.Enters P0 37 := enters_of Tryd.func37 (by kernel_rfl) rfl
theorem ent42 : Proofs.Enters P0 42 := enters_of Tryd.func42 (by kernel_rfl) rfl
theorem ent50 : Proofs.Enters P0 50 := enters_of Tryd.func50 (by kernel_rfl) rfl
theorem ent54 : Proofs.Enters P0 54 := enters_of Tryd.func54 (by kernel_rfl) rfl
theorem gTab : P0.globalNamed "internal/strconv.uint64pow10" = some 6 := by kernel_rfl
theorem find56n : (Extern.findNext Tryd.f56).isNone = true := by kernel_rfl
theorem find56 : Extern.find Tryd.f56 = some (Extern.MathFloor.toIntegral "math.archTrunc" .zero) := by kernel_rfl
theorem name56 : (Tryd.f56.name == "runtime.NumGoroutine") = false := by kernel_rfl
theorem body56 : Tryd.f56.body.isNone = true := by kernel_rfl

theorem run56 (w : World) (args : Array Value) : (callFunc 56 args).run P0 w = (do return Next.value (← Extern.MathFloor.toIntegral "math.archTrunc" .zero args) : Sem Next).run P0 w := by
  have h1 : Extern.findNext Tryd.f56 = none := by simpa using find56n
  have h0 : Tryd.prog.funcs[56]? = some Tryd.f56 := Tryd.func56
  unfold callFunc
  simp only [Sem.run_bind]
  rw [show (program : Sem Program).run P0 w = .ok P0 w from rfl]
  simp only [Result.andThen_ok, h0, name56, body56, h1, find56]
  simp [mark]
  rfl

theorem prim_ok {W : World} (hw : Wd W) : PrimOK (env P0) (InvW W) where
  ok := by
    intro f p hp
    change prim f = some p at hp
    have hs := hw.s
    unfold prim at hp
    split at hp
    · cases hp
      refine split_ok (t := 9) ent37 fun g hg s sep h1 h2 => ?_
      obtain ⟨m, hm⟩ := hw.m
      exact Tryd.strings_Split s sep m g.w h1 (by rw [hg.cell (show (1 : Nat) < W.heap.size by omega)]; exact hm) h2
    · cases hp
      exact join_ok ent42 (fun g a c sep => Tryd.strings_Join_none a c sep g.w) fun g bk o c xs sep h1 h2 h3 h4 h5 => Tryd.strings_Join bk o c xs sep g.w h1 h2 h3 h4 h5
    · cases hp
      refine atoi_ok (t := 5) (ti := 107) ent50 (fun g s h v hv => Tryd.strconv_Atoi_ok s h v hv g.w) (fun g hg s h hv1 hv2 => ?_) fun g hg s h hx => ?_
      · obtain ⟨u, v, he⟩ := hw.e
        cases hx : Lib.atoiAll s.data.toList with
        | ok v => exact (hv1 v hx).elim
        | range => exact (hv2 hx).elim
        | _ =>
        refine (Any.strconv_Atoi_syntax Tryd.laysC172 s h hx (.iface u v) g.w (by rw [hg.cell (show (2 : Nat) < W.heap.size by omega)]; exact he) (.inr ⟨u, v, rfl⟩)).mono ?_
        rintro e w' ⟨N, h1, _, _, h2⟩
        exact ⟨⟨N, h1⟩, h2⟩
      · obtain ⟨u, v, he⟩ := hw.r
        refine (Any.strconv_Atoi_range Tryd.laysC172 s h hx (.iface u v) g.w (by rw [hg.cell (show (3 : Nat) < W.heap.size by omega)]; exact he) (.inr ⟨u, v, rfl⟩)).mono ?_
        rintro e w' ⟨N, h1, _, _, h2⟩
        exact ⟨⟨N, h1⟩, h2⟩
    · cases hp
      refine itoa_ok ent54 fun g hg n h1 h2 => ?_
      exact Tryd.strconv_Itoa n h1 h2 g.w (by unfold Lib.TabIs; rw [hg.var gTab (show (6 : Nat) < W.heap.size by omega)]; exact hw.t)
    · cases hp
      exact trunc_ok fun x w args => run56 w args
    · cases hp

/-- What the evaluator answers of these functions the machine answers. -/
theorem zone_calls {W : World} (hw : Wd W) {f : FuncId} {vs : List Value} {aa : List PV} {v : Value} (ha : Cs (g0 W) vs aa) (h : ans (env P0) f aa = some (.val v)) :
    Calls P0 f vs.toArray W fun e W' => e = .returned v ∧ Below W.heap.size W W' :=
  door_calls (E := env P0) (invW_ok W) tab_ok prim_fr prim_dd (prim_ok hw) (invW_g0 W) ha h

end Go.Evl.Zone

/- The zone statements at their door, third part: what a row's list gives; a world that holds it. -/
set_option linter.unusedVariables false
namespace Go.Evl.Zone
open Go Go.Evl Go.Proofs Go.RowKit Go.ChangeShapes Go.WideShapes Go.ChangeAt Go.Proofs.YtabelkgkonmihaaDoor
set_option maxRecDepth 100000

theorem own : ownKnob P0.godebug = none := by kernel_rfl
theorem laidOut : laidOutB P0 = true := by kernel_rfl
theorem gErr : P0.globalNamed "strconv.ErrSyntax" = some 2 := by kernel_rfl
theorem gErrR : P0.globalNamed "strconv.ErrRange" = some 3 := by kernel_rfl
theorem gErrRT : (P0.globals[3]?).map (·.type) = some 82 := by kernel_rfl
theorem gErrT : (P0.globals[2]?).map (·.type) = some 82 := by kernel_rfl
theorem gTabT : (P0.globals[6]?).map (·.type) = some 138 := by kernel_rfl
theorem cells138 : P0.cellsOf 138 = 20 := by kernel_rfl
theorem cells53 : P0.cellsOf 53 = 1 := by kernel_rfl
theorem u138 : P0.underlying 138 = some (.array 20 53) := by kernel_rfl

theorem iface_var {P : Program} {W : World} {n nm : String} {d : DataW Unit} {g : Nat} {ti : TypeId} {ms : Array (String × TypeId)} (h : Lib.VarReads P W n (.iface nm d)) (hg : P.globalNamed n = some g) (ht : (P.globals[g]?).map (·.type) = some ti) (hi : P.underlying ti = some (.interface ms)) :
    ∃ u v, W.var? P n = some #[.iface u v] := by
  obtain ⟨g', t', cs, fuel, p, h1, h2, h3, h4⟩ := h
  obtain rfl := Option.some.inj (hg.symm.trans h1)
  obtain rfl := Option.some.inj (ht.symm.trans h2)
  cases fuel with
  | zero => simp [DataW.trod] at h4
  | succ m =>
    unfold DataW.trod at h4
    rw [hi] at h4
    obtain ⟨l⟩ := cs
    simp only at h4
    split at h4 <;> simp_all

abbrev laidL : List (String × DataW Unit) := Rows.zoneDiscsRow.laid

theorem wd_of {W : World} (hL : laidMetH P0 laidL W) (hS : W.ShapedOpen P0) : Wd W := by
  have hL' : laidMet P0 laidL W := hL
  have ht : Lib.TabIs P0 W "internal/strconv.uint64pow10" .u64 Lib.pow10Tab := Lib.tabIs_of_head (g := 6) gTab gTabT u138 Tryd.underlying53 cells53 cells138 (show laidMet P0 (("internal/strconv.uint64pow10", Lib.tabData .u64 Lib.pow10Tab) :: laidL.drop 3) W from laidMet.tail (laidMet.tail hL'))
  have hsz : 6 < W.heap.size := by
    have h0 := ht
    unfold Lib.TabIs World.var? at h0
    rw [gTab] at h0
    simp only [Option.bind_some] at h0
    split at h0
    · rename_i hh; exact lt_of_heap hh
    · cases h0
  refine ⟨Tryd.laysM146.s1_3 W hS, ?_, ?_, ht, hsz⟩
  · obtain ⟨u, v, he⟩ := iface_var (Lib.laidMet.reads hL' (n := "strconv.ErrSyntax") (.tail _ (.tail _ (.tail _ (.tail _ (.tail _ (.head _))))))) gErr gErrT Tryd.underlying82
    exact ⟨u, v, by simpa using World.var?_cell gErr he 0⟩
  · obtain ⟨u, v, he⟩ := iface_var (Lib.laidMet.reads hL' (n := "strconv.ErrRange") (.tail _ (.tail _ (.tail _ (.tail _ (.head _)))))) gErrR gErrRT Tryd.underlying82
    exact ⟨u, v, by simpa using World.var?_cell gErrR he 0⟩

/-! ### A world for the witness -/

noncomputable def put (h : Array Obj) (g : Nat) (cs : Array Value) : Array Obj := h.modify g fun
  | .cells _ t frozen => .cells cs t frozen
  | o => o

noncomputable def laidWorld (os : Os) : World :=
  let N := (World.settled P0 os).heap.size
  let w0 := World.holding P0 os ⟨#[.cells #[.string ⟨#[105, 110, 118, 97, 108, 105, 100, 32, 115, 121, 110, 116, 97, 120]⟩] 136, .cells #[.string ⟨#[118, 97, 108, 117, 101, 32, 111, 117, 116, 32, 111, 102, 32, 114, 97, 110, 103, 101]⟩] 136], #[], []⟩
  let nums (k : IntKind) (l : List Nat) : Array Value := (l.map fun (z : Nat) => Value.int k (z : Int)).toArray
  let h1 := put w0.heap 2 #[.iface 134 (.pointer (some ⟨N, 0, none⟩))]
  let h2 := put h1 3 #[.iface 134 (.pointer (some ⟨N + 1, 0, none⟩))]
  let h3 := put h2 4 (nums .u8 Pinned.utf8FirstZ)
  let h4 := put h3 5 (nums .u8 [128, 191, 160, 191, 128, 159, 144, 191, 128, 143, 0, 0, 0, 0, 0, 0, 0, 0, 0, 0, 0, 0, 0, 0, 0, 0, 0, 0, 0, 0, 0, 0])
  let h5 := put h4 6 (Lib.pow10Tab.map fun z => Value.int .u64 z).toArray
  let h6 := put h5 7 (nums .u8 [0, 1, 28, 2, 29, 14, 24, 3, 30, 22, 20, 15, 25, 17, 4, 8, 31, 27, 13, 23, 21, 19, 16, 7, 26, 12, 18, 6, 11, 5, 10, 9])
  let h7 := put h6 8 (nums .u8 [0, 1, 56, 2, 57, 49, 28, 3, 61, 58, 42, 50, 38, 29, 17, 4, 62, 47, 59, 36, 45, 43, 51, 22, 53, 39, 33, 30, 24, 18, 12, 5, 63, 55, 48, 27, 60, 41, 37, 16, 46, 35, 44, 21, 52, 32, 23, 11, 54, 26, 40, 15, 34, 20, 31, 10, 25, 14, 19, 9, 13, 8, 7, 6])
  { w0 with heap := h7 }

theorem laid_met (os : Os) (args : Array Value) : laidMet P0 laidL ((laidWorld os).forCall (fun _ _ => 0) ⟨#[], args, []⟩).memory :=
  laidMet_of_run' 8 (by kernel_rfl) (by kernel_rfl)

end Go.Evl.Zone

/- The zone statements at their door, fourth part: from a law's answer to its row. -/
set_option linter.unusedVariables false
namespace Go.Evl.Zone
open Go Go.Evl Go.Proofs Go.RowKit Go.ChangeShapes Go.WideShapes Go.ChangeAt Go.Proofs.YtabelkgkonmihaaDoor
set_option maxRecDepth 100000

/-- A law's function answers true of all that can come in. -/
def LawOK (k : FuncId) (ts : List TypeId) : Prop := ∀ aa, FitAll P0 6 ts aa → ans (env P0) k aa = some (.val (.bool true))

theorem lift {H : Type} {enc : TypeId × Value → H} {os : Os} (started : os.Started) {k : FuncId} {fn : Func} {s : ChangeSpec} {F : Stop.Interp} (hfn : P0.funcs[k]? = some fn) (noInit : P0.inits.idxOf? k = none) (hvars : s.vars = [])
    (hspec : ∀ ds : List (DataW H), ds.length = fn.params.toList.length → s.fn H ds = { results := [.lit (.bool true)], args := ds }) (hres : fn.resultTypes = #[4])
    (hrd : (fn.params.toList.all fun t => rdB P0 6 t && P0.readableRec t && decide (t < P0.types.size)) = true) (hlaw : LawOK k fn.params.toList) (wargs : Array Value)
    (hok : Input.okWideB P0 ((laidWorld os).forCall (fun _ _ => 0) ⟨#[], wargs, []⟩) k ⟨#[], wargs, []⟩ = true)
    (hvr : ((laidWorld os).forCall (fun _ _ => 0) ⟨#[], wargs, []⟩).variablesRefB P0 = true)
    (hhp : ((((laidWorld os).forCall (fun _ _ => 0) ⟨#[], wargs, []⟩).heap.toList.drop P0.globals.size).take ((begin P0 (fun _ _ => 0) default).world.heap.size - P0.globals.size) = (begin P0 (fun _ _ => 0) default).world.heap.toList.drop P0.globals.size))
    (hrow : (OpenSpec.ofChange s).preRow enc P0 fn [] false laidL ((laidWorld os).forCall (fun _ _ => 0) ⟨#[], wargs, []⟩).memory wargs) :
    ReturnsInHanded {} Tryd.checked os k .any ((OpenSpec.ofChange s).preRow enc P0 fn [] false laidL) (((OpenSpec.ofChange s).at F).post enc P0 fn false true false false) := by
  refine returnsInHanded_of_row (C := Tryd.checked) (s := OpenSpec.ofChange s) own started noInit hfn (witness_row_atRef (enc := enc) (C := Tryd.checked) false (laidWorld os) wargs rfl hvr hhp hok hrow) ?_
  intro W base args ds gs before hval hW _ _ _ hL hS _
  have hrd' : ∀ t ∈ fn.params.toList, rdB P0 6 t = true ∧ P0.readableRec t = true ∧ t < P0.types.size := fun t ht => by
    have := List.all_eq_true.1 hrd t ht
    simp only [Bool.and_eq_true, decide_eq_true_eq] at this
    exact ⟨this.1.1, this.1.2, this.2⟩
  have hW0 : DataW.Whole enc P0 fn.params.toList s.vars false W args.toList ds gs before := hW
  have hW1 := hW0
  obtain ⟨p, q, hA, hV, _, _, _⟩ := hW1
  rw [hvars] at hV
  obtain ⟨rfl, _⟩ := trodVars_none hV
  obtain ⟨aa, hc, hfit⟩ := args_read (fun t ht => (hrd' t ht).1) (fun j t v a b => hval j t v (by simpa using a) (by simpa using b)) hA
  have hlen : ∀ {ts : List TypeId} {vs : List Value} {ds : List (DataW H)} {ps : List MemPlace}, DataW.TrodAll enc P0 W 0 (fun _ => true) true ts vs ds ps → ds.length = ts.length := by
    intro ts
    induction ts with
    | nil => intro vs ds ps h; match vs, ds, h with | [], [], _ => rfl
    | cons t ts ih => intro vs ds ps h; match vs, ds, h with | _ :: _, _ :: _, ⟨_, _, _, h2, _⟩ => simp [ih h2]
  have hcall := zone_calls (wd_of hL hS) (f := k) (vs := args.toList) hc (hlaw aa hfit)
  rw [Array.toArray_toList] at hcall
  refine hcall.mono ?_
  rintro e W' ⟨rfl, hb⟩
  refine ⟨_, rfl, ?_⟩
  exact law_post (s := s) (tb := 4) laidOut hW0 hvars (by rw [List.append_nil]; exact hspec ds (hlen hA)) hres Tryd.underlying4 (fun t ht => ⟨(hrd' t ht).2.1, (hrd' t ht).2.2⟩) hb

end Go.Evl.Zone

/- The zone statements at their door, fifth part: what comes in; the program's types. -/
set_option linter.unusedVariables false
namespace Go.Evl.Zone
open Go Go.Evl Go.Evl.Zone Go.Proofs Go.RowKit Go.ChangeShapes Go.WideShapes Go.ChangeAt Go.Proofs.YtabelkgkonmihaaDoor
set_option maxRecDepth 100000

theorem typed : Typed P0 := ⟨Tryd.underlying3, Tryd.underlying5, Tryd.underlying53, Tryd.underlying41⟩

theorem typed2 : Typed2 P0 where
  toTyped := typed
  t33 := Tryd.underlying33
  t59 := ⟨_, Tryd.underlying59, by kernel_rfl, by kernel_rfl⟩
  h59 := by kernel_rfl
  g59 := by kernel_rfl

theorem fit_int {p : PV} {n : Nat} (h : FitV P0 (n + 1) 3 p) : ∃ m, p = .val (.int .i64 m) ∧ -9223372036854775808 ≤ m ∧ m ≤ 9223372036854775807 := by
  unfold FitV at h
  rw [Tryd.underlying3] at h
  unfold Fit at h
  rw [Tryd.underlying3] at h
  obtain ⟨m, h1, h2, h3⟩ := h
  simp at h1
  exact ⟨m, h1, h2, h3⟩

theorem fit_bool {p : PV} {n : Nat} (h : FitV P0 (n + 1) 4 p) : ∃ b, p = .val (.bool b) := by
  unfold FitV at h
  rw [Tryd.underlying4] at h
  unfold Fit at h
  rw [Tryd.underlying4] at h
  obtain ⟨b, h1⟩ := h
  simp at h1
  exact ⟨b, h1⟩

theorem fit_string {p : PV} {n : Nat} (h : FitV P0 (n + 1) 9 p) : ∃ s : ByteArray, p = .val (.string s) ∧ s.size ≤ maxLen := by
  unfold FitV at h
  rw [Tryd.underlying9] at h
  unfold Fit at h
  rw [Tryd.underlying9] at h
  obtain ⟨s, h1, h2⟩ := h
  simp at h1
  exact ⟨s, h1, h2⟩

theorem fit_float {p : PV} {n : Nat} (h : FitV P0 (n + 1) 41 p) : ∃ b, p = .val (.float .f64 b) ∧ b < 2 ^ 64 := by
  unfold FitV at h
  rw [Tryd.underlying41] at h
  unfold Fit at h
  rw [Tryd.underlying41] at h
  obtain ⟨s, h1, h2⟩ := h
  simp at h1
  exact ⟨s, h1, by simpa [Lit.wf] using h2⟩

theorem fitL_int {n : Nat} {ts : List TypeId} {ps : List PV} (h : FitL (Fit P0 (n + 1)) (3 :: ts) ps) : ∃ m qs, ps = .val (.int .i64 m) :: qs ∧ FitL (Fit P0 (n + 1)) ts qs ∧ -9223372036854775808 ≤ m ∧ m ≤ 9223372036854775807 := by
  obtain ⟨a, b, rfl, h1, h2⟩ := h
  unfold Fit at h1
  rw [Tryd.underlying3] at h1
  obtain ⟨m, rfl, h3, h4⟩ := h1
  exact ⟨m, b, rfl, h2, h3, h4⟩

theorem fit_place {p : PV} {n : Nat} (h : FitV P0 (n + 2) 24 p) : ∃ x y, p = placeV x y ∧ -9223372036854775808 ≤ x ∧ x ≤ 9223372036854775807 ∧ -9223372036854775808 ≤ y ∧ y ≤ 9223372036854775807 := by
  unfold FitV at h
  rw [Tryd.underlying24] at h
  obtain ⟨ps, rfl, h⟩ := h
  unfold Fit at h
  rw [Tryd.underlying24] at h
  obtain ⟨x, qs, rfl, h, x1, x2⟩ := fitL_int (ts := [3]) h
  obtain ⟨y, qs, rfl, h, y1, y2⟩ := fitL_int (ts := []) h
  cases h
  exact ⟨x, y, rfl, x1, x2, y1, y2⟩

def RS.fits (q : RS) : Prop := ∀ z ∈ [q.op, q.x, q.y, q.s], -9223372036854775808 ≤ z ∧ z ≤ 9223372036854775807

theorem fit_step {ps : List PV} {n : Nat} (h : Fit P0 (n + 2) 59 ps) : ∃ q : RS, ps = q.cells ∧ q.fits := by
  unfold Fit at h
  rw [Tryd.underlying59] at h
  obtain ⟨a, qs, rfl, h, a1, a2⟩ := fitL_int (ts := [3, 3, 3]) h
  obtain ⟨x, qs, rfl, h, x1, x2⟩ := fitL_int (ts := [3, 3]) h
  obtain ⟨y, qs, rfl, h, y1, y2⟩ := fitL_int (ts := [3]) h
  obtain ⟨z, qs, rfl, h, z1, z2⟩ := fitL_int (ts := []) h
  cases h
  refine ⟨⟨a, x, y, z⟩, rfl, fun w hw => ?_⟩
  simp only [List.mem_cons, List.mem_nil_iff, or_false] at hw
  rcases hw with rfl | rfl | rfl | rfl
  · exact ⟨a1, a2⟩
  · exact ⟨x1, x2⟩
  · exact ⟨y1, y2⟩
  · exact ⟨z1, z2⟩

theorem map_of_all {α β : Type} {f : α → β} {Q : α → Prop} : ∀ {xs : List β}, (∀ x ∈ xs, ∃ a, x = f a ∧ Q a) → ∃ l : List α, xs = l.map f ∧ ∀ a ∈ l, Q a
  | [], _ => ⟨[], rfl, by simp⟩
  | x :: xs, h => by
    obtain ⟨a, rfl, ha⟩ := h x (by simp)
    obtain ⟨l, rfl, hl⟩ := map_of_all (xs := xs) fun y hy => h y (by simp [hy])
    exact ⟨a :: l, rfl, fun b hb => by rcases List.mem_cons.1 hb with rfl | hb; exact ha; exact hl b hb⟩

theorem fit_steps {p : PV} {n : Nat} (h : FitV P0 (n + 3) 22 p) : ∃ l : List RS, p = .im (rsV l) false ∧ l.length ≤ maxLen ∧ ∀ q ∈ l, q.fits := by
  unfold FitV at h
  rw [Tryd.underlying22] at h
  unfold Fit at h
  rw [Tryd.underlying22] at h
  obtain ⟨xs, h1, h2, h3⟩ := h
  simp at h1
  obtain ⟨l, rfl, hl⟩ := map_of_all (f := RS.cells) (Q := RS.fits) fun x hx => fit_step (h3 x hx)
  exact ⟨l, h1, by simpa using h2, hl⟩

end Go.Evl.Zone

/- The zone statements: are two zones the same; a zone that is turned. -/
namespace Go.Evl.Zone
open Go Go.Evl Go.Evl.Fl
set_option linter.unusedSimpArgs false
set_option linter.unusedVariables false
variable {P : Program}

/-- What is asked of the program's type of a step. -/
structure Typed3 (P : Program) : Prop extends Typed2 P where
  t51 : ∃ fs : Array Field, P.underlying 51 = some (.struct fs) ∧ fs.toList.map (fun f => (f.type, f.offset)) = [(3, 0), (33, 1), (41, 2)] ∧ (fs.toList.all fun f => f.name != "_") = true
  h51 : P.stoodInHeld 51 = false
  g51 : P.eqGuardType P.depth 51 = false

def SI.rs (q : SI) : RS := ⟨q.op, q.x, q.y, q.s⟩

theorem floatEq_is {a b : Nat} {m n : Int} (ha : Is a m) (hb : Is b n) : Op.floatEq .f64 a b = decide (m = n) := by
  have ho : FloatKind.f64.format.order a b = some (compare m n) := ha.order hb
  unfold Op.floatEq
  rw [ho]
  simp only [compare, compareOfLessAndEq]
  rcases Int.lt_trichotomy m n with h | h | h
  · have h3 : ¬ m = n := by omega
    simp [h, h3]
  · subst h; simp
  · have h0 : ¬ m < n := by omega
    have h3 : ¬ m = n := by omega
    simp [h0, h3]

theorem fields3 {fs : List Field} {a b c : TypeId × Nat} (h : fs.map (fun f => (f.type, f.offset)) = [a, b, c]) (hn : (fs.all fun f => f.name != "_") = true) : ∃ f0 f1 f2 : Field, fs = [f0, f1, f2] ∧ ((f0.type, f0.offset) = a ∧ (f0.name == "_") = false) ∧ ((f1.type, f1.offset) = b ∧ (f1.name == "_") = false) ∧ ((f2.type, f2.offset) = c ∧ (f2.name == "_") = false) := by
  match fs, h, hn with
  | [f0, f1, f2], h, hn =>
    simp only [List.map_cons, List.map_nil, List.cons.injEq, and_true] at h
    simp only [List.all_cons, List.all_nil, Bool.and_true, Bool.and_eq_true, bne, Bool.not_eq_true'] at hn
    exact ⟨f0, f1, f2, rfl, ⟨h.1, hn.1⟩, ⟨h.2.1, hn.2.1⟩, ⟨h.2.2, hn.2.2⟩⟩

theorem si_neq (T : Typed3 P) {cx cy : Bool} {a b : SI} (ha : a.ok) (hb : b.ok) : evBin P .neq 51 cx cy (.agg a.cells) (.agg b.cells) = some (.val (.bool (decide (a.rs ≠ b.rs)))) := by
  obtain ⟨fs, ht, hf, hn⟩ := T.t51
  obtain ⟨f0, f1, f2, hfs, ⟨e0, n0⟩, ⟨e1, n1⟩, ⟨e2, n2⟩⟩ := fields3 hf hn
  simp only [Prod.mk.injEq] at e0 e1 e2
  have h3 : ∀ {cs : Array Value} {o : Nat} {v : Value}, cs[o]? = some v → pureRun P (part 3 cs o) = some v := fun hx => pureRun_part T.t3 rfl hx
  have h33 : ∀ {cs : Array Value} {o : Nat} {v : Value}, cs[o]? = some v → pureRun P (part 33 cs o) = some v := fun hx => pureRun_part T.t33 rfl hx
  have h41 : ∀ {cs : Array Value} {o : Nat} {v : Value}, cs[o]? = some v → pureRun P (part 41 cs o) = some v := fun hx => pureRun_part T.t41 rfl hx
  have key : pureRun P (Op.eqFields 9999 #[.int .i64 a.op, .complex .f64 a.re a.im, .float .f64 a.sz] #[.int .i64 b.op, .complex .f64 b.re b.im, .float .f64 b.sz] fs.toList) = some ((a.op == b.op) && ((Op.floatEq .f64 a.re b.re && Op.floatEq .f64 a.im b.im) && (Op.floatEq .f64 a.sz b.sz && true))) := by
    rw [hfs]
    refine pureRun_eqCons n0 (by rw [e0.1, e0.2]; exact h3 rfl) (by rw [e0.1, e0.2]; exact h3 rfl) (by rw [e0.1]; exact pureRun_equal_int T.t3) ?_
    refine pureRun_eqCons n1 (by rw [e1.1, e1.2]; exact h33 rfl) (by rw [e1.1, e1.2]; exact h33 rfl) (by rw [e1.1]; exact pureRun_equal_complex T.t33) ?_
    exact pureRun_eqCons n2 (by rw [e2.1, e2.2]; exact h41 rfl) (by rw [e2.1, e2.2]; exact h41 rfl) (by rw [e2.1]; exact pureRun_equal_float T.t41) pureRun_eqNil
  rw [(evBin_struct_eql (vs := [.int .i64 a.op, .complex .f64 a.re a.im, .float .f64 a.sz]) (us := [.int .i64 b.op, .complex .f64 b.re b.im, .float .f64 b.sz]) ht T.h51 T.g51 rfl rfl key).2]
  rw [floatEq_is ha.1 hb.1, floatEq_is ha.2.1 hb.2.1, floatEq_is ha.2.2 hb.2.2]
  congr 3
  rw [Bool.eq_iff_iff]
  simp [SI.rs, RS.mk.injEq, or_assoc]

theorem loop45 (T : Typed3 P) {L M : List SI} (hok : ∀ q ∈ L, q.ok) (hom : ∀ q ∈ M, q.ok) {ks : List Fr'} {K : Ex → St → Prop} (hlen : L.length = M.length) (hL : L.length ≤ most) : ∀ (rest : List SI) (i : Nat) (st : St), L.drop i = rest → i ≤ L.length → (L.take i).map SI.rs = (M.take i).map SI.rs → st.σ 0 = .im (stepsV L) false → st.σ 1 = .im (stepsV M) false → st.σ 12 = .val (.int .i64 L.length) → st.σ 13 = .val (.int .i64 i) →
    (∀ st', L.map SI.rs ≠ M.map SI.rs → st'.σ 4 = .val (.bool false) → K .ret st') → (∀ st', L.map SI.rs = M.map SI.rs → VN (env P) 45 st' ks K) → V (env P) 45 (.loop L45_0) st (.blk 0 :: ks) K
  | [], i, st, hr, hi, hp, h0, h1, h12, h13, hret, hend => by
    obtain ⟨he, hlt, ht⟩ := drop_nil hr hi
    rw [V_loop]
    simp [L45_0, h0, h12, h13, hlt]
    refine hend _ ?_
    rw [ht, he, hlen, List.take_length] at hp
    exact hp
  | q :: rest, i, st, hr, hi, hp, h0, h1, h12, h13, hret, hend => by
    obtain ⟨hq, hlt, hr', ht⟩ := drop_cons hr
    have hc : ∀ h, (stepsV L)[i]'h = q.cells := fun h => (List.getElem?_eq_some_iff.1 (stepsV_get hq)).2
    have hm : M[i]? = some (M[i]'(by omega)) := List.getElem?_eq_getElem (by omega)
    generalize M[i]'(by omega) = m at hm
    have hd : ∀ h, (stepsV M)[i]'h = m.cells := fun h => (List.getElem?_eq_some_iff.1 (stepsV_get hm)).2
    have hltM : i < M.length := by omega
    have hn := si_neq T (cx := false) (cy := false) (hok q (List.mem_of_getElem? hq)) (hom m (List.mem_of_getElem? hm))
    have hw3 := wrapS (i := i) (by unfold most at hL; omega)
    rw [V_loop]
    by_cases hqm : q.rs = m.rs
    · rw [decide_eq_false (by simp [hqm])] at hn
      simp [SI.cells] at hn
      simp [L45_0, h0, h1, h12, h13, hlt, hltM, hc, hd, hn, hw3, SI.cells]
      refine loop45 T hok hom hlen hL rest (i + 1) _ hr' (by omega) ?_ ?_ ?_ ?_ ?_ hret hend
      · rw [ht, List.take_add_one, hm, List.map_append, List.map_append, hp]; simp [hqm]
      · simp [h0]
      · simp [h1]
      · simp [h12]
      · simp
    · rw [decide_eq_true (by simpa using hqm)] at hn
      simp [SI.cells] at hn
      simp [L45_0, h0, h1, h12, h13, hlt, hltM, hc, hd, hn, hw3, SI.cells]
      refine hret _ ?_ (by simp)
      intro e
      have e2 := congrArg (fun l => l[i]?) e
      simp [hq, hm] at e2
      exact hqm e2

theorem zsame_ans (T : Typed3 P) {L M : List SI} (hok : ∀ q ∈ L, q.ok) (hom : ∀ q ∈ M, q.ok) (hL : L.length ≤ most) : ans (env P) 29 [.im (stepsV L) false, .im (stepsV M) false] = some (.val (.bool (decide (L.map SI.rs = M.map SI.rs)))) := by
  have h45 : ans (env P) 45 [.im (stepsV L) false, .im (stepsV M) false] = some (.val (.bool (decide (L.map SI.rs = M.map SI.rs)))) := by
    refine ans_V rfl rfl ?_
    by_cases hlen : L.length = M.length
    · have hlen' : (L.length : Int) = (M.length : Int) := by omega
      simp [c45, hlen']
      refine loop45 T hok hom hlen hL L 0 _ rfl (by omega) rfl (by simp) (by simp) (by simp [hlen']) (by simp) ?_ ?_
      · intro st' hne h4; simp [h4, hne]
      · intro st' he; simp [he]
    · have hlen' : ¬ (L.length : Int) = (M.length : Int) := by omega
      have hne : L.map SI.rs ≠ M.map SI.rs := fun e => hlen (by simpa using congrArg List.length e)
      simp [c45, hlen', hne]
  refine ans_V rfl rfl ?_
  simp [c29, h45]

/-! ### Turned by a quarter -/

def turn (q : RS) : RS := ⟨q.op, -q.y, q.x, q.s⟩

theorem loop30 {L : List RS} (hin : ∀ q ∈ L, q.inB) {ks : List Fr'} {K : Ex → St → Prop} (hL : L.length ≤ most) : ∀ (rest : List RS) (i : Nat) (st : St) (v : PV), L.drop i = rest → i ≤ L.length → st.σ 0 = .im (rsV L) false → st.σ 4 = .val (.int .i64 i) → st.σ 3 = v → Lst st.h 4 v (rsV ((L.take i).map turn)) →
    (∀ st' v, st'.σ 3 = v → Lst st'.h 4 v (rsV (L.map turn)) → VN (env P) 30 st' ks K) → V (env P) 30 (.loop L30_0) st (.blk 0 :: ks) K
  | [], i, st, v, hr, hi, h0, h4, h3, hl, hend => by
    obtain ⟨_, hlt, ht⟩ := drop_nil hr hi
    rw [ht] at hl
    rw [V_loop]
    simp [L30_0, h0, h4, hlt]
    exact hend _ v (by simp [h3]) (by simpa using hl.grow)
  | q :: rest, i, st, v, hr, hi, h0, h4, h3, hl, hend => by
    obtain ⟨hq, hlt, hr', ht⟩ := drop_cons hr
    have hc := fun h => rsV_at hq h
    obtain ⟨b1, b2, _⟩ := hin q (List.mem_of_getElem? hq)
    simp only [near, Bool.and_eq_true, decide_eq_true_eq] at b1 b2
    have hw3 := wrapS (i := i) (by unfold most at hL; omega)
    have wn : IntKind.i64.wrap (-q.y) = -q.y := wrap64_id (by omega)
    rw [V_loop]
    simp [L30_0, h0, h4, h3, hlt, hc, RS.cells, wn, chunks, elems, allLen]
    refine VP_app (ys := rsV ((L.take i).map turn)) (by repeat (first | exact hl | refine Lst.grow ?_ | refine Lst.putN ?_ (by simp))) (by simp) (by simp) rfl (by simp; omega) fun v' H' wr rd e2 e3 _ => ?_
    simp [h0, h4, hw3, e3]
    refine loop30 hin hL rest (i + 1) _ v' hr' (by omega) ?_ ?_ ?_ ?_ hend
    · simp [h0]
    · simp
    · simp
    · rw [ht, show ∀ A B : List RS, rsV ((A ++ B).map turn) = rsV (A.map turn) ++ rsV (B.map turn) from fun A B => by simp [rsV]]
      exact e2.grow

theorem turned_ans {L : List RS} (hin : ∀ q ∈ L, q.inB) (hL : L.length ≤ most) : ans (env P) 30 [.im (rsV L) false] = some (.im (rsV (L.map turn)) false) := by
  refine ans_V rfl rfl ?_
  simp [c30]
  refine loop30 hin hL L 0 _ _ rfl (by omega) (by simp) (by simp) rfl ?_ ?_
  · simp; exact Lst.nil
  · intro st' v h3 hl'
    simp [h3]
    exact (hl'.grow (m := 0)).expV (plainss_rs _)

theorem everywhere_ans : ans (env P) 22 [] = some (.im (stepsV [⟨1, 0, 0, 0, 0, 0, 0⟩]) false) := by
  refine ans_V rfl rfl ?_
  simp [c22, chunks, stepsV, SI.cells]

end Go.Evl.Zone

/- ZoneTurns: its function answers true. -/
namespace Go.Evl.Zone
open Go Go.Evl Go.Evl.Fl
set_option linter.unusedSimpArgs false
set_option linter.unusedVariables false
variable {P : Program}

theorem near_neg {n : Int} : near (-n) = near n := by
  unfold near; rw [Bool.eq_iff_iff]; simp only [Bool.and_eq_true, decide_eq_true_eq]; omega

theorem turn_right (q : RS) : (turn q).si.right = q.si.right := by
  show rightB q.op (-q.y) q.x q.s = rightB q.op q.x q.y q.s
  unfold rightB
  rw [near_neg, Bool.and_comm (near q.y)]
  have : decide (-q.y = 0) = decide (q.y = 0) := decide_eq_decide.2 (by omega)
  rw [this, Bool.and_comm (decide (q.y = 0))]

theorem turn_fold : ∀ (l : List RS) (n : Int), foldR (toSI (l.map turn)) n = foldR (toSI l) n
  | [], n => rfl
  | q :: l, n => by
    show (if (turn q).si.right = false ∨ n < needsN q.op then none else foldR (toSI (l.map turn)) (n + (1 - needsN q.op))) = (if q.si.right = false ∨ n < needsN q.op then none else foldR (toSI l) (n + (1 - needsN q.op)))
    rw [turn_right, turn_fold l]

theorem turn_zone (l : List RS) : zoneRight (toSI (l.map turn)) = zoneRight (toSI l) := by
  unfold zoneRight
  rw [turn_fold]
  simp [toSI]

theorem turn_truth (q : RS) (px py : Int) (t : List Bool) : (turn q).si.truth (-py) px t = q.si.truth px py t := by
  show truthB q.op (-q.y) q.x q.s (-py) px t = truthB q.op q.x q.y q.s px py t
  unfold truthB
  have e1 : (-py - -q.y) * (-py - -q.y) + (px - q.x) * (px - q.x) = (px - q.x) * (px - q.x) + (py - q.y) * (py - q.y) := by
    have : -py - -q.y = -(py - q.y) := by omega
    rw [this, Int.neg_mul_neg, Int.add_comm]
  have e2 : -py * -q.y + px * q.x = px * q.x + py * q.y := by rw [Int.neg_mul_neg, Int.add_comm]
  rw [e1, e2]

theorem turn_step (q : RS) (px py : Int) (t : List Bool) : stepT (turn q).si (-py) px t = stepT q.si px py t := by
  unfold stepT
  rw [turn_truth]
  rfl

theorem turn_run (px py : Int) : ∀ (l : List RS) (t : List Bool), runT (-py) px (toSI (l.map turn)) t = runT px py (toSI l) t
  | [], t => rfl
  | q :: l, t => by
    show runT (-py) px (toSI (l.map turn)) (stepT (turn q).si (-py) px t) = runT px py (toSI l) (stepT q.si px py t)
    rw [turn_step, turn_run px py l]

theorem turn_has (l : List RS) (px py : Int) : zoneHas (toSI (l.map turn)) (-py) px = zoneHas (toSI l) px py := by
  unfold zoneHas
  rw [turn_zone, turn_run, near_neg, Bool.and_comm (near py)]

theorem turn4 (q : RS) : turn (turn (turn (turn q))) = q := by
  obtain ⟨a, b, c, d⟩ := q
  simp [turn]

theorem turn_in {l : List RS} (h : ∀ q ∈ l, q.inB) : ∀ q ∈ l.map turn, q.inB := by
  intro q hq
  obtain ⟨r, hr, rfl⟩ := List.mem_map.1 hq
  obtain ⟨h1, h2, h3, h4⟩ := h r hr
  exact ⟨by show near (-r.y) = true; rw [near_neg]; exact h2, h1, h3, h4⟩

theorem is1 : Is 4607182418800017408 1 := is_const (n := 1) (by decide +kernel) (by decide)

theorem evBin_bneq' (T4 : P.underlying 4 = some .bool) (a b : Bool) : evBin P .neq 4 false false (.val (.bool a)) (.val (.bool b)) = some (.val (.bool (a != b))) := evBin_bneq T4

set_option maxRecDepth 20000 in
set_option maxHeartbeats 4000000 in
theorem zoneTurns_ans (T : Typed3 P) (T4 : P.underlying 4 = some .bool) (told : ans (env P) 12 [] = some (.val (.bool true))) {l : List RS} {px py : Int} : ans (env P) 9 [.im (rsV l) false, placeV px py] = some (.val (.bool true)) := by
  have hfix := fix_ans (P := P) T.toTyped (l := l)
  obtain ⟨f1, f2, f3⟩ := fix_right l
  generalize fix l = L at hfix f1 f2 f3
  have s1 : ans (env P) 11 [.agg [.val (.int .i64 px), .val (.int .i64 py)]] = some (.agg [.val (.int .i64 (spotN px)), .val (.int .i64 (spotN py))]) := refSpot_ans T.toTyped
  have nX := spotN_near px
  have nY := spotN_near py
  generalize spotN px = X at s1 nX
  generalize spotN py = Y at s1 nY
  have nX' := nX; have nY' := nY
  simp only [near, Bool.and_eq_true, decide_eq_true_eq] at nX' nY'
  have s2 : ans (env P) 16 [.agg [.val (.int .i64 X), .val (.int .i64 Y)]] = some (.val (.complex .f64 (FloatKind.f64.nearest X) (FloatKind.f64.nearest Y))) := spot_ans T.toTyped
  have iX : Is (FloatKind.f64.nearest X) X := Is.nearest (abs_lt53 (by omega))
  have iY : Is (FloatKind.f64.nearest Y) Y := Is.nearest (abs_lt53 (by omega))
  obtain ⟨e, f, m1, m2, m3⟩ := cmul_is (P := P) (t := 33) (cx := false) (cy := true) iX iY is0 is1 (by unfold sm; omega) (by unfold sm; omega) (by unfold sm; omega) (by unfold sm; omega)
  have m2' : Is e (-Y) := by have := m2; rw [show X * 0 - Y * 1 = -Y by omega] at this; exact this
  have m3' : Is f X := by have := m3; rw [show X * 1 + Y * 0 = X by omega] at this; exact this
  have hin1 := turn_in f2
  have hin2 := turn_in hin1
  have hin3 := turn_in hin2
  have hm : ∀ {K : List RS}, K.length = L.length → K.length ≤ most := fun h => by unfold most; omega
  have t1 := turned_ans (P := P) f2 (hm rfl)
  have t2 := turned_ans (P := P) hin1 (hm (by simp))
  have t3 := turned_ans (P := P) hin2 (hm (by simp))
  have t4 := turned_ans (P := P) hin3 (hm (by simp))
  have h4 : ((((L.map turn).map turn).map turn).map turn) = L := by
    simp only [List.map_map]
    exact (List.map_congr_left fun q _ => turn4 q).trans (List.map_id L)
  rw [h4] at t4
  have o0 := to_ans (P := P) T.toTyped (l := L) (hm rfl)
  have o1 := to_ans (P := P) T.toTyped (l := L.map turn) (hm (by simp))
  have ok0 := si_ok f2
  have ok1 := si_ok hin1
  have q0 := zoneHas_ans (P := P) ok0 iX iY
  have q1 := zoneHas_ans (P := P) ok1 m2' m3'
  rw [turn_has] at q1
  have r1 := zoneRight_ans (P := P) ok1
  rw [turn_zone, f1] at r1
  have z1 := zsame_ans T ok0 ok0 (by simpa [toSI] using hm (K := L) rfl)
  simp only [decide_true] at z1
  have hb := evBin_bneq' T4
  refine ans_V rfl rfl ?_
  simp [-List.map_map, c9, placeV, hfix, s1, s2, told, t1, t2, t3, t4, o0, o1, m1, q0, q1, r1, z1, hb]

end Go.Evl.Zone

/- ZoneLogic: its function answers true. -/
namespace Go.Evl.Zone
open Go Go.Evl Go.Evl.Fl
set_option linter.unusedSimpArgs false
set_option linter.unusedVariables false
variable {P : Program}

theorem run_append (px py : Int) : ∀ (l m : List SI) (t : List Bool), runT px py (l ++ m) t = runT px py m (runT px py l t)
  | [], m, t => rfl
  | q :: l, m, t => run_append px py l m _

theorem fold_shift {k : Int} (hk : 0 ≤ k) : ∀ (l : List SI) (n m : Int), foldR l n = some m → foldR l (n + k) = some (m + k)
  | [], n, m, h => by simp [foldR] at h ⊢; omega
  | q :: l, n, m, h => by
    rw [foldR] at h ⊢
    split at h
    · cases h
    · rename_i hno
      simp only [not_or, Int.not_lt] at hno
      rw [if_neg (by simp only [not_or, Int.not_lt]; exact ⟨hno.1, by omega⟩)]
      have := fold_shift hk l _ m h
      rw [show n + k + (1 - needsN q.op) = n + (1 - needsN q.op) + k by omega]
      exact this

theorem step_base {q : SI} {px py : Int} {t0 t : List Bool} (h : needsN q.op ≤ t.length) : stepT q px py (t0 ++ t) = t0 ++ stepT q px py t := by
  have h2 := needsN_le q.op
  unfold stepT
  have hk : (needsN q.op).toNat ≤ t.length := by omega
  rw [List.length_append, Nat.add_sub_assoc hk, List.take_length_add_append, List.drop_length_add_append, List.append_assoc]

theorem run_base (px py : Int) (t0 : List Bool) : ∀ (l : List SI) (t : List Bool) (m : Int), foldR l t.length = some m → runT px py l (t0 ++ t) = t0 ++ runT px py l t
  | [], t, m, h => rfl
  | q :: l, t, m, h => by
    rw [foldR] at h
    split at h
    · cases h
    · rename_i hno
      simp only [not_or, Int.not_lt] at hno
      have h2 := needsN_le q.op
      have hl : ((stepT q px py t).length : Int) = t.length + (1 - needsN q.op) := by unfold stepT; simp; omega
      rw [runT, runT, step_base hno.2]
      exact run_base px py t0 l _ m (by rw [hl]; exact h)

theorem run_one {A : List SI} (hA : zoneRight A = true) (px py : Int) : ∃ b, runT px py A [] = [b] ∧ foldR A 0 = some 1 ∧ A.length ≤ 32 := by
  simp only [zoneRight, Bool.and_eq_true, decide_eq_true_eq] at hA
  have hlen := runT_length px py A [] 1 hA.2
  match hh : runT px py A [] with
  | [] => rw [hh] at hlen; simp at hlen
  | [b0] => exact ⟨b0, rfl, hA.2, hA.1⟩
  | _ :: _ :: _ => rw [hh] at hlen; simp at hlen; omega

def opS (n : Int) : SI := ⟨n, 0, 0, 0, 0, 0, 0⟩

theorem opS_ok (n : Int) : (opS n).ok := ⟨is0, is0, is0⟩

theorem has_not {A : List SI} (hA : zoneRight A = true) {px py : Int} (hn : (near px && near py) = true) (hl : A.length ≤ 31) : zoneHas (A ++ [opS 4]) px py = !zoneHas A px py := by
  obtain ⟨b, h1, h2, h3⟩ := run_one hA px py
  have hr : zoneRight (A ++ [opS 4]) = true := by
    simp only [zoneRight, Bool.and_eq_true, decide_eq_true_eq]
    refine ⟨by simp; omega, ?_⟩
    rw [foldR_append, h2]; decide
  unfold zoneHas
  rw [hr, hA, hn, run_append, h1]
  simp [runT, stepT, opS, needsN, SI.truth, truthB]

theorem has_two {A B : List SI} (hA : zoneRight A = true) (hB : zoneRight B = true) {px py : Int} (hn : (near px && near py) = true) (hl : A.length + B.length + 1 ≤ 32) :
    zoneHas (A ++ B ++ [opS 5]) px py = (zoneHas A px py && zoneHas B px py) ∧ zoneHas (A ++ B ++ [opS 6]) px py = (zoneHas A px py || zoneHas B px py) := by
  obtain ⟨a, a1, a2, a3⟩ := run_one hA px py
  obtain ⟨b, b1, b2, b3⟩ := run_one hB px py
  have hs := fold_shift (k := 1) (by omega) B 0 1 b2
  have hrun : runT px py (A ++ B) [] = [a, b] := by
    rw [run_append, a1]
    have := run_base px py [a] B [] 1 b2
    rw [List.append_nil, b1] at this
    exact this
  have hr : ∀ n, (n = 5 ∨ n = 6) → zoneRight (A ++ B ++ [opS n]) = true := by
    intro n hn
    simp only [zoneRight, Bool.and_eq_true, decide_eq_true_eq]
    refine ⟨by simp; omega, ?_⟩
    rw [foldR_append, foldR_append, a2]
    show ((foldR B (0 + 1)).bind _) = _
    rw [hs]
    rcases hn with rfl | rfl <;> decide
  unfold zoneHas
  rw [hr 5 (.inl rfl), hr 6 (.inr rfl), hA, hB, hn, run_append px py (A ++ B) [opS 5], run_append px py (A ++ B) [opS 6], hrun, a1, b1]
  simp [runT, stepT, opS, needsN, SI.truth, truthB]

theorem app_new {H : Heap} {slot k : Nat} {zs : List (List PV)} (h0 : ¬ zs.length = 0) (hm : zs.length ≤ most) : appendP H slot k (.im [] true) zs = some (.sl slot k zs.length 0 zs.length, H.put slot (.row k zs true), [slot], []) := by
  unfold appendP
  rw [if_neg h0]
  simp only
  rw [if_pos ⟨rfl, by simpa using hm⟩]
  simp

theorem app_full {H : Heap} {slot k r : Nat} {xs zs : List (List PV)} (hb : H.at_ r = .row k xs true) (h0 : ¬ zs.length = 0) (hm : xs.length + zs.length ≤ most) : appendP H slot k (.sl r k xs.length 0 xs.length) zs = some (.sl r k (xs.length + zs.length) 0 (xs.length + zs.length), H.put r (.row k (xs ++ zs) true), [r], [r]) := by
  unfold appendP
  simp only [hb]
  rw [if_neg h0, if_pos ⟨trivial, trivial, trivial, by omega⟩, if_neg (by omega), if_pos ⟨trivial, hm⟩, List.take_length]

theorem exp_full {H : Heap} {k r : Nat} {xs : List (List PV)} {n : Nat} (hb : H.at_ r = .row k xs true) (hn : n = xs.length) (hp : plainss xs = some xs) : expC H (.sl r k n 0 n) = some (.im xs false, [r]) := by
  subst hn
  unfold expC
  simp only [hb]
  rw [if_pos ⟨trivial, trivial, by omega⟩, List.drop_zero, List.take_length, hp]

theorem expC_int {H : Heap} {k : IntKind} {n : Int} : expC H (.val (.int k n)) = some (.val (.int k n), []) := rfl
theorem expC_cx {H : Heap} {k : FloatKind} {a b : Nat} : expC H (.val (.complex k a b)) = some (.val (.complex k a b), []) := rfl
theorem expC_fl {H : Heap} {k : FloatKind} {a : Nat} : expC H (.val (.float k a)) = some (.val (.float k a), []) := rfl
theorem expC_bool {H : Heap} {b : Bool} : expC H (.val (.bool b)) = some (.val (.bool b), []) := rfl
theorem expC_im {H : Heap} {xs : List (List PV)} {full : Bool} : expC H (.im xs full) = some (.im xs false, []) := rfl

set_option maxRecDepth 20000 in
set_option maxHeartbeats 4000000 in
theorem zoneLogic_ans (T : Typed3 P) (T4 : P.underlying 4 = some .bool) (told : ans (env P) 12 [] = some (.val (.bool true))) {l m : List RS} {px py : Int} : ans (env P) 6 [.im (rsV l) false, .im (rsV m) false, placeV px py] = some (.val (.bool true)) := by
  have hfa := fix_ans (P := P) T.toTyped (l := l)
  obtain ⟨f1, f2, f3⟩ := fix_right l
  have hfb := fix_ans (P := P) T.toTyped (l := m)
  obtain ⟨g1, g2, g3⟩ := fix_right m
  generalize fix l = A at hfa f1 f2 f3
  generalize fix m = B at hfb g1 g2 g3
  have s1 : ans (env P) 11 [.agg [.val (.int .i64 px), .val (.int .i64 py)]] = some (.agg [.val (.int .i64 (spotN px)), .val (.int .i64 (spotN py))]) := refSpot_ans T.toTyped
  have nX := spotN_near px
  have nY := spotN_near py
  generalize spotN px = X at s1 nX
  generalize spotN py = Y at s1 nY
  have nXY : (near X && near Y) = true := by rw [nX, nY]; rfl
  simp only [near, Bool.and_eq_true, decide_eq_true_eq] at nX nY
  have s2 : ans (env P) 16 [.agg [.val (.int .i64 X), .val (.int .i64 Y)]] = some (.val (.complex .f64 (FloatKind.f64.nearest X) (FloatKind.f64.nearest Y))) := spot_ans T.toTyped
  have iX : Is (FloatKind.f64.nearest X) X := Is.nearest (abs_lt53 (by omega))
  have iY : Is (FloatKind.f64.nearest Y) Y := Is.nearest (abs_lt53 (by omega))
  have hbool : ∀ a b : Bool, evBin P .eql 4 false false (.val (.bool a)) (.val (.bool b)) = some (.val (.bool (a == b))) := fun a b => evBin_beql T4
  have hm : ∀ n : Nat, n ≤ 100 → n ≤ most := fun n h => by unfold most; omega
  have oA := to_ans (P := P) T.toTyped (l := A) (hm _ (by omega))
  have oB := to_ans (P := P) T.toTyped (l := B) (hm _ (by omega))
  have kA := si_ok f2
  have kB := si_ok g2
  have lA : (toSI A).length ≤ 23 := by simpa [toSI] using f3
  have lB : (toSI B).length ≤ 23 := by simpa [toSI] using g3
  generalize toSI A = C at oA kA lA f1
  generalize toSI B = D at oB kB lB g1
  have zA := zoneHas_ans (P := P) kA iX iY
  have zB := zoneHas_ans (P := P) kB iX iY
  have hok : ∀ {n : Int}, ∀ q ∈ C ++ [opS n], q.ok := fun q hq => by
    rcases List.mem_append.1 hq with h | h
    · exact kA q h
    · simp at h; subst h; exact opS_ok _
  have hok2 : ∀ {n : Int}, ∀ q ∈ C ++ D ++ [opS n], q.ok := fun q hq => by
    rcases List.mem_append.1 hq with h | h
    · rcases List.mem_append.1 h with h | h
      · exact kA q h
      · exact kB q h
    · simp at h; subst h; exact opS_ok _
  have cA : ¬ C.length = 0 := fun h => by
    have := List.length_eq_zero_iff.1 h; subst this
    exact absurd f1 (by decide)
  have cB : ¬ D.length = 0 := fun h => by
    have := List.length_eq_zero_iff.1 h; subst this
    exact absurd g1 (by decide)
  have y1 := zoneHas_ans (P := P) (hok (n := 4)) iX iY
  rw [has_not f1 nXY (by omega)] at y1
  have y2 := zoneHas_ans (P := P) (hok2 (n := 5)) iX iY
  have y3 := zoneHas_ans (P := P) (hok2 (n := 6)) iX iY
  have vS : ∀ (n : Int) (L : List SI), stepsV (L ++ [opS n]) = stepsV L ++ [[.val (.int .i64 n), .val (.complex .f64 0 0), .val (.float .f64 0)]] := fun n L => by simp [stepsV, opS, SI.cells]
  have vD : stepsV (C ++ D) = stepsV C ++ stepsV D := by simp [stepsV]
  rw [vS] at y1 y2 y3
  rw [vD] at y2 y3
  have a1 : ∀ (H : Heap) (slot : Nat), appendP H slot 3 (.im [] true) (stepsV C) = some (.sl slot 3 C.length 0 C.length, H.put slot (.row 3 (stepsV C) true), [slot], []) := fun H slot => by
    have := app_new (H := H) (slot := slot) (k := 3) (zs := stepsV C) (by simpa using cA) (by simp; exact hm _ (by omega))
    simpa using this
  have a2 : ∀ (H : Heap) (slot r : Nat), H.at_ r = .row 3 (stepsV C) true → appendP H slot 3 (.sl r 3 C.length 0 C.length) (stepsV D) = some (.sl r 3 (C.length + D.length) 0 (C.length + D.length), H.put r (.row 3 (stepsV C ++ stepsV D) true), [r], [r]) := fun H slot r hb => by
    have := app_full (slot := slot) hb (zs := stepsV D) (by simpa using cB) (by simp; exact hm _ (by omega))
    simpa using this
  have a3 : ∀ (H : Heap) (slot r : Nat) (y : List PV), H.at_ r = .row 3 (stepsV C) true → appendP H slot 3 (.sl r 3 C.length 0 C.length) [y] = some (.sl r 3 (C.length + 1) 0 (C.length + 1), H.put r (.row 3 (stepsV C ++ [y]) true), [r], [r]) := fun H slot r y hb => by
    have := app_full (slot := slot) hb (zs := [y]) (by simp) (by simp; exact hm _ (by omega))
    simpa using this
  have a4 : ∀ (H : Heap) (slot r : Nat) (y : List PV), H.at_ r = .row 3 (stepsV C ++ stepsV D) true → appendP H slot 3 (.sl r 3 (C.length + D.length) 0 (C.length + D.length)) [y] = some (.sl r 3 (C.length + D.length + 1) 0 (C.length + D.length + 1), H.put r (.row 3 (stepsV C ++ (stepsV D ++ [y])) true), [r], [r]) := fun H slot r y hb => by
    have := app_full (slot := slot) hb (zs := [y]) (by simp) (by simp; exact hm _ (by omega))
    simpa using this
  have pS : ∀ (n : Int) (L : List SI), plainss (stepsV L ++ [[.val (.int .i64 n), .val (.complex .f64 0 0), .val (.float .f64 0)]]) = some (stepsV L ++ [[.val (.int .i64 n), .val (.complex .f64 0 0), .val (.float .f64 0)]]) := fun n L => by rw [← vS]; exact plainss_si _
  have x1 : ∀ (H : Heap) (r : Nat), H.at_ r = .row 3 (stepsV C ++ [[.val (.int .i64 4), .val (.complex .f64 0 0), .val (.float .f64 0)]]) true → expC H (.sl r 3 (C.length + 1) 0 (C.length + 1)) = some (.im (stepsV C ++ [[.val (.int .i64 4), .val (.complex .f64 0 0), .val (.float .f64 0)]]) false, [r]) := fun H r hb => exp_full hb (by simp) (pS _ _)
  have x2 : ∀ (H : Heap) (r : Nat) (n : Int), H.at_ r = .row 3 (stepsV C ++ (stepsV D ++ [[.val (.int .i64 n), .val (.complex .f64 0 0), .val (.float .f64 0)]])) true → expC H (.sl r 3 (C.length + D.length + 1) 0 (C.length + D.length + 1)) = some (.im (stepsV C ++ (stepsV D ++ [[.val (.int .i64 n), .val (.complex .f64 0 0), .val (.float .f64 0)]])) false, [r]) := fun H r n hb => exp_full hb (by simp; omega) (by rw [← List.append_assoc, ← vD]; exact pS _ _)
  rw [List.append_assoc] at y2 y3
  have c32 : (C.length : Int) + 1 ≤ 32 := by omega
  refine ans_V rfl rfl ?_
  by_cases h32 : C.length + D.length + 1 ≤ 32
  · have h32' : ¬ (32 : Int) < (C.length : Int) + D.length + 1 := by omega
    obtain ⟨e5, e6⟩ := has_two f1 g1 nXY h32
    rw [show C ++ D ++ [opS 5] = C ++ D ++ [opS 5] from rfl, e5] at y2
    rw [e6] at y3
    cases hA : zoneHas C X Y <;> cases hB : zoneHas D X Y <;> rw [hA] at zA y1 <;> rw [hB] at zB <;> rw [hA, hB] at y2 y3 <;>
      simp [-expC, expC_int, expC_cx, expC_fl, expC_bool, expC_im, c6, placeV, hfa, hfb, s1, s2, told, oA, oB, zA, zB, y1, y2, y3, hbool, a1, a2, a3, a4, x1, x2, c32, h32', chunks, elems, allLen]
  · have h32' : (32 : Int) < (C.length : Int) + D.length + 1 := by omega
    cases hA : zoneHas C X Y <;> rw [hA] at zA y1 <;>
      simp [-expC, expC_int, expC_cx, expC_fl, expC_bool, expC_im, c6, placeV, hfa, hfb, s1, s2, told, oA, oB, zA, zB, y1, hbool, a1, a2, a3, a4, x1, x2, c32, h32', chunks, elems, allLen]

end Go.Evl.Zone

/- The zone statements: any binary64 word held against whole numbers. -/
namespace Go.Evl.Zone
open Go Go.Evl Go.Evl.Fl Ieee
set_option linter.unusedSimpArgs false
set_option linter.unusedVariables false
variable {P : Program}

/-- What a finite word stands for, times a power of two. -/
def xOf (s : Bool) (m : Nat) (e : Int) : Int := signed s m e.toNat
def kOf (e : Int) : Nat := (-e).toNat
/-- Its whole part. -/
def nOf (s : Bool) (m : Nat) (e : Int) : Int := signed s (m * 2 ^ e.toNat / 2 ^ (-e).toNat) 0

theorem ord_num {b u : Nat} {s : Bool} {m : Nat} {e : Int} {n : Int} (hb : double.read b = .number s m e) (hu : Is u n) : double.order b u = some (compare (xOf s m e) (n * 2 ^ kOf e)) := by
  obtain ⟨t, m', e', h1, h2, h3⟩ := hu.read
  unfold Format.order
  rw [hb, h1]
  show some (compare (signed s m (e - min e e').toNat) (signed t m' (e' - min e e').toNat)) = _
  -- a * 2 ^ p = x * 2 ^ q, where p - q = base - base0
  obtain ⟨p, q, hpq⟩ : ∃ p q : Nat, (p : Int) - q = min e e' - min e 0 := ⟨(min e e' - min e 0).toNat, (-(min e e' - min e 0)).toNat, by omega⟩
  refine congrArg some (compare_scale (p := p) (q := q) ?_ ?_)
  · unfold xOf
    rw [signed_eq, signed_eq, Int.mul_assoc, Int.mul_assoc, Int.mul_assoc, Int.mul_assoc, ← Int.pow_add, ← Int.pow_add]
    rw [show (e - min e e').toNat + p = e.toNat + q by omega]
  · have := sg h2 h3 (base := min e e') (p := p) (q := q + kOf e) (by omega) (by unfold kOf; omega)
    rw [this, Int.mul_assoc, ← Int.pow_add, Nat.add_comm]

theorem cut_down (s : Bool) (n k : Nat) : Toward.zero.cut s n k = n / 2 ^ k := by
  unfold Toward.cut
  simp only [Nat.shiftLeft_eq, Nat.one_mul, Bool.toNat_false, Nat.add_zero]
  by_cases h : k ≤ n.log2 + 2
  · rw [Nat.min_eq_left h]
  · rw [Nat.min_eq_right (by omega)]
    have h1 : n < 2 ^ (n.log2 + 1) := Nat.lt_log2_self
    have h2 : n < 2 ^ (n.log2 + 2) := Nat.lt_of_lt_of_le h1 (Nat.pow_le_pow_right (by decide) (by omega))
    have h3 : n < 2 ^ k := Nat.lt_of_lt_of_le h1 (Nat.pow_le_pow_right (by decide) (by omega))
    rw [Nat.div_eq_of_lt h2, Nat.div_eq_of_lt h3]

theorem toInt_num {b : Nat} {s : Bool} {m : Nat} {e : Int} (hb : double.read b = .number s m e) : (FloatKind.f64.decode b).toInt .zero = some (nOf s m e) := by
  have hb' : FloatKind.f64.decode b = .number s m e := hb
  rw [hb']
  show some (signed s (Toward.zero.cut s (m <<< e.toNat) (-e).toNat) 0) = _
  rw [cut_down, Nat.shiftLeft_eq]
  rfl

theorem trunc_num {b : Nat} {s : Bool} {m : Nat} {e : Int} (hb : double.read b = .number s m e) (hn : (nOf s m e).natAbs < 2 ^ 53) : Is (FloatKind.f64.encode ((FloatKind.f64.decode b).integral .zero)) (nOf s m e) := by
  have hb' : FloatKind.f64.decode b = .number s m e := hb
  rw [hb']
  show Is (double.write (.number s (Toward.zero.cut s (m <<< e.toNat) (-e).toNat) 0)) (nOf s m e)
  rw [cut_down, Nat.shiftLeft_eq]
  have habs : (nOf s m e).natAbs = m * 2 ^ e.toNat / 2 ^ (-e).toNat := by
    unfold nOf
    rw [signed_eq]
    generalize m * 2 ^ e.toNat / 2 ^ (-e).toNat = c
    cases s <;> simp
  refine Is.mk (by unfold Mag; simp [habs]) hn fun h0 => ?_
  unfold nOf at h0 ⊢
  rw [signed_eq] at h0 ⊢
  clear habs hn
  generalize m * 2 ^ e.toNat / 2 ^ (-e).toNat = c at h0 ⊢
  cases s
  · simp
  · simp at h0 ⊢; omega

/-- Is a finite word's number from -1000 to 1000? -/
def rng (s : Bool) (m : Nat) (e : Int) : Bool := decide (-1000 * 2 ^ kOf e ≤ xOf s m e) && decide (xOf s m e ≤ 1000 * 2 ^ kOf e)

theorem nOf_small {s : Bool} {m : Nat} {e : Int} (h : rng s m e = true) : -1000 ≤ nOf s m e ∧ nOf s m e ≤ 1000 := by
  simp only [rng, Bool.and_eq_true, decide_eq_true_eq] at h
  have hx : xOf s m e = (if s then -1 else 1) * ((m * 2 ^ e.toNat : Nat) : Int) := by unfold xOf; rw [signed_eq]; simp
  have hn : nOf s m e = (if s then -1 else 1) * ((m * 2 ^ e.toNat / 2 ^ kOf e : Nat) : Int) := by
    unfold nOf kOf; rw [signed_eq, Int.pow_zero, Int.mul_one]
  have hk : (2 : Int) ^ kOf e = ((2 ^ kOf e : Nat) : Int) := by simp
  rw [hx, hk] at h
  rw [hn]
  have hp : 0 < 2 ^ kOf e := Nat.two_pow_pos _
  generalize m * 2 ^ e.toNat = M at h
  generalize 2 ^ kOf e = K at h hp
  have hM : M ≤ 1000 * K := by
    cases s
    · rw [if_neg (by decide), Int.one_mul] at h; omega
    · rw [if_pos rfl] at h; omega
  have hd : M / K ≤ 1000 := by
    calc M / K ≤ 1000 * K / K := Nat.div_le_div_right hM
      _ = 1000 := Nat.mul_div_cancel _ hp
  generalize M / K = c at hd
  cases s
  · rw [if_neg (by decide)]; omega
  · rw [if_pos rfl]; omega

/-- Is a word a whole number from -1000 to 1000? -/
def wh (b : Nat) : Bool := match double.read b with
  | .number s m e => rng s m e && decide (xOf s m e = nOf s m e * 2 ^ kOf e)
  | _ => false

/-- Do the comparisons with the bounds hold? -/
def gl (b : Nat) : Bool := match double.read b with
  | .number s m e => rng s m e
  | _ => false
def geB (b : Nat) : Bool := FloatKind.f64.format.order b 13875379345695965184 == some .gt || FloatKind.f64.format.order b 13875379345695965184 == some .eq
def leB (b : Nat) : Bool := FloatKind.f64.format.order b 4652007308841189376 == some .lt || FloatKind.f64.format.order b 4652007308841189376 == some .eq

theorem gl_is (b : Nat) : (geB b && leB b) = gl b := by
  have i1 := isM1000
  have i2 := is1000
  unfold geB leB gl
  cases hb : double.read b with
  | number s m e =>
    have o1 : FloatKind.f64.format.order b 13875379345695965184 = some (compare (xOf s m e) (-1000 * 2 ^ kOf e)) := ord_num hb i1
    have o2 : FloatKind.f64.format.order b 4652007308841189376 = some (compare (xOf s m e) (1000 * 2 ^ kOf e)) := ord_num hb i2
    rw [o1, o2]
    simp only [rng]
    generalize xOf s m e = x
    generalize (-1000 : Int) * 2 ^ kOf e = y
    generalize (1000 : Int) * 2 ^ kOf e = z
    congr 1
    · simp only [compare, compareOfLessAndEq]
      rcases Int.lt_trichotomy x y with h | h | h
      · have : ¬ y ≤ x := by omega
        simp [h, this]
      · subst h; simp
      · have h0 : ¬ x < y := by omega
        have h1 : ¬ x = y := by omega
        have h2 : y ≤ x := by omega
        simp [h0, h1, h2]
    · simp only [compare, compareOfLessAndEq]
      rcases Int.lt_trichotomy x z with h | h | h
      · have : x ≤ z := by omega
        simp [h, this]
      · subst h; simp
      · have h0 : ¬ x < z := by omega
        have h1 : ¬ x = z := by omega
        have h2 : ¬ x ≤ z := by omega
        simp [h0, h1, h2]
  | infinity s =>
    obtain ⟨t1, m1, e1, h1, _⟩ := i1.read
    obtain ⟨t2, m2, e2, h2, _⟩ := i2.read
    have o1 : FloatKind.f64.format.order b 13875379345695965184 = some (if s then .lt else .gt) := by
      show double.order _ _ = _; unfold Format.order; rw [hb, h1]; rfl
    have o2 : FloatKind.f64.format.order b 4652007308841189376 = some (if s then .lt else .gt) := by
      show double.order _ _ = _; unfold Format.order; rw [hb, h2]; rfl
    rw [o1, o2]
    cases s <;> rfl
  | nan s t =>
    have o1 : FloatKind.f64.format.order b 13875379345695965184 = none := by
      show double.order _ _ = _; unfold Format.order; rw [hb]; rfl
    rw [o1]; rfl

theorem eq_is {b u : Nat} {s : Bool} {m : Nat} {e : Int} {n : Int} (hb : double.read b = .number s m e) (hu : Is u n) : (FloatKind.f64.format.order b u == some .eq) = decide (xOf s m e = n * 2 ^ kOf e) := by
  have o1 : FloatKind.f64.format.order b u = some (compare (xOf s m e) (n * 2 ^ kOf e)) := ord_num hb hu
  rw [o1]
  generalize xOf s m e = x
  generalize n * 2 ^ kOf e = y
  simp only [compare, compareOfLessAndEq]
  rcases Int.lt_trichotomy x y with h | h | h
  · have : ¬ x = y := by omega
    simp [h, this]
  · subst h; simp
  · have h0 : ¬ x < y := by omega
    have h1 : ¬ x = y := by omega
    simp [h0, h1]

/-- In range, a word is finite. -/
theorem gl_num {b : Nat} (h : gl b = true) : ∃ s m e, double.read b = .number s m e ∧ rng s m e = true := by
  unfold gl at h
  split at h
  · rename_i s m e hb; exact ⟨s, m, e, hb, h⟩
  · cases h

theorem wh_of_gl {b : Nat} (h : gl b = false) : wh b = false := by
  unfold gl at h
  unfold wh
  cases hb : double.read b with
  | number s m e => rw [hb] at h; simp only at h; simp [h]
  | infinity s => rfl
  | nan s t => rfl

theorem wholeTo_any {b : Nat} : ans (env P) 34 [.val (.float .f64 b), .val (.float .f64 13875379345695965184), .val (.float .f64 4652007308841189376)] = some (.val (.bool (wh b))) := by
  refine ans_V rfl rfl ?_
  have g1 : ∀ {t : TypeId} {cx cy : Bool}, evBin P .geq t cx cy (.val (.float .f64 b)) (.val (.float .f64 13875379345695965184)) = some (.val (.bool (geB b))) := evBin_fgeq
  have g2 : ∀ {t : TypeId} {cx cy : Bool}, evBin P .leq t cx cy (.val (.float .f64 b)) (.val (.float .f64 4652007308841189376)) = some (.val (.bool (leB b))) := evBin_fleq
  have hgl := gl_is b
  cases h1 : geB b with
  | false =>
    rw [h1] at g1 hgl
    have hw : wh b = false := by
      exact wh_of_gl (by rw [← hgl]; rfl)
    simp [c34, g1, hw]
  | true =>
    rw [h1] at g1 hgl
    cases h2 : leB b with
    | false =>
      rw [h2] at g2 hgl
      have hw : wh b = false := by
        exact wh_of_gl (by rw [← hgl]; rfl)
      simp [c34, g1, g2, hw]
    | true =>
      rw [h2] at g2 hgl
      obtain ⟨s, m, e, hb, hr⟩ := gl_num (b := b) hgl.symm
      have hs := nOf_small hr
      have hu := trunc_num hb (by have : (2 : Nat) ^ 53 = 9007199254740992 := by decide
                                  omega)
      have hq := eq_is hb hu
      have hw : wh b = decide (xOf s m e = nOf s m e * 2 ^ kOf e) := by unfold wh; rw [hb]; simp [hr]
      have ht : ans (env P) 47 [.val (.float .f64 b)] = some (.val (.float .f64 (FloatKind.f64.encode ((FloatKind.f64.decode b).integral .zero)))) := by
        refine ans_V rfl rfl ?_
        have hp : ∀ H, pTrunc [.val (.float .f64 b)] H = some ⟨.val (.float .f64 (FloatKind.f64.encode ((FloatKind.f64.decode b).integral .zero))), H, [], some []⟩ := by
          intro H
          have hb' : FloatKind.f64.decode b = .number s m e := hb
          unfold pTrunc
          simp only [hb']
        simp [c47, VA_prim (E := env P) (g := 56) (p := pTrunc) rfl, hp]
      have hqq : ∀ {t : TypeId} {cx cy : Bool}, evBin P .eql t cx cy (.val (.float .f64 b)) (.val (.float .f64 (FloatKind.f64.encode ((FloatKind.f64.decode b).integral .zero)))) = some (.val (.bool (wh b))) := by
        intro t cx cy
        rw [evBin_feql, hq, hw]
      simp [c34, g1, g2, ht, hqq]

theorem whole_any {a b : Nat} : ans (env P) 18 [.val (.complex .f64 a b)] = some (.val (.bool (wh a && wh b))) := by
  refine ans_V rfl rfl ?_
  have h1 := wholeTo_any (P := P) (b := a)
  have h2 := wholeTo_any (P := P) (b := b)
  cases h : wh a <;> rw [h] at h1 <;> simp [c18, h1, h2, h]

end Go.Evl.Zone

/- ZoneParts: its function answers true. -/
namespace Go.Evl.Zone
open Go Go.Evl Go.Evl.Fl Ieee
set_option linter.unusedSimpArgs false
set_option linter.unusedVariables false
variable {P : Program}

theorem has_none {L : List SI} (hok : ∀ q ∈ L, q.ok) {a b : Nat} (h : (wh a && wh b) = false) : ans (env P) 15 [.im (stepsV L) false, .val (.complex .f64 a b)] = some (.val (.bool false)) := by
  have h1 := zoneRight_ans (P := P) hok
  have h2 := whole_any (P := P) (a := a) (b := b)
  rw [h] at h2
  refine ans_V rfl rfl ?_
  cases hr : zoneRight L <;> rw [hr] at h1 <;> simp [c15, h1, h2]

set_option maxRecDepth 20000 in
set_option maxHeartbeats 4000000 in
theorem has_every {a b : Nat} (h : (wh a && wh b) = true) : ans (env P) 15 [.im (stepsV [⟨1, 0, 0, 0, 0, 0, 0⟩]) false, .val (.complex .f64 a b)] = some (.val (.bool true)) := by
  have hok : ∀ q ∈ [(⟨1, 0, 0, 0, 0, 0, 0⟩ : SI)], q.ok := by
    intro q hq; simp at hq; subst hq; exact ⟨is0, is0, is0⟩
  have h1 := zoneRight_ans (P := P) hok
  have hz : zoneRight [(⟨1, 0, 0, 0, 0, 0, 0⟩ : SI)] = true := by decide
  rw [hz] at h1
  have h2 := whole_any (P := P) (a := a) (b := b)
  rw [h] at h2
  have h3 := needs_ans (P := P) (op := 1) (re := 0) (im := 0) (sz := 0)
  have hn : needsN 1 = 0 := rfl
  rw [stepV, hn] at h3
  have h4 : ∀ full, ans (env P) 33 [.agg [.val (.int .i64 1), .val (.complex .f64 0 0), .val (.float .f64 0)], .val (.complex .f64 a b), .im [] full] = some (.val (.bool true)) := by
    intro full
    refine ans_V rfl rfl ?_
    simp [c33]
  have w0 : IntKind.i64.wrap (0 : Int) = 0 := wrap64_id (by omega)
  have w1 : IntKind.i64.wrap (1 : Int) = 1 := wrap64_id (by omega)
  simp only [stepsV, List.map_cons, List.map_nil, SI.cells] at h1
  refine ans_V rfl rfl ?_
  simp [c15, h1, h2, stepsV, SI.cells]
  rw [V_loop]
  simp [L15_0, h3, h4, w0, w1, sliceP, appendP, elems, allLen, chunks, most]
  rw [V_loop]
  simp [L15_0]
  simp [loadR_row]

set_option maxRecDepth 20000 in
set_option maxHeartbeats 4000000 in
theorem zoneParts_ans (T : Typed3 P) (T4 : P.underlying 4 = some .bool) (told : ans (env P) 12 [] = some (.val (.bool true))) {x y : Nat} (hx : x < 2 ^ 64) (hy : y < 2 ^ 64) {l : List RS} : ans (env P) 4 [.val (.float .f64 x), .val (.float .f64 y), .im (rsV l) false] = some (.val (.bool true)) := by
  have hfa := fix_ans (P := P) T.toTyped (l := l)
  obtain ⟨f1, f2, f3⟩ := fix_right l
  generalize fix l = A at hfa f1 f2 f3
  have oA := to_ans (P := P) T.toTyped (l := A) (by unfold most; omega)
  have kA := si_ok f2
  generalize toSI A = C at oA kA f1
  have hbool : ∀ a b : Bool, evBin P .eql 4 false false (.val (.bool a)) (.val (.bool b)) = some (.val (.bool (a == b))) := fun a b => evBin_beql T4
  have hw := whole_any (P := P) (a := x) (b := y)
  have he := everywhere_ans (P := P)
  have g1 : ∀ {b : Nat} {t : TypeId} {cx cy : Bool}, evBin P .geq t cx cy (.val (.float .f64 b)) (.val (.float .f64 13875379345695965184)) = some (.val (.bool (geB b))) := evBin_fgeq
  have g2 : ∀ {b : Nat} {t : TypeId} {cx cy : Bool}, evBin P .leq t cx cy (.val (.float .f64 b)) (.val (.float .f64 4652007308841189376)) = some (.val (.bool (leB b))) := evBin_fleq
  have hno : ∀ b, (geB b && leB b) = false → wh b = false := fun b h => wh_of_gl (by rw [← gl_is]; exact h)
  have key : ∀ b, (geB b && leB b) = true → ∃ n : Int, scal P (Go.convert 41 3 (.float .f64 b)) = some (.val (.int .i64 n)) ∧ scal P (Go.convert 3 41 (.int .i64 n)) = some (.val (.float .f64 (FloatKind.f64.nearest n))) ∧ ∀ {t : TypeId} {cx cy : Bool}, evBin P .eql t cx cy (.val (.float .f64 b)) (.val (.float .f64 (FloatKind.f64.nearest n))) = some (.val (.bool (wh b))) := by
    intro b h
    rw [gl_is] at h
    obtain ⟨s, m, e, hb, hr⟩ := gl_num h
    have hs := nOf_small hr
    have hI : Is (FloatKind.f64.nearest (nOf s m e)) (nOf s m e) := Is.nearest (abs_lt53 (by omega))
    have hq := eq_is hb hI
    have hwh : wh b = decide (xOf s m e = nOf s m e * 2 ^ kOf e) := by unfold wh; rw [hb]; simp [hr]
    refine ⟨nOf s m e, cv_fi (by rw [T.t41]; rfl) T.t3 (toInt_num hb) ?_, cv_if (by rw [T.t3]; rfl) T.t41, ?_⟩
    · show -9223372036854775808 ≤ nOf s m e ∧ nOf s m e ≤ 9223372036854775807
      omega
    · intro t cx cy; rw [evBin_feql, hq, hwh]
  have hlast : ((wh x && wh y) = false → ans (env P) 15 [.im (stepsV C) false, .val (.complex .f64 x y)] = some (.val (.bool false))) ∧ ((wh x && wh y) = true → ans (env P) 15 [.im (stepsV [⟨1, 0, 0, 0, 0, 0, 0⟩]) false, .val (.complex .f64 x y)] = some (.val (.bool true))) := ⟨has_none kA, has_every⟩
  refine ans_V rfl rfl ?_
  cases c1 : geB x with
  | false =>
    have hwx := hno x (by rw [c1]; rfl)
    have h2 := hlast.1 (by rw [hwx]; rfl)
    rw [hwx, Bool.false_and] at hw
    simp [c4, g1, g2, c1, told, hw, hbool, hfa, oA, h2]
  | true =>
    cases c2 : leB x with
    | false =>
      have hwx := hno x (by rw [c1, c2]; rfl)
      have h2 := hlast.1 (by rw [hwx]; rfl)
      rw [hwx, Bool.false_and] at hw
      simp [c4, g1, g2, c1, c2, told, hw, hbool, hfa, oA, h2]
    | true =>
      cases c3' : geB y with
      | false =>
        have hwy := hno y (by rw [c3']; rfl)
        have h2 := hlast.1 (by rw [hwy, Bool.and_false])
        rw [hwy, Bool.and_false] at hw
        simp [c4, g1, g2, c1, c2, c3', told, hw, hbool, hfa, oA, h2]
      | true =>
        cases c4' : leB y with
        | false =>
          have hwy := hno y (by rw [c3', c4']; rfl)
          have h2 := hlast.1 (by rw [hwy, Bool.and_false])
          rw [hwy, Bool.and_false] at hw
          simp [c4, g1, g2, c1, c2, c3', c4', told, hw, hbool, hfa, oA, h2]
        | true =>
          obtain ⟨n, n1, n2, n3⟩ := key x (by rw [c1, c2]; rfl)
          obtain ⟨k, k1, k2, k3⟩ := key y (by rw [c3', c4']; rfl)
          cases wx : wh x with
          | false =>
            rw [wx] at n3
            have h2 := hlast.1 (by rw [wx]; rfl)
            rw [wx, Bool.false_and] at hw
            simp [c4, g1, g2, c1, c2, c3', c4', n1, n2, n3, told, hw, hbool, hfa, oA, h2]
          | true =>
            rw [wx] at n3
            cases wy : wh y with
            | false =>
              rw [wy] at k3
              have h2 := hlast.1 (by rw [wy, Bool.and_false])
              rw [wx, wy] at hw
              simp only [Bool.and_false] at hw
              simp [c4, g1, g2, c1, c2, c3', c4', n1, n2, n3, k1, k2, k3, told, hw, hbool, hfa, oA, h2]
            | true =>
              rw [wy] at k3
              have h2 := hlast.2 (by rw [wx, wy]; rfl)
              rw [wx, wy] at hw
              simp only [Bool.and_true] at hw
              simp [c4, g1, g2, c1, c2, c3', c4', n1, n2, n3, k1, k2, k3, told, hw, hbool, he, h2]

end Go.Evl.Zone

/- The zone statements at their door, sixth part: the type of a step. -/
set_option linter.unusedVariables false
namespace Go.Evl.Zone
open Go Go.Evl Go.Evl.Zone Go.Proofs
set_option maxRecDepth 100000
theorem typed3 : Typed3 P0 where
  toTyped2 := typed2
  t51 := ⟨_, Tryd.underlying51, by kernel_rfl, by kernel_rfl⟩
  h51 := by kernel_rfl
  g51 := by kernel_rfl
end Go.Evl.Zone

/- The zone statements: strings, numbers in digits. -/
namespace Go.Evl.Zone
open Go Go.Evl Go.Evl.Fl
set_option linter.unusedSimpArgs false
set_option linter.unusedVariables false
variable {P : Program}

/-- A text, by its bytes. -/
abbrev sv (l : List UInt8) : PV := .val (.string ⟨l.toArray⟩)

theorem strOf_sv (l : List UInt8) : strOf l = sv l := rfl

theorem ba_append (a b : List UInt8) : (⟨a.toArray⟩ : ByteArray) ++ ⟨b.toArray⟩ = ⟨(a ++ b).toArray⟩ := by
  apply ByteArray.ext
  simp

theorem ba_toList (a : List UInt8) : (⟨a.toArray⟩ : ByteArray).toList = a := by
  rw [ByteArray.toList_eq]

theorem evBin_sadd {t : TypeId} {cx cy : Bool} {a b : List UInt8} (h : a.length + b.length < 9223372036854775808) : evBin P .add t cx cy (sv a) (sv b) = some (sv (a ++ b)) := by
  have : evBin P .add t cx cy (sv a) (sv b) = scal P (if ((((⟨a.toArray⟩ : ByteArray).size + (⟨b.toArray⟩ : ByteArray).size : Nat)) : Int) > IntKind.i64.max then unsupported (.resourceLimit "string concatenation: a sum of the lengths that is no int") else pure (.string ((⟨a.toArray⟩ : ByteArray) ++ ⟨b.toArray⟩))) := rfl
  rw [this, if_neg (by simp only [ByteArray.size, List.size_toArray]; show ¬ ((a.length + b.length : Nat) : Int) > 9223372036854775807; omega), ba_append]
  rfl

theorem evBin_seql {t : TypeId} {cx cy : Bool} (a b : List UInt8) : evBin P .eql t cx cy (sv a) (sv b) = some (.val (.bool (decide (a = b)))) := by
  have : evBin P .eql t cx cy (sv a) (sv b) = some (.val (.bool ((⟨a.toArray⟩ : ByteArray).toList == (⟨b.toArray⟩ : ByteArray).toList))) := rfl
  rw [this, ba_toList, ba_toList]
  congr 3
  rw [Bool.eq_iff_iff]
  simp

theorem evBin_sneq {t : TypeId} {cx cy : Bool} (a b : List UInt8) : evBin P .neq t cx cy (sv a) (sv b) = some (.val (.bool (decide (a ≠ b)))) := by
  have : evBin P .neq t cx cy (sv a) (sv b) = some (.val (.bool (!((⟨a.toArray⟩ : ByteArray).toList == (⟨b.toArray⟩ : ByteArray).toList)))) := rfl
  rw [this, ba_toList, ba_toList]
  congr 3
  rw [Bool.eq_iff_iff]
  simp

theorem slice_dig {H : Heap} {d : Nat} (h : d < 10) : sliceP H 0 (.val (.string ⟨#[48, 49, 50, 51, 52, 53, 54, 55, 56, 57]⟩)) (some d) (some (d + 1)) none = some (sv [UInt8.ofNat (48 + d)], []) := by
  have : d = 0 ∨ d = 1 ∨ d = 2 ∨ d = 3 ∨ d = 4 ∨ d = 5 ∨ d = 6 ∨ d = 7 ∨ d = 8 ∨ d = 9 := by omega
  rcases this with h | h | h | h | h | h | h | h | h | h <;> subst h <;> rfl

theorem max_int {t : TypeId} {ts : Array TypeId} {a b : Int} (hab : b ≤ a) : evFun P .max ts t [.int .i64 a, .int .i64 b] = some (.val (.int .i64 a)) := by
  have : evFun P .max ts t [.int .i64 a, .int .i64 b] = some (.val (.int .i64 (if b > a then b else a))) := rfl
  rw [this, if_neg (by omega)]

theorem dec_len : ∀ (u k : Nat), u < 10 ^ (k + 1) → (Lib.decDigits u).length ≤ k + 1
  | u, 0, h => by rw [Lib.decDigits, dif_pos (by simpa using h)]; simp
  | u, k + 1, h => by
    rw [Lib.decDigits]
    split
    · simp
    · simp
      exact dec_len (u / 10) k (by rw [Nat.pow_succ] at h; omega)

theorem num_nat : ∀ (n : Nat), n < 1000000000 → ans (env P) 44 [.val (.int .i64 n)] = some (sv (Lib.decDigits n)) := by
  intro n
  induction n using Nat.strongRecOn with
  | _ n IH =>
    intro hn
    refine ans_V rfl rfl ?_
    have h0 : ¬ ((n : Int) < 0) := by omega
    by_cases h : n < 10
    · have h' : (n : Int) < 10 := by omega
      have hw : IntKind.i64.wrap ((n : Int) + 1) = ((n + 1 : Nat) : Int) := by rw [wrap64_id (by omega)]; omega
      have hm : evFun P .max #[3, 3] 3 [.int .i64 n, .int .i64 0] = some (.val (.int .i64 n)) := max_int (by omega)
      have hp : (0 : Int) ≤ (n : Int) + 1 := by omega
      have hd := fun H => slice_dig (H := H) h
      rw [Lib.decDigits_one h]
      simp [c44, h0, h', hm, hw, hd, hp]
    · have h' : ¬ ((n : Int) < 10) := by omega
      have hq : IntKind.i64.wrap ((n : Int).tdiv 10) = ((n / 10 : Nat) : Int) := by rw [Int.tdiv_eq_ediv_of_nonneg (by omega), wrap64_id (by omega)]; omega
      have hr : (n : Int).tmod 10 = ((n % 10 : Nat) : Int) := by rw [Int.tmod_eq_emod_of_nonneg (by omega)]; omega
      have hq' : IntKind.i64.wrap ((n : Int) / 10) = ((n / 10 : Nat) : Int) := by rw [wrap64_id (by omega)]; omega
      have hr' : (n : Int) % 10 = ((n % 10 : Nat) : Int) := by omega
      have ih := IH (n / 10) (by omega) (by omega)
      have hl := dec_len (n / 10) 8 (by omega)
      have hd : n % 10 < 10 := by omega
      rw [Lib.decDigits, dif_neg h]
      generalize n / 10 = e at *
      generalize n % 10 = d at *
      have hw : IntKind.i64.wrap ((d : Int) + 1) = ((d + 1 : Nat) : Int) := by rw [wrap64_id (by omega)]; omega
      have hp : (0 : Int) ≤ (d : Int) + 1 := by omega
      have hd' := fun H => slice_dig (H := H) hd
      generalize UInt8.ofNat (48 + d) = c at *
      have hs : ∀ {t : TypeId} {cx cy : Bool}, evBin P .add t cx cy (sv (Lib.decDigits e)) (sv [c]) = some (sv (Lib.decDigits e ++ [c])) := by
        intro t cx cy
        refine evBin_sadd ?_
        simp; omega
      simp [c44, h0, h', hq, hr, hq', hr', hw, ih, evBin_quo, evBin_rem, hd', hp, hs]

theorem num_ans {n : Int} (h : -1000000000 < n ∧ n < 1000000000) : ans (env P) 44 [.val (.int .i64 n)] = some (sv (Lib.itoa n)) := by
  by_cases h0 : n < 0
  · refine ans_V rfl rfl ?_
    have hn := num_nat (P := P) n.natAbs (by omega)
    have hl := dec_len n.natAbs 8 (by omega)
    have hw : IntKind.i64.wrap (-n) = ((n.natAbs : Nat) : Int) := by rw [wrap64_id (by omega)]; omega
    have h1 := h.1
    rw [Lib.itoa, if_pos h0]
    generalize n.natAbs = e at *
    have hs : ∀ {t : TypeId} {cx cy : Bool}, evBin P .add t cx cy (.val (.string ⟨#[45]⟩)) (sv (Lib.decDigits e)) = some (sv (45 :: Lib.decDigits e)) := by
      intro t cx cy
      exact evBin_sadd (a := [45]) (by simp; omega)
    simp [c44, h0, h1, hw, hn, hs, un_neg]
  · obtain ⟨k, rfl⟩ : ∃ k : Nat, n = k := ⟨n.toNat, by omega⟩
    rw [num_nat k (by omega), Lib.itoa, if_neg h0]
    rfl

end Go.Evl.Zone

/- The zone statements: names, numbers in digits, where a text stands, few steps. -/
namespace Go.Evl.Zone
open Go Go.Evl Go.Evl.Fl
set_option linter.unusedSimpArgs false
set_option linter.unusedVariables false
variable {P : Program}

/-- The steps' names, by their Ops. -/
def namesL : List (List UInt8) := [[], [97, 108, 108], [100, 105, 115, 99], [104, 97, 108, 102], [110, 111, 116], [97, 110, 100], [111, 114]]

def svs (l : List (List UInt8)) : List (List PV) := l.map fun x => [sv x]

@[simp] theorem svs_length (l : List (List UInt8)) : (svs l).length = l.length := by simp [svs]
@[simp] theorem svs_len : ∀ (l : List (List UInt8)), allLen 1 (svs l) = true
  | [] => rfl
  | q :: l => by simp only [svs, List.map_cons, allLen]; rw [show (List.map (fun x => [sv x]) l) = svs l from rfl, svs_len l]; rfl
theorem svs_at {l : List (List UInt8)} {i : Nat} {q : List UInt8} (h : l[i]? = some q) (h' : i < (svs l).length) : (svs l)[i] = [sv q] := by
  simp only [svs, List.getElem_map]
  rw [(List.getElem?_eq_some_iff.1 h).2]
theorem plainss_svs (l : List (List UInt8)) : plainss (svs l) = some (svs l) := plainss_ok (by intro y hy; simp [svs] at hy; obtain ⟨q, _, rfl⟩ := hy; rfl)

theorem names_ans : ans (env P) 41 [] = some (.im (svs namesL) false) := by
  refine ans_V rfl rfl ?_
  simp [c41, chunks, freeze, namesL, svs]

theorem number_ans (T : Typed P) {b : Nat} {n : Int} (h : Is b n) : ans (env P) 43 [.val (.float .f64 b)] = some (sv (Lib.itoa n)) := by
  refine ans_V rfl rfl ?_
  have hn := h.1
  have c1 : scal P (Go.convert 41 3 (.float .f64 b)) = some (.val (.int .i64 n)) := cv_fi (by rw [T.t41]; rfl) T.t3 h.toInt (by show -9223372036854775808 ≤ n ∧ n ≤ 9223372036854775807; omega)
  have c2 : ∀ H, pItoa [.val (.int .i64 n)] H = some ⟨sv (Lib.itoa n), H, [], some []⟩ := by
    intro H
    rw [← itoaL_lib (by omega) (by omega)]
    simp only [pItoa]
    rw [if_pos (by omega)]; rfl
  simp [c43, c1, VA_prim (E := env P) (g := 54) (p := pItoa) rfl, c2]

/-- Where a text stands in a list. -/
def idxFrom (w : List UInt8) : List (List UInt8) → Nat → Int
  | [], _ => -1
  | x :: r, i => if w = x then i else idxFrom w r (i + 1)

theorem loop49 {L : List (List UInt8)} {w : List UInt8} {ks : List Fr'} {K : Ex → St → Prop} (hL : L.length ≤ most) : ∀ (rest : List (List UInt8)) (i : Nat) (st : St), L.drop i = rest → i ≤ L.length → st.σ 0 = .im (svs L) false → st.σ 1 = sv w → st.σ 7 = .val (.int .i64 L.length) → st.σ 8 = .val (.int .i64 i) →
    (∀ st', idxFrom w rest i ≠ -1 → st'.σ 4 = .val (.int .i64 (idxFrom w rest i)) → K .ret st') → (∀ st', idxFrom w rest i = -1 → VN (env P) 49 st' ks K) → V (env P) 49 (.loop L49_0) st (.blk 0 :: ks) K
  | [], i, st, hr, hi, h0, h1, h7, h8, hret, hend => by
    obtain ⟨_, hlt, ht⟩ := drop_nil hr hi
    rw [V_loop]
    simp [L49_0, h0, h7, h8, hlt]
    exact hend _ rfl
  | q :: rest, i, st, hr, hi, h0, h1, h7, h8, hret, hend => by
    obtain ⟨hq, hlt, hr', ht⟩ := drop_cons hr
    have hc : ∀ h, (svs L)[i]'h = [sv q] := fun h => svs_at hq h
    have hw3 := wrapS (i := i) (by unfold most at hL; omega)
    have he := fun t cx cy => evBin_seql (P := P) (t := t) (cx := cx) (cy := cy) w q
    rw [V_loop]
    by_cases h : w = q
    · rw [decide_eq_true h] at he
      simp [L49_0, h0, h1, h7, h8, hlt, hc, he]
      refine hret _ ?_ ?_
      · rw [idxFrom, if_pos h]; omega
      · simp [idxFrom, h]
    · rw [decide_eq_false h] at he
      rw [idxFrom, if_neg h] at hret hend
      simp [L49_0, h0, h1, h7, h8, hlt, hc, he, hw3]
      refine loop49 hL rest (i + 1) _ hr' (by omega) ?_ ?_ ?_ ?_ hret hend
      · simp [h0]
      · simp [h1]
      · simp [h7]
      · simp

theorem index_ans {L : List (List UInt8)} {w : List UInt8} (hL : L.length ≤ most) : ans (env P) 49 [.im (svs L) false, sv w] = some (.val (.int .i64 (idxFrom w L 0))) := by
  refine ans_V rfl rfl ?_
  simp [c49]
  refine loop49 (w := w) hL L 0 _ rfl (by omega) ?_ ?_ ?_ ?_ ?_ ?_
  · simp
  · simp
  · simp
  · simp
  · intro st' _ h; simp [h]
  · intro st' h; simp [h]

/-- Are they few, and small enough? -/
def RS.small (q : RS) : Bool := !(decide (q.x > 1099511627776) || decide (q.x < -1099511627776) || decide (q.y > 1099511627776) || decide (q.y < -1099511627776) || decide (q.s > 1099511627776) || decide (q.s < -1099511627776))

theorem loop26 {L : List RS} {ks : List Fr'} {K : Ex → St → Prop} (hL : L.length ≤ 9223372036854775807) : ∀ (rest : List RS) (i : Nat) (st : St), L.drop i = rest → i ≤ L.length → st.σ 0 = .im (rsV L) false → st.σ 3 = .val (.int .i64 i) →
    (∀ st', rest.all RS.small = false → st'.σ 2 = .val (.bool false) → K .ret st') → (∀ st', rest.all RS.small = true → st'.σ 0 = .im (rsV L) false → VN (env P) 26 st' ks K) → V (env P) 26 (.loop L26_0) st (.blk 0 :: ks) K
  | [], i, st, hr, hi, h0, h3, hret, hend => by
    obtain ⟨_, hlt, ht⟩ := drop_nil hr hi
    rw [V_loop]
    simp [L26_0, h0, h3, hlt]
    exact hend _ rfl (by simp [h0])
  | q :: rest, i, st, hr, hi, h0, h3, hret, hend => by
    obtain ⟨hq, hlt, hr', ht⟩ := drop_cons hr
    have hc : ∀ h, (rsV L)[i]'h = q.cells := fun h => rsV_at hq h
    have hw3 := wrapS (i := i) (by omega)
    rw [V_loop]
    have hno : q.small = false → (q :: rest).all RS.small = false := by intro h; simp [h]
    have hyes : q.small = true → (q :: rest).all RS.small = rest.all RS.small := by intro h; simp [h]
    by_cases x1 : q.x > 1099511627776
    · simp [L26_0, h0, h3, hlt, hc, RS.cells, x1]
      exact hret _ (hno (by simp [RS.small, x1])) (by simp)
    by_cases x2 : q.x < -1099511627776
    · simp [L26_0, h0, h3, hlt, hc, RS.cells, x1, x2]
      exact hret _ (hno (by simp [RS.small, x2])) (by simp)
    by_cases y1 : q.y > 1099511627776
    · simp [L26_0, h0, h3, hlt, hc, RS.cells, x1, x2, y1]
      exact hret _ (hno (by simp [RS.small, y1])) (by simp)
    by_cases y2 : q.y < -1099511627776
    · simp [L26_0, h0, h3, hlt, hc, RS.cells, x1, x2, y1, y2]
      exact hret _ (hno (by simp [RS.small, y2])) (by simp)
    by_cases s1 : q.s > 1099511627776
    · simp [L26_0, h0, h3, hlt, hc, RS.cells, x1, x2, y1, y2, s1]
      exact hret _ (hno (by simp [RS.small, s1])) (by simp)
    by_cases s2 : q.s < -1099511627776
    · simp [L26_0, h0, h3, hlt, hc, RS.cells, x1, x2, y1, y2, s1, s2]
      exact hret _ (hno (by simp [RS.small, s2])) (by simp)
    simp [L26_0, h0, h3, hlt, hc, RS.cells, x1, x2, y1, y2, s1, s2, hw3]
    rw [hyes (by simp [RS.small]; omega)] at hret hend
    refine loop26 hL rest (i + 1) _ hr' (by omega) ?_ ?_ hret hend
    · simp [h0]
    · simp

def fewL (l : List RS) : Bool := l.all RS.small && decide (l.length ≤ 40)

theorem few_ans {l : List RS} (hL : l.length ≤ 9223372036854775807) : ans (env P) 26 [.im (rsV l) false] = some (.val (.bool (fewL l))) := by
  refine ans_V rfl rfl ?_
  simp [c26]
  refine loop26 hL l 0 _ rfl (by omega) ?_ ?_ ?_ ?_
  · simp
  · simp
  · intro st' ha h; simp [h, fewL, ha]
  · intro st' ha h
    have e : decide ((l.length : Int) ≤ 40) = decide (l.length ≤ 40) := by rw [Bool.eq_iff_iff]; simp; omega
    simp [h, fewL, ha, e]

end Go.Evl.Zone

/- The zone statements: a zone's text. -/
namespace Go.Evl.Zone
open Go Go.Evl Go.Evl.Fl
set_option linter.unusedSimpArgs false
set_option linter.unusedVariables false
variable {P : Program}

def nameOf (op : Int) : List UInt8 := namesL.getD op.toNat []

/-- A step's text. -/
def textR (q : RS) : List UInt8 := if q.op = 2 ∨ q.op = 3 then joinL [32] [nameOf q.op, Lib.itoa q.x, Lib.itoa q.y, Lib.itoa q.s] else nameOf q.op

theorem strs_svs : ∀ l : List (List UInt8), strs (svs l) = some l
  | [] => rfl
  | x :: l => by
    rw [show svs (x :: l) = [sv x] :: svs l from rfl, strs, strs_svs l]
    simp

theorem pJoin_ok {v : PV} {H : Heap} {ys : List (List UInt8)} {c : UInt8} {is : List Nat} (hv : ∀ x, v ≠ .val x) (he : elems H 1 v = some (svs ys, is)) (hl : ys.length ≤ 140737488355328) (hj : (joinL [c] ys).length ≤ 140737488355328) :
    pJoin [v, .val (.string ⟨#[c]⟩)] H = some ⟨sv (joinL [c] ys), H, [], some is⟩ := by
  unfold pJoin
  split
  · rename_i x _ h; simp at h; exact absurd h.1 (hv _)
  · rename_i x p _ h
    simp at h
    obtain ⟨h1, h2⟩ := h
    subst h1 h2
    simp only [he, strs_svs]
    rw [if_pos ⟨hl, hj⟩]
    rfl
  · rename_i h1 h2
    exact absurd rfl (h2 v ⟨#[c]⟩)

theorem joinL_len {m : Nat} {c : UInt8} : ∀ l : List (List UInt8), (∀ x ∈ l, x.length ≤ m) → (joinL [c] l).length ≤ l.length * (m + 1)
  | [], _ => by simp [joinL]
  | [x], h => by have := h x (by simp); simp [joinL]; omega
  | x :: y :: r, h => by
    have h1 := h x (by simp)
    have h2 := joinL_len (c := c) (y :: r) (fun z hz => h z (by simp [hz]))
    rw [joinL]
    simp only [List.length_append, List.length_cons, List.length_nil] at h2 ⊢
    rw [Nat.add_mul _ 1 (m + 1)]
    omega

theorem itoa_len {n : Int} (h : n.natAbs < 1000000000) : (Lib.itoa n).length ≤ 10 := by
  unfold Lib.itoa
  split
  · have := dec_len n.natAbs 8 (by omega); simp; omega
  · have := dec_len n.toNat 8 (by omega); omega

def RS.okB (q : RS) : Prop := 1 ≤ q.op ∧ q.op ≤ 6 ∧ q.x.natAbs < 1000000000 ∧ q.y.natAbs < 1000000000 ∧ q.s.natAbs < 1000000000

theorem name_len (op : Int) : (nameOf op).length ≤ 4 := by
  unfold nameOf
  by_cases h : op.toNat < 7
  · have : op.toNat = 0 ∨ op.toNat = 1 ∨ op.toNat = 2 ∨ op.toNat = 3 ∨ op.toNat = 4 ∨ op.toNat = 5 ∨ op.toNat = 6 := by omega
    rcases this with h | h | h | h | h | h | h <;> rw [h] <;> decide
  · rw [List.getD_eq_getElem?_getD, List.getElem?_eq_none (by simp [namesL]; omega)]; simp

theorem text_len {q : RS} (h : q.okB) : (textR q).length ≤ 44 := by
  obtain ⟨_, _, hx, hy, hs⟩ := h
  have h1 := itoa_len hx
  have h2 := itoa_len hy
  have h3 := itoa_len hs
  have h4 := name_len q.op
  unfold textR
  split
  · refine Nat.le_trans (joinL_len (m := 10) _ ?_) (by simp)
    intro x hx
    simp at hx
    rcases hx with rfl | rfl | rfl | rfl <;> omega
  · omega

theorem names_at {op : Int} (h : 1 ≤ op ∧ op ≤ 6) : namesL[op.toNat]? = some (nameOf op) := by
  have hlt : op.toNat < namesL.length := by simp [namesL]; omega
  rw [nameOf, List.getD_eq_getElem?_getD, List.getElem?_eq_getElem hlt]; rfl

theorem right_okB {q : SI} (h : q.right = true) : q.rs.okB := by
  unfold SI.right rightB near at h
  unfold RS.okB SI.rs
  simp only
  split at h
  · simp at h; omega
  · split at h
    · simp at h; omega
    · split at h
      · simp at h; omega
      · simp at h

theorem foldS_right : ∀ (l : List SI) (n m : Int), foldR l n = some m → ∀ q ∈ l, q.right = true
  | [], _, _, _, _, hq => by simp at hq
  | p :: l, n, m, h, q, hq => by
    rw [foldR] at h
    split at h
    · simp at h
    · rename_i hno
      simp at hno
      rcases List.mem_cons.1 hq with rfl | hq
      · exact hno.1
      · exact foldS_right l _ m h q hq

theorem zoneRight_all {l : List SI} (h : zoneRight l = true) : l.length ≤ 32 ∧ l ≠ [] ∧ ∀ q ∈ l, q.right = true := by
  unfold zoneRight at h
  simp at h
  refine ⟨h.1, ?_, foldS_right l 0 1 h.2⟩
  rintro rfl
  simp [foldR] at h

set_option maxHeartbeats 4000000 in
theorem loop25 (T : Typed P) {L : List SI} (hok : ∀ q ∈ L, q.ok) (hri : ∀ q ∈ L, q.right = true) {ks : List Fr'} {K : Ex → St → Prop} (hL : L.length ≤ 32) : ∀ (rest : List SI) (i : Nat) (st : St) (v : PV), L.drop i = rest → i ≤ L.length → st.σ 10 = .im (stepsV L) false → st.σ 11 = .val (.int .i64 L.length) → st.σ 12 = .val (.int .i64 i) → st.σ 3 = v → Lst st.h 1 v (svs ((L.take i).map fun q => textR q.rs)) →
    (∀ st' v, st'.σ 3 = v → Lst st'.h 1 v (svs (L.map fun q => textR q.rs)) → VN (env P) 25 st' ks K) → V (env P) 25 (.loop L25_0) st (.blk 0 :: ks) K
  | [], i, st, v, hr, hi, h10, h11, h12, h3, hl, hend => by
    obtain ⟨_, hlt, ht⟩ := drop_nil hr hi
    rw [ht] at hl
    rw [V_loop]
    simp [L25_0, h10, h11, h12, hlt]
    exact hend _ v (by simp [h3]) (by simpa using hl.grow)
  | q :: rest, i, st, v, hr, hi, h10, h11, h12, h3, hl, hend => by
    obtain ⟨hq, hlt, hr', ht⟩ := drop_cons hr
    have hc : ∀ h, (stepsV L)[i]'h = q.cells := fun h => (List.getElem?_eq_some_iff.1 (stepsV_get hq)).2
    have hm := List.mem_of_getElem? hq
    obtain ⟨q1, q2, q3⟩ := hok q hm
    have hb := right_okB (hri q hm)
    obtain ⟨b1, b2, bx, bY, bs⟩ := hb
    simp only [SI.rs] at b1 b2 bx bY bs
    have hw3 := wrapS (i := i) (by omega)
    have hN : ans (env P) 41 [] = some (.im (svs namesL) false) := names_ans
    have hn : ∀ h, (svs namesL)[q.op.toNat]'h = [sv (nameOf q.op)] := fun h => svs_at (names_at ⟨b1, b2⟩) h
    have n1 := number_ans T q1
    have n2 := number_ans T q2
    have n3 := number_ans T q3
    have g0 : 0 ≤ q.op := by omega
    have g7 : q.op < 7 := by omega
    have gl : namesL.length = 7 := rfl
    have hj : ∀ H, pJoin [.im [[sv (nameOf q.op)], [sv (Lib.itoa q.x)], [sv (Lib.itoa q.y)], [sv (Lib.itoa q.s)]] true, .val (.string ⟨#[32]⟩)] H = some ⟨sv (joinL [32] [nameOf q.op, Lib.itoa q.x, Lib.itoa q.y, Lib.itoa q.s]), H, [], some []⟩ := by
      intro H
      refine pJoin_ok (by intro x h; cases h) ?_ (by simp) ?_
      · rfl
      · refine Nat.le_trans (joinL_len (m := 10) _ ?_) (by simp)
        intro x hx
        have h1 := itoa_len bx
        have h2 := itoa_len bY
        have h3 := itoa_len bs
        have h4 := name_len q.op
        simp at hx
        rcases hx with rfl | rfl | rfl | rfl <;> omega
    generalize hA : joinL [32] [nameOf q.op, Lib.itoa q.x, Lib.itoa q.y, Lib.itoa q.s] = A at hj
    have hJP := fun {dst : Option Nat} {rest : List CI} {i slot slot' : Nat} {log : Log} {d : Option (Nat × List (Nat × Nat))} {K : Ex → St → Prop} {st : St} {ks : List Fr'} {xs : List O} => VA_prim (E := env P) (f := 25) (g := 42) (p := pJoin) (dst := dst) (rest := rest) (i := i) (slot := slot) (slot' := slot') (log := log) (d := d) (K := K) (st := st) (ks := ks) (xs := xs) rfl
    rw [V_loop]
    have hS : ∀ C D : List SI, svs ((C ++ D).map fun q => textR q.rs) = svs (C.map fun q => textR q.rs) ++ svs (D.map fun q => textR q.rs) := fun C D => by simp [svs]
    by_cases o : q.op = 2 ∨ q.op = 3
    · have hx : textR q.rs = A := by rw [← hA]; simp [textR, SI.rs, o]
      have fin : ∀ (w : List UInt8), w = A → svs [w] = [[sv w]] := fun w _ => rfl
      obtain ⟨op, x, y, s, re, im, sz⟩ := q
      simp only at o b1 b2 bx bY bs hn n1 n2 n3 g0 g7 hj
      have hn' : (∀ h, (svs namesL)[2]'h = [sv (nameOf 2)]) ∧ (∀ h, (svs namesL)[3]'h = [sv (nameOf 3)]) := ⟨fun h => svs_at rfl h, fun h => svs_at rfl h⟩
      obtain ⟨hn2, hn3⟩ := hn'
      clear hn
      rcases o with o | o <;> subst o
      · simp [L25_0, h10, h11, h12, h3, hlt, hc, SI.cells, hN, hn2, gl, n1, n2, n3, hJP, hj, chunks, elems, allLen]
        refine VP_app (ys := svs ((L.take i).map fun q => textR q.rs)) (by repeat (first | exact hl | refine Lst.grow ?_ | refine Lst.putN ?_ (by simp))) (by simp) (by simp) rfl (by simp; unfold most; omega) fun v' H' wr rd e2 e3 _ => ?_
        simp [h10, h11, h12, hw3, e3]
        refine loop25 T hok hri hL rest (i + 1) _ v' hr' (by omega) ?_ ?_ ?_ ?_ ?_ hend
        · simp [h10]
        · simp [h11]
        · simp
        · simp
        · rw [ht, hS]
          simp only [List.map_cons, List.map_nil, hx]
          exact e2.grow
      · simp [L25_0, h10, h11, h12, h3, hlt, hc, SI.cells, hN, hn3, gl, n1, n2, n3, hJP, hj, chunks, elems, allLen]
        refine VP_app (ys := svs ((L.take i).map fun q => textR q.rs)) (by repeat (first | exact hl | refine Lst.grow ?_ | refine Lst.putN ?_ (by simp))) (by simp) (by simp) rfl (by simp; unfold most; omega) fun v' H' wr rd e2 e3 _ => ?_
        simp [h10, h11, h12, hw3, e3]
        refine loop25 T hok hri hL rest (i + 1) _ v' hr' (by omega) ?_ ?_ ?_ ?_ ?_ hend
        · simp [h10]
        · simp [h11]
        · simp
        · simp
        · rw [ht, hS]
          simp only [List.map_cons, List.map_nil, hx]
          exact e2.grow
    · have hx : textR q.rs = nameOf q.op := by simp [textR, SI.rs, o]
      obtain ⟨o2, o3⟩ := not_or.1 o
      simp [L25_0, h10, h11, h12, h3, hlt, hc, SI.cells, hN, hn, g0, g7, gl, o2, o3, chunks, elems, allLen]
      refine VP_app (ys := svs ((L.take i).map fun q => textR q.rs)) (by repeat (first | exact hl | refine Lst.grow ?_ | refine Lst.putN ?_ (by simp))) (by simp) (by simp) rfl (by simp; unfold most; omega) fun v' H' wr rd e2 e3 _ => ?_
      simp [h10, h11, h12, hw3, e3]
      refine loop25 T hok hri hL rest (i + 1) _ v' hr' (by omega) ?_ ?_ ?_ ?_ ?_ hend
      · simp [h10]
      · simp [h11]
      · simp
      · simp
      · rw [ht, hS]
        simp only [List.map_cons, List.map_nil, hx]
        exact e2.grow

/-- A zone's text. -/
def textL (l : List RS) : List UInt8 := joinL [44] (l.map textR)

theorem text_ans (T : Typed P) {l : List SI} (hok : ∀ q ∈ l, q.ok) : ans (env P) 25 [.im (stepsV l) false] = some (sv (if zoneRight l then textL (l.map SI.rs) else [])) := by
  have hr := zoneRight_ans (P := P) hok
  refine ans_V rfl rfl ?_
  cases hz : zoneRight l
  · rw [hz] at hr
    simp [c25, hr]
  · rw [hz] at hr
    obtain ⟨hl, _, hri⟩ := zoneRight_all hz
    have hJP := fun {dst : Option Nat} {rest : List CI} {i slot slot' : Nat} {log : Log} {d : Option (Nat × List (Nat × Nat))} {K : Ex → St → Prop} {st : St} {ks : List Fr'} {xs : List O} => VA_prim (E := env P) (f := 25) (g := 42) (p := pJoin) (dst := dst) (rest := rest) (i := i) (slot := slot) (slot' := slot') (log := log) (d := d) (K := K) (st := st) (ks := ks) (xs := xs) rfl
    simp [c25, hr]
    refine loop25 T hok hri hl l 0 _ _ rfl (by omega) (by simp) (by simp) (by simp) rfl ?_ ?_
    · simp; exact Lst.nil
    · intro st' v h3 hl'
      have hl'' := (hl'.grow (m := 0))
      obtain ⟨is, he⟩ := hl''.elems
      have hv : ∀ x, v ≠ .val x := by intro x h; cases hl' with
        | im hv _ => rw [hv] at h; cases h
        | row _ _ hv => rw [hv] at h; cases h
      have hj := pJoin_ok (c := 44) hv he (by simp; omega) (by
        refine Nat.le_trans (joinL_len (m := 44) _ ?_) (by simp; omega)
        intro x hx
        simp at hx
        obtain ⟨q, hq, rfl⟩ := hx
        exact text_len (right_okB (hri q hq)))
      have hT : joinL [44] (l.map fun q => textR q.rs) = textL (l.map SI.rs) := by rw [textL, List.map_map]; rfl
      rw [hT] at hj
      simp [h3, hJP, hj]

end Go.Evl.Zone

/- The zone statements: the document's text of a zone. -/
namespace Go.Evl.Zone
open Go Go.Evl Go.Evl.Fl
set_option linter.unusedSimpArgs false
set_option linter.unusedVariables false
variable {P : Program}

theorem joinL_snoc (c : UInt8) (x : List UInt8) : ∀ l : List (List UInt8), l ≠ [] → joinL [c] (l ++ [x]) = joinL [c] l ++ [c] ++ x
  | [], h => absurd rfl h
  | [y], _ => by simp [joinL]
  | y :: z :: r, _ => by
    have ih := joinL_snoc c x (z :: r) (by simp)
    rw [show (y :: z :: r) ++ [x] = y :: z :: (r ++ [x]) from rfl, joinL, joinL, show z :: (r ++ [x]) = (z :: r) ++ [x] from rfl, ih]
    simp

theorem textR_si (q : RS) : textR q.si.rs = textR q := rfl
theorem toSI_rs : ∀ l : List RS, (toSI l).map SI.rs = l
  | [] => rfl
  | q :: l => by
    have := toSI_rs l
    simp only [toSI, List.map_cons] at this ⊢
    rw [this]; rfl

theorem textL_len {l : List RS} (h : ∀ q ∈ l, q.okB) (hl : l.length ≤ 32) : (textL l).length ≤ 1440 := by
  refine Nat.le_trans (joinL_len (m := 44) _ ?_) (by simp; omega)
  intro x hx
  simp at hx
  obtain ⟨q, hq, rfl⟩ := hx
  exact text_len (h q hq)

theorem sadd_ex (a b : List UInt8) (h : a.length + b.length ≤ 100000) : ∃ c, c = a ++ b ∧ c.length = a.length + b.length ∧ ∀ (t : TypeId) (cx cy : Bool), evBin P .add t cx cy (sv a) (sv b) = some (sv c) :=
  ⟨a ++ b, rfl, by simp, fun t cx cy => evBin_sadd (by omega)⟩

theorem sadd_ex1 (a : List UInt8) (b : UInt8) (h : a.length ≤ 100000) : ∃ c, c = a ++ [b] ∧ c.length = a.length + 1 ∧ ∀ (t : TypeId) (cx cy : Bool), evBin P .add t cx cy (sv a) (.val (.string ⟨#[b]⟩)) = some (sv c) :=
  ⟨a ++ [b], rfl, by simp, fun t cx cy => evBin_sadd (b := [b]) (by simp; omega)⟩

set_option maxHeartbeats 4000000 in
theorem loop28 {L : List RS} (hri : ∀ q ∈ L, q.okB) {ks : List Fr'} {K : Ex → St → Prop} (hL : L.length ≤ 32) : ∀ (rest : List RS) (i : Nat) (st : St), L.drop i = rest → i ≤ L.length → st.σ 0 = .im (rsV L) false → st.σ 3 = .im (svs namesL) true → st.σ 5 = .val (.int .i64 i) → st.σ 4 = sv (textL (L.take i)) →
    (∀ st', st'.σ 4 = sv (textL L) → VN (env P) 28 st' ks K) → V (env P) 28 (.loop L28_0) st (.blk 0 :: ks) K
  | [], i, st, hr, hi, h0, h3, h5, h4, hend => by
    obtain ⟨_, hlt, ht⟩ := drop_nil hr hi
    rw [ht] at h4
    rw [V_loop]
    simp [L28_0, h0, h5, hlt]
    exact hend _ (by simp [h4])
  | q :: rest, i, st, hr, hi, h0, h3, h5, h4, hend => by
    obtain ⟨hq, hlt, hr', ht⟩ := drop_cons hr
    have hc : ∀ h, (rsV L)[i]'h = q.cells := fun h => rsV_at hq h
    have hm := List.mem_of_getElem? hq
    have hb := hri q hm
    obtain ⟨b1, b2, bx, bY, bs⟩ := hb
    have hw3 := wrapS (i := i) (by omega)
    have hn : ∀ h, (svs namesL)[q.op.toNat]'h = [sv (nameOf q.op)] := fun h => svs_at (names_at ⟨b1, b2⟩) h
    have n1 := num_ans (P := P) (n := q.x) (by omega)
    have n2 := num_ans (P := P) (n := q.y) (by omega)
    have n3 := num_ans (P := P) (n := q.s) (by omega)
    have g0 : 0 ≤ q.op := by omega
    have g7 : q.op < 7 := by omega
    have gl : namesL.length = 7 := rfl
    have hT := textL_len (l := L.take i) (fun q hq => hri q (List.mem_of_mem_take hq)) (by simp; omega)
    have hA : textL (L.take (i + 1)) = (if i = 0 then [] else textL (L.take i) ++ [44]) ++ textR q := by
      rw [ht, textL, List.map_append]
      by_cases h : i = 0
      · subst h; simp [joinL]
      · rw [if_neg h, List.map_cons, List.map_nil, joinL_snoc _ _ _ (by
          intro e
          have := congrArg List.length e
          simp at this
          rcases this with r | r
          · exact h r
          · subst r; simp at hlt)]
        rfl
    have l1 := itoa_len bx
    have l2 := itoa_len bY
    have l3 := itoa_len bs
    have l4 := name_len q.op
    have hT0 : i = 0 → textL (L.take i) = [] := by rintro rfl; simp [textL, joinL]
    generalize textL (L.take i) = T at *
    obtain ⟨B0, e0, k0, f0⟩ := sadd_ex1 (P := P) T 44 (by omega)
    obtain ⟨B, hB, kB, hs⟩ : ∃ B : List UInt8, B = (if i = 0 then [] else T ++ [44]) ∧ B.length ≤ 1441 ∧ (i = 0 ∧ T = B ∨ (0 < i ∧ B0 = B)) := by
      by_cases h : i = 0
      · refine ⟨T, ?_, by omega, .inl ⟨h, rfl⟩⟩
        rw [if_pos h]
        exact hT0 h
      · exact ⟨B0, by rw [if_neg h, e0], by omega, .inr ⟨by omega, rfl⟩⟩
    rw [← hB] at hA
    obtain ⟨B1, e1, k1, f1⟩ := sadd_ex (P := P) B (nameOf q.op) (by omega)
    obtain ⟨B2, e2, k2, f2⟩ := sadd_ex1 (P := P) B1 32 (by omega)
    obtain ⟨B3, e3, k3, f3⟩ := sadd_ex (P := P) B2 (Lib.itoa q.x) (by omega)
    obtain ⟨B4, e4, k4, f4⟩ := sadd_ex1 (P := P) B3 32 (by omega)
    obtain ⟨B5, e5, k5, f5⟩ := sadd_ex (P := P) B4 (Lib.itoa q.y) (by omega)
    obtain ⟨B6, e6, k6, f6⟩ := sadd_ex1 (P := P) B5 32 (by omega)
    obtain ⟨B7, e7, k7, f7⟩ := sadd_ex (P := P) B6 (Lib.itoa q.s) (by omega)
    have w1 : q.op = 2 ∨ q.op = 3 → textL (L.take (i + 1)) = B7 := by
      intro o
      rw [hA, textR, if_pos o, e7, e6, e5, e4, e3, e2, e1]
      simp [joinL]
    have w2 : ¬ (q.op = 2 ∨ q.op = 3) → textL (L.take (i + 1)) = B1 := by
      intro o
      rw [hA, textR, if_neg o, e1]
    have hi0 : (i = 0 ∧ T = B) → ((0 : Int) < (i : Int)) = False := fun h => by simp; omega
    have hn2 : ∀ h, (svs namesL)[2]'h = [sv (nameOf 2)] := fun h => svs_at rfl h
    have hn3 : ∀ h, (svs namesL)[3]'h = [sv (nameOf 3)] := fun h => svs_at rfl h
    obtain ⟨op, x, y, s⟩ := q
    simp only at *
    rw [V_loop]
    have fin : ∀ (st' : St) (W : List UInt8), textL (L.take (i + 1)) = W → st'.σ 0 = .im (rsV L) false → st'.σ 3 = .im (svs namesL) true → st'.σ 5 = .val (.int .i64 ((i + 1 : Nat) : Int)) → st'.σ 4 = sv W → V (env P) 28 (.loop L28_0) st' (.blk 0 :: ks) K :=
      fun st' W hW a0 a3 a5 a4 => loop28 hri hL rest (i + 1) st' hr' (by omega) a0 a3 a5 (by rw [a4, hW]) hend
    clear e0 e1 e2 e3 e4 e5 e6 e7 k0 k1 k2 k3 k4 k5 k6 k7 hA hT hB
    rcases hs with ⟨z, rfl⟩ | ⟨z, rfl⟩
    · have z' : ¬ (0 < i) := by omega
      by_cases o2 : op = 2
      · have w := w1 (.inl o2)
        subst o2
        simp [L28_0, h0, h3, h4, h5, hlt, hc, RS.cells, hn, hn2, hn3, n1, n2, n3, z', gl, f1, f2, f3, f4, f5, f6, f7, hw3]
        refine fin _ _ w ?_ ?_ ?_ ?_ <;> simp [h0, h3]
      · by_cases o3 : op = 3
        · have w := w1 (.inr o3)
          subst o3
          simp [L28_0, h0, h3, h4, h5, hlt, hc, RS.cells, hn, hn2, hn3, n1, n2, n3, z', gl, f1, f2, f3, f4, f5, f6, f7, hw3]
          refine fin _ _ w ?_ ?_ ?_ ?_ <;> simp [h0, h3]
        · have w := w2 (by omega)
          simp [L28_0, h0, h3, h4, h5, hlt, hc, RS.cells, hn, o2, o3, z', g0, g7, gl, f1, hw3]
          refine fin _ _ w ?_ ?_ ?_ ?_ <;> simp [h0, h3]
    · by_cases o2 : op = 2
      · have w := w1 (.inl o2)
        subst o2
        simp [L28_0, h0, h3, h4, h5, hlt, hc, RS.cells, hn, hn2, hn3, n1, n2, n3, z, gl, f0, f1, f2, f3, f4, f5, f6, f7, hw3]
        refine fin _ _ w ?_ ?_ ?_ ?_ <;> simp [h0, h3]
      · by_cases o3 : op = 3
        · have w := w1 (.inr o3)
          subst o3
          simp [L28_0, h0, h3, h4, h5, hlt, hc, RS.cells, hn, hn2, hn3, n1, n2, n3, z, gl, f0, f1, f2, f3, f4, f5, f6, f7, hw3]
          refine fin _ _ w ?_ ?_ ?_ ?_ <;> simp [h0, h3]
        · have w := w2 (by omega)
          simp [L28_0, h0, h3, h4, h5, hlt, hc, RS.cells, hn, o2, o3, z, g0, g7, gl, f0, f1, hw3]
          refine fin _ _ w ?_ ?_ ?_ ?_ <;> simp [h0, h3]

theorem refText_ans {l : List RS} : ans (env P) 28 [.im (rsV l) false] = some (sv (if zoneRight (toSI l) then textL l else [])) := by
  have hr := refRight_ans (P := P) (l := l)
  refine ans_V rfl rfl ?_
  cases hz : zoneRight (toSI l)
  · rw [hz] at hr
    simp [c28, hr]
  · rw [hz] at hr
    obtain ⟨hl, _, hri⟩ := zoneRight_all hz
    have hri' : ∀ q ∈ l, q.okB := by
      intro q hq
      have := right_okB (hri q.si (by simp [toSI]; exact ⟨q, hq, rfl⟩))
      exact this
    simp [c28, hr, chunks]
    refine loop28 hri' (by simpa [toSI] using hl) l 0 _ rfl (by omega) (by simp) (by simp [namesL, svs]) (by simp) (by simp [textL, joinL]) ?_
    intro st' h4
    simp [h4]

end Go.Evl.Zone

/- The zone statements: words, and the numbers that they spell. -/
namespace Go.Evl.Zone
open Go Go.Evl Go.Evl.Fl
set_option linter.unusedSimpArgs false
set_option linter.unusedVariables false
variable {P : Program}

theorem splitL_one {c : UInt8} : ∀ {x : List UInt8}, c ∉ x → splitL c x = [x]
  | [], _ => rfl
  | b :: l, h => by
    simp only [List.mem_cons, not_or] at h
    rw [splitL, if_neg (fun e => h.1 e.symm), splitL_one h.2]

theorem splitL_app {c : UInt8} {r : List UInt8} : ∀ {x : List UInt8}, c ∉ x → splitL c (x ++ c :: r) = x :: splitL c r
  | [], _ => by simp [splitL]
  | b :: l, h => by
    simp only [List.mem_cons, not_or] at h
    rw [List.cons_append, splitL, if_neg (fun e => h.1 e.symm), splitL_app h.2]

theorem splitL_join {c : UInt8} : ∀ {l : List (List UInt8)}, l ≠ [] → (∀ x ∈ l, c ∉ x) → splitL c (joinL [c] l) = l
  | [], h, _ => absurd rfl h
  | [x], _, h => by rw [joinL]; exact splitL_one (h x (by simp))
  | x :: y :: r, _, h => by
    rw [joinL, List.append_assoc, show [c] ++ joinL [c] (y :: r) = c :: joinL [c] (y :: r) from rfl, splitL_app (h x (by simp)), splitL_join (by simp) fun z hz => h z (by simp [hz])]

theorem dec_dig : ∀ (u : Nat), ∀ c ∈ Lib.decDigits u, 48 ≤ c.toNat ∧ c.toNat ≤ 57 := by
  intro u
  induction u using Nat.strongRecOn with
  | _ u IH =>
    intro c hc
    have key : ∀ d, d < 10 → 48 ≤ (UInt8.ofNat (48 + d)).toNat ∧ (UInt8.ofNat (48 + d)).toNat ≤ 57 := by
      intro d hd
      have : (UInt8.ofNat (48 + d)).toNat = 48 + d := by rw [UInt8.toNat_ofNat']; omega
      omega
    rw [Lib.decDigits] at hc
    split at hc
    · rename_i h
      simp only [List.mem_singleton] at hc
      rw [hc]; exact key u h
    · rename_i h
      rcases List.mem_append.1 hc with hc | hc
      · exact IH (u / 10) (by omega) c hc
      · simp only [List.mem_singleton] at hc
        rw [hc]; exact key (u % 10) (by omega)

theorem itoa_ch {n : Int} : ∀ c ∈ Lib.itoa n, c.toNat = 45 ∨ (48 ≤ c.toNat ∧ c.toNat ≤ 57) := by
  intro c hc
  unfold Lib.itoa at hc
  split at hc
  · rcases List.mem_cons.1 hc with rfl | hc
    · exact .inl rfl
    · exact .inr (dec_dig _ c hc)
  · exact .inr (dec_dig _ c hc)

theorem itoa_no {n : Int} {c : UInt8} (h : c.toNat < 45) : c ∉ Lib.itoa n := by
  intro hc
  have := itoa_ch c hc
  omega

theorem parse_app {c : UInt8} : ∀ {l : List UInt8} {acc v : Nat}, Lib.parseUint10 acc l = .ok v → Lib.parseUint10 acc (l ++ [c]) = Lib.parseUint10 v [c]
  | [], acc, v, h => by
    simp only [Lib.parseUint10] at h
    injection h with h
    subst h; rfl
  | b :: l, acc, v, h => by
    rw [Lib.parseUint10] at h
    rw [List.cons_append, Lib.parseUint10]
    split at h
    · rename_i h1
      rw [if_pos h1]
      split at h
      · cases h
      · rename_i h2
        rw [if_neg h2]
        split at h
        · cases h
        · rename_i h3
          rw [if_neg h3]
          exact parse_app h
    · cases h

theorem parse_dec : ∀ (u : Nat), u < 1000000000 → Lib.parseUint10 0 (Lib.decDigits u) = .ok u := by
  intro u
  induction u using Nat.strongRecOn with
  | _ u IH =>
    intro hu
    have key : ∀ v d, d < 10 → v < 1000000000 → Lib.parseUint10 v [UInt8.ofNat (48 + d)] = .ok (v * 10 + d) := by
      intro v d hd hv
      have e : (UInt8.ofNat (48 + d)).toNat = 48 + d := by rw [UInt8.toNat_ofNat']; omega
      rw [Lib.parseUint10, e, if_pos (by omega), if_neg (by omega), if_neg (by omega), Lib.parseUint10]
      congr 1
      omega
    rw [Lib.decDigits]
    split
    · rename_i h
      rw [key 0 u h (by omega)]
      congr 1
      omega
    · rename_i h
      rw [parse_app (IH (u / 10) (by omega) (by omega)), key _ _ (by omega) (by omega)]
      congr 1
      omega

theorem dec_ne (u : Nat) : Lib.decDigits u ≠ [] := by
  rw [Lib.decDigits]
  split <;> simp

theorem atoi_itoa {n : Int} (h : n.natAbs < 1000000000) : Lib.atoiAll (Lib.itoa n) = .ok n := by
  unfold Lib.itoa
  split
  · rename_i h0
    simp only [Lib.atoiAll]
    have e : (45 : UInt8).toNat = 45 := rfl
    rw [e, if_pos (.inr rfl), Lib.parseMag, if_neg (dec_ne _), parse_dec _ h]
    simp only
    rw [if_neg (by simp), if_neg (by omega)]
    simp
    omega
  · rename_i h0
    cases hd : Lib.decDigits n.toNat with
    | nil => exact absurd hd (dec_ne _)
    | cons c r =>
      have hc := dec_dig n.toNat c (by rw [hd]; simp)
      have n43 : ¬ c.toNat = 43 := by omega
      have n45 : ¬ c.toNat = 45 := by omega
      simp only [Lib.atoiAll]
      rw [if_neg (by omega), Lib.parseMag, if_neg (by simp), ← hd, parse_dec _ (by omega)]
      simp only [n45]
      rw [if_neg (by omega), if_neg (by simp)]
      simp
      omega

theorem pAtoi_itoa {n : Int} (h : n.natAbs < 1000000000) (H : Heap) : pAtoi [sv (Lib.itoa n)] H = some ⟨.tup [.val (.int .i64 n), .val .nilIface], H, [], some []⟩ := by
  have hl := itoa_len h
  unfold pAtoi
  simp only
  rw [if_pos (by show (Lib.itoa n).length ≤ _; omega), atoi_itoa h]

theorem pSplit_ok {c : UInt8} {l : List UInt8} (h : l.length < 4294967281) (H : Heap) : pSplit [sv l, .val (.string ⟨#[c]⟩)] H = some ⟨.im (svs (splitL c l)) false, H, [], some []⟩ := by
  unfold pSplit
  simp only
  rw [if_pos (by show l.length < _; omega)]
  rfl

theorem name_no {op : Int} {c : UInt8} (h : c.toNat < 45) : c ∉ nameOf op := by
  have key : ∀ x ∈ namesL, ∀ d ∈ x, 97 ≤ d.toNat := by decide
  intro hc
  unfold nameOf at hc
  rw [List.getD_eq_getElem?_getD] at hc
  cases hx : namesL[op.toNat]? with
  | none => rw [hx] at hc; simp at hc
  | some x =>
    rw [hx] at hc
    have := key x (List.mem_of_getElem? hx) c hc
    omega

theorem text_no {q : RS} : (44 : UInt8) ∉ textR q := by
  unfold textR
  split
  · simp only [joinL]
    have a := name_no (op := q.op) (c := 44) (by decide)
    have b := itoa_no (n := q.x) (c := 44) (by decide)
    have d := itoa_no (n := q.y) (c := 44) (by decide)
    have e := itoa_no (n := q.s) (c := 44) (by decide)
    simp [a, b, d, e]
  · exact name_no (by decide)

end Go.Evl.Zone

/- The zone statements: a step, and a zone, out of its text. -/
namespace Go.Evl.Zone
open Go Go.Evl Go.Evl.Fl
set_option linter.unusedSimpArgs false
set_option linter.unusedVariables false
variable {P : Program}

theorem words_text (q : RS) : splitL 32 (textR q) = if q.op = 2 ∨ q.op = 3 then [nameOf q.op, Lib.itoa q.x, Lib.itoa q.y, Lib.itoa q.s] else [nameOf q.op] := by
  have a := name_no (op := q.op) (c := 32) (by decide)
  have b := itoa_no (n := q.x) (c := 32) (by decide)
  have d := itoa_no (n := q.y) (c := 32) (by decide)
  have e := itoa_no (n := q.s) (c := 32) (by decide)
  unfold textR
  split
  · refine splitL_join (by simp) ?_
    intro x hx
    simp at hx
    rcases hx with rfl | rfl | rfl | rfl <;> assumption
  · exact splitL_one a

theorem idx_name {op : Int} (h : 1 ≤ op ∧ op ≤ 6) : idxFrom (nameOf op) namesL 0 = op := by
  have : op = 1 ∨ op = 2 ∨ op = 3 ∨ op = 4 ∨ op = 5 ∨ op = 6 := by omega
  rcases this with h | h | h | h | h | h <;> subst h <;> decide

theorem right_zero {q : RS} (h : q.si.right = true) (h2 : ¬ (q.op = 2 ∨ q.op = 3)) : q.x = 0 ∧ q.y = 0 ∧ q.s = 0 := by
  have h : rightB q.op q.x q.y q.s = true := h
  unfold rightB at h
  rw [if_neg (by omega), if_neg (by omega)] at h
  split at h
  · simp at h; omega
  · simp at h

theorem near0 : FloatKind.f64.nearest 0 = 0 := by decide +kernel

set_option maxHeartbeats 4000000 in
theorem parsed_ans (T : Typed P) {q : RS} (hr : q.si.right = true) : ans (env P) 38 [sv (textR q)] = some (.agg q.si.cells) := by
  have hb : q.okB := right_okB (q := q.si) hr
  have hlen := text_len hb
  obtain ⟨b1, b2, bx, bY, bs⟩ := hb
  have hz := right_zero hr
  have hw := words_text q
  have hS := pSplit_ok (c := 32) (l := textR q) (by omega)
  have hN : ans (env P) 41 [] = some (.im (svs namesL) false) := names_ans
  have hI := index_ans (P := P) (L := namesL) (w := nameOf q.op) (by decide)
  rw [idx_name ⟨b1, b2⟩] at hI
  rw [hw] at hS
  have a1 := pAtoi_itoa bx
  have a2 := pAtoi_itoa bY
  have a3 := pAtoi_itoa bs
  have c1 : ∀ n, scal P (Go.convert 3 41 (.int .i64 n)) = some (.val (.float .f64 (FloatKind.f64.nearest n))) := fun n => cv_if (by rw [T.t3]; rfl) T.t41
  have p37 := fun {dst : Option Nat} {rest : List CI} {i slot slot' : Nat} {log : Log} {d : Option (Nat × List (Nat × Nat))} {K : Ex → St → Prop} {st : St} {ks : List Fr'} {xs : List O} => VA_prim (E := env P) (f := 38) (g := 37) (p := pSplit) (dst := dst) (rest := rest) (i := i) (slot := slot) (slot' := slot') (log := log) (d := d) (K := K) (st := st) (ks := ks) (xs := xs) rfl
  have p50 := fun {dst : Option Nat} {rest : List CI} {i slot slot' : Nat} {log : Log} {d : Option (Nat × List (Nat × Nat))} {K : Ex → St → Prop} {st : St} {ks : List Fr'} {xs : List O} => VA_prim (E := env P) (f := 38) (g := 50) (p := pAtoi) (dst := dst) (rest := rest) (i := i) (slot := slot) (slot' := slot') (log := log) (d := d) (K := K) (st := st) (ks := ks) (xs := xs) rfl
  have w1 : IntKind.i64.wrap (1 : Int) = 1 := wrap64_id (by omega)
  have w2 : IntKind.i64.wrap (2 : Int) = 2 := wrap64_id (by omega)
  have w3 : IntKind.i64.wrap (3 : Int) = 3 := wrap64_id (by omega)
  have nq : evNil true true (.val .nilIface) (.val .nilIface) = some (.val (.bool false)) := rfl
  refine ans_V rfl rfl ?_
  by_cases o : q.op = 2 ∨ q.op = 3
  · rw [if_pos o] at hS
    have sv4 : ∀ a b c d : List UInt8, svs [a, b, c, d] = [[sv a], [sv b], [sv c], [sv d]] := fun _ _ _ _ => rfl
    rw [sv4] at hS
    simp [c38, p37, hS, hN, hI, allLen]
    rw [V_loop]
    simp [L38_0, p50, a1, c1, nq, allLen, w1, w2, w3]
    rw [V_loop]
    simp [L38_0, p50, a2, c1, nq, allLen, w1, w2, w3]
    rw [V_loop]
    simp [L38_0, p50, a3, c1, nq, allLen, w1, w2, w3]
    rw [V_loop]
    simp [L38_0, SI.cells, RS.si]
  · rw [if_neg o] at hS
    obtain ⟨zx, zy, zs⟩ := hz o
    have sv1 : ∀ a : List UInt8, svs [a] = [[sv a]] := fun _ => rfl
    rw [sv1] at hS
    simp [c38, p37, hS, hN, hI, SI.cells, RS.si, zx, zy, zs, near0, allLen]

end Go.Evl.Zone

/- The zone statements: a zone out of its text. -/
namespace Go.Evl.Zone
open Go Go.Evl Go.Evl.Fl
set_option linter.unusedSimpArgs false
set_option linter.unusedVariables false
variable {P : Program}

theorem expAs_lst {H : Heap} {k : Nat} {v : PV} {ys : List (List PV)} (h : Lst H k v ys) (hp : plainss ys = some ys) : ∃ is, expA H v = some (.im ys false, is) := by
  obtain ⟨is, hi⟩ := h.exp hp
  refine ⟨is, ?_⟩
  rw [← hi]
  cases h with
  | im hv _ => subst hv; rfl
  | row _ _ hv => subst hv; rfl

theorem resV_two {st : St} {a b : Nat} : resV st [.tmp a, .tmp b] = some (.tup [st.σ a, st.σ b]) := rfl
theorem expA_bool {H : Heap} {b : Bool} : expA H (.val (.bool b)) = some (.val (.bool b), []) := rfl
theorem expA_im {H : Heap} {xs : List (List PV)} {f : Bool} : expA H (.im xs f) = some (.im xs false, []) := rfl
theorem expA_int {H : Heap} {k : IntKind} {n : Int} : expA H (.val (.int k n)) = some (.val (.int k n), []) := rfl

/-- Words, and the steps that they are. -/
def stp (L : List (List UInt8 × SI)) : List SI := L.map Prod.snd

theorem loop23 {L : List (List UInt8 × SI)} (hp : ∀ p ∈ L, ans (env P) 38 [sv p.1] = some (.agg p.2.cells)) {ks : List Fr'} {K : Ex → St → Prop} (hL : L.length ≤ most) : ∀ (rest : List (List UInt8 × SI)) (i : Nat) (st : St) (v : PV), L.drop i = rest → i ≤ L.length → st.σ 8 = .im (svs (L.map Prod.fst)) false → st.σ 9 = .val (.int .i64 L.length) → st.σ 10 = .val (.int .i64 i) → st.σ 4 = v → Lst st.h 3 v (stepsV (stp (L.take i))) →
    (∀ st' v, st'.σ 0 = st.σ 0 → st'.σ 4 = v → Lst st'.h 3 v (stepsV (stp L)) → VN (env P) 23 st' ks K) → V (env P) 23 (.loop L23_0) st (.blk 0 :: ks) K
  | [], i, st, v, hr, hi, h8, h9, h10, h4, hl, hend => by
    obtain ⟨_, hlt, ht⟩ := drop_nil hr hi
    rw [ht] at hl
    rw [V_loop]
    simp [L23_0, h8, h9, h10, hlt]
    exact hend _ v (by simp) (by simp [h4]) (by simpa using hl.grow)
  | q :: rest, i, st, v, hr, hi, h8, h9, h10, h4, hl, hend => by
    obtain ⟨hq, hlt, hr', ht⟩ := drop_cons hr
    have hc : ∀ h, (svs (L.map Prod.fst))[i]'h = [sv q.1] := fun h => svs_at (by simp [hq]) h
    have hm := hp q (List.mem_of_getElem? hq)
    have hw3 := wrapS (i := i) (by unfold most at hL; omega)
    rw [SI.cells] at hm
    rw [V_loop]
    simp [L23_0, h8, h9, h10, h4, hlt, hc, hm, chunks, elems, allLen]
    refine VP_app (ys := stepsV (stp (L.take i))) (by repeat (first | exact hl | refine Lst.grow ?_ | refine Lst.putN ?_ (by simp))) (by simp) (by simp) rfl (by simp [stp]; omega) fun v' H' wr rd e2 e3 _ => ?_
    simp [h8, h9, h10, hw3, e3]
    refine loop23 hp hL rest (i + 1) _ v' hr' (by omega) ?_ ?_ ?_ ?_ ?_ ?_
    · simp [h8]
    · simp [h9]
    · simp
    · simp
    · rw [ht, show ∀ C D : List (List UInt8 × SI), stepsV (stp (C ++ D)) = stepsV (stp C) ++ stepsV (stp D) from fun C D => by simp [stp, stepsV]]
      exact e2.grow
    · intro st' v a b c
      exact hend st' v (by rw [a]; simp) b c

theorem parse_ans (T : Typed P) {L : List (List UInt8 × SI)} (hp : ∀ p ∈ L, ans (env P) 38 [sv p.1] = some (.agg p.2.cells)) (hok : ∀ p ∈ L, p.2.ok) {s : List UInt8} (hs : splitL 44 s = L.map Prod.fst) (hlen : s.length < 4294967281) (hL : L.length ≤ most) :
    ans (env P) 23 [sv s] = some (if (if zoneRight (stp L) then textL ((stp L).map SI.rs) else []) = s ∧ s ≠ [] then .tup [.im (stepsV (stp L)) false, .val (.bool true)] else .tup [.im [] false, .val (.bool false)]) := by
  have hT := text_ans (P := P) T (l := stp L) (by intro q hq; simp [stp] at hq; obtain ⟨a, h⟩ := hq; exact hok _ h)
  generalize (if zoneRight (stp L) then textL ((stp L).map SI.rs) else []) = W at *
  have p37 := fun {dst : Option Nat} {rest : List CI} {i slot slot' : Nat} {log : Log} {d : Option (Nat × List (Nat × Nat))} {K : Ex → St → Prop} {st : St} {ks : List Fr'} {xs : List O} => VA_prim (E := env P) (f := 23) (g := 37) (p := pSplit) (dst := dst) (rest := rest) (i := i) (slot := slot) (slot' := slot') (log := log) (d := d) (K := K) (st := st) (ks := ks) (xs := xs) rfl
  have hS := pSplit_ok (c := 44) hlen
  rw [hs] at hS
  refine ans_V rfl rfl ?_
  simp [c23, p37, hS]
  refine loop23 hp hL L 0 _ _ rfl (by omega) (by simp) (by simp) (by simp) rfl (by simp; exact Lst.nil) ?_
  intro st' v h0 h4 hl
  simp at h0
  have hl0 := hl.grow (m := 0)
  obtain ⟨is, he⟩ := expAs_lst hl0 (plainss_si _)
  have n1 := fun t cx cy => evBin_sneq (P := P) (t := t) (cx := cx) (cy := cy) W s
  have n2 : ∀ (t : TypeId) (cx cy : Bool), evBin P .eql t cx cy (sv s) (.val (.string ⟨#[]⟩)) = some (.val (.bool (decide (s = [])))) := fun t cx cy => evBin_seql (P := P) (t := t) (cx := cx) (cy := cy) s []
  by_cases hw : W = s
  · subst hw
    have n1' : ∀ (t : TypeId) (cx cy : Bool), evBin P .neq t cx cy (sv W) (sv W) = some (.val (.bool false)) := fun t cx cy => by rw [n1]; simp
    by_cases h : W = []
    · have n2' : ∀ (t : TypeId) (cx cy : Bool), evBin P .eql t cx cy (sv W) (.val (.string ⟨#[]⟩)) = some (.val (.bool true)) := fun t cx cy => by rw [n2]; simp [h]
      rw [if_neg (fun e => e.2 h)]
      simp [-expA, expA_bool, expA_im, he, hT, n1', n2', h4, h0, resV_two]
    · have n2' : ∀ (t : TypeId) (cx cy : Bool), evBin P .eql t cx cy (sv W) (.val (.string ⟨#[]⟩)) = some (.val (.bool false)) := fun t cx cy => by rw [n2]; simp [h]
      rw [if_pos ⟨rfl, h⟩]
      obtain ⟨is2, he2⟩ := expAs_lst (hl0.grow (m := 0)) (plainss_si _)
      obtain ⟨is3, he3⟩ := expAs_lst ((hl0.grow (m := 0)).grow (m := 0)) (plainss_si _)
      simp [-expA, expA_bool, expA_im, he, hT, n1', n2', h4, h0, resV_two, he2, he3]
  · rw [if_neg (fun e => hw e.1)]
    have n1' : ∀ (t : TypeId) (cx cy : Bool), evBin P .neq t cx cy (sv W) (sv s) = some (.val (.bool true)) := fun t cx cy => by rw [n1]; simp [hw]
    simp [-expA, expA_bool, expA_im, he, hT, n1', n2, hw, h4, h0, resV_two]

end Go.Evl.Zone

/- ZoneRights: its function answers true. -/
namespace Go.Evl.Zone
open Go Go.Evl Go.Evl.Fl
set_option linter.unusedSimpArgs false
set_option linter.unusedVariables false
variable {P : Program}

theorem parsed_empty : ans (env P) 38 [sv []] = some (.agg (SI.cells ⟨0, 0, 0, 0, 0, 0, 0⟩)) := by
  have hS := pSplit_ok (c := 32) (l := []) (by decide)
  have hN : ans (env P) 41 [] = some (.im (svs namesL) false) := names_ans
  have hI := index_ans (P := P) (L := namesL) (w := []) (by decide)
  rw [show idxFrom [] namesL 0 = 0 from rfl] at hI
  have p37 := fun {dst : Option Nat} {rest : List CI} {i slot slot' : Nat} {log : Log} {d : Option (Nat × List (Nat × Nat))} {K : Ex → St → Prop} {st : St} {ks : List Fr'} {xs : List O} => VA_prim (E := env P) (f := 38) (g := 37) (p := pSplit) (dst := dst) (rest := rest) (i := i) (slot := slot) (slot' := slot') (log := log) (d := d) (K := K) (st := st) (ks := ks) (xs := xs) rfl
  have e : svs (splitL 32 []) = [[sv []]] := rfl
  rw [e] at hS
  refine ans_V rfl rfl ?_
  simp [c38, p37, hS, hN, hI, SI.cells, allLen]

theorem textR_ne {q : RS} (h : q.okB) : textR q ≠ [] := by
  have hn : nameOf q.op ≠ [] := by
    have : q.op = 1 ∨ q.op = 2 ∨ q.op = 3 ∨ q.op = 4 ∨ q.op = 5 ∨ q.op = 6 := by have := h.1; have := h.2.1; omega
    rcases this with h | h | h | h | h | h <;> rw [h] <;> decide
  unfold textR
  split
  · simp [joinL, hn]
  · exact hn

theorem textL_ne {l : List RS} (h0 : l ≠ []) (h : ∀ q ∈ l, q.okB) : textL l ≠ [] := by
  cases l with
  | nil => exact absurd rfl h0
  | cons q l =>
    have := textR_ne (h q (by simp))
    cases l with
    | nil => simpa [textL, joinL] using this
    | cons p l => simp [textL, joinL, this]

/-- A zone's text is parsed as the zone; a text of none as none. -/
theorem back_ans (T : Typed P) {l : List RS} : ans (env P) 23 [sv (if zoneRight (toSI l) then textL l else [])] = some (if zoneRight (toSI l) then .tup [.im (stepsV (toSI l)) false, .val (.bool true)] else .tup [.im [] false, .val (.bool false)]) := by
  cases hz : zoneRight (toSI l)
  · have h := parse_ans (P := P) T (L := [([], ⟨0, 0, 0, 0, 0, 0, 0⟩)]) (by intro p hp; simp at hp; subst hp; exact parsed_empty) (by intro p hp; simp at hp; subst hp; exact ⟨is0, is0, is0⟩) (s := []) rfl (by decide) (by decide)
    simpa using h
  · obtain ⟨hl, h0, hri⟩ := zoneRight_all hz
    have hri' : ∀ q ∈ l, q.si.right = true := fun q hq => hri q.si (by simp [toSI]; exact ⟨q, hq, rfl⟩)
    have hok : ∀ q ∈ l, q.okB := fun q hq => right_okB (q := q.si) (hri' q hq)
    have hll : l.length ≤ 32 := by simpa [toSI] using hl
    have hlen := textL_len hok hll
    have hl0 : l ≠ [] := by rintro rfl; exact h0 rfl
    have e1 : stp (l.map fun q => (textR q, q.si)) = toSI l := by simp [stp, toSI]
    have h := parse_ans (P := P) T (L := l.map fun q => (textR q, q.si)) (s := textL l) (by
        intro p hp
        obtain ⟨q, hq, rfl⟩ := List.mem_map.1 hp
        exact parsed_ans T (hri' q hq)) (by
        intro p hp
        obtain ⟨q, hq, rfl⟩ := List.mem_map.1 hp
        obtain ⟨_, _, hx, hy, hs⟩ := hok q hq
        exact ⟨Is.nearest (by omega), Is.nearest (by omega), Is.nearest (by omega)⟩) (by
        rw [textL, splitL_join (by simpa using hl0) (by
          intro x hx
          obtain ⟨q, _, rfl⟩ := List.mem_map.1 hx
          exact text_no)]
        simp) (by omega) (by simp; unfold most; omega)
    rw [e1, hz, toSI_rs, if_pos ⟨by simp, textL_ne hl0 hok⟩] at h
    simpa using h

theorem small_in {l : List RS} (h : fewL l = true) : l.length ≤ 40 ∧ ∀ q ∈ l, (-1099511627776 ≤ q.x ∧ q.x ≤ 1099511627776) ∧ (-1099511627776 ≤ q.y ∧ q.y ≤ 1099511627776) ∧ (-1099511627776 ≤ q.s ∧ q.s ≤ 1099511627776) := by
  unfold fewL at h
  simp only [Bool.and_eq_true, List.all_eq_true, decide_eq_true_eq] at h
  refine ⟨h.2, fun q hq => ?_⟩
  have := h.1 q hq
  unfold RS.small at this
  simp at this
  omega

set_option maxRecDepth 20000 in
set_option maxHeartbeats 4000000 in
theorem zoneRights_ans (T : Typed3 P) (T4 : P.underlying 4 = some .bool) (told : ans (env P) 12 [] = some (.val (.bool true))) {l : List RS} (hlx : l.length ≤ 9223372036854775807) : ans (env P) 8 [.im (rsV l) false] = some (.val (.bool true)) := by
  have hf := few_ans (P := P) hlx
  refine ans_V rfl rfl ?_
  cases hfl : fewL l
  · rw [hfl] at hf
    simp [c8, hf, told]
  rw [hfl] at hf
  obtain ⟨hl, hin⟩ := small_in hfl
  have hlm : l.length ≤ most := by unfold most; omega
  have hok : ∀ q ∈ toSI l, q.ok := by
    intro q hq
    obtain ⟨r, hr, rfl⟩ := List.mem_map.1 hq
    obtain ⟨a, b, c⟩ := hin r hr
    exact ⟨Is.nearest (lt53 a), Is.nearest (lt53 b), Is.nearest (lt53 c)⟩
  have s1 := to_ans (P := P) T.toTyped hlm
  have s2 := text_ans (P := P) T.toTyped hok
  rw [toSI_rs] at s2
  have s3 := back_ans (P := P) T.toTyped (l := l)
  have s4 := refRight_ans (P := P) (l := l)
  have s5 := zoneRight_ans (P := P) hok
  have s6 := refText_ans (P := P) (l := l)
  have s7 := zsame_ans T hok hok (by simpa [toSI] using hlm)
  have s8 := from_ans (P := P) T.toTyped T.t33 hok (by
    intro q hq z hz
    obtain ⟨r, hr, rfl⟩ := List.mem_map.1 hq
    obtain ⟨a, b, c⟩ := hin r hr
    simp [RS.si] at hz
    rcases hz with rfl | rfl | rfl <;> omega) (by simpa [toSI] using hlm)
  have e8 : ((toSI l).map fun q => (⟨q.op, q.x, q.y, q.s⟩ : RS)) = l := toSI_rs l
  rw [e8] at s8
  have s9 := refSame_ans (P := P) T.toTyped2 (l := l) (m := l) hlm
  have hb : ∀ a b : Bool, evBin P .eql 4 false false (.val (.bool a)) (.val (.bool b)) = some (.val (.bool (a == b))) := fun a b => evBin_beql T4
  have e9 : ∀ (W : List UInt8), evBin P .eql 9 false false (sv W) (sv W) = some (.val (.bool true)) := fun W => by rw [evBin_seql]; simp
  simp only [decide_true] at s7 s9
  cases hz : zoneRight (toSI l)
  · rw [hz] at s2 s3 s4 s5 s6
    simp only [if_neg, Bool.false_eq_true, if_false] at s2 s3 s6
    have e9' := e9 []
    simp [c8, hf, told, s1, s2, s3, s4, s5, s6, s7, s8, s9, hb, e9']
  · rw [hz] at s2 s3 s4 s5 s6
    simp only [if_true] at s2 s3 s6
    have e9' := e9 (textL l)
    generalize textL l = W at *
    simp [c8, hf, told, s1, s2, s3, s4, s5, s6, s7, s8, s9, hb, e9']

end Go.Evl.Zone

/- The zone statements: the document's Split. -/
namespace Go.Evl.Zone
open Go Go.Evl Go.Evl.Fl
set_option linter.unusedSimpArgs false
set_option linter.unusedVariables false
variable {P : Program}

theorem sv_size (l : List UInt8) : (⟨l.toArray⟩ : ByteArray).size = l.length := rfl

theorem sv_slice {H : Heap} {l : List UInt8} {a b : Nat} (h1 : a ≤ b) (h2 : b ≤ l.length) : sliceP H 0 (sv l) (some a) (some b) none = some (sv ((l.drop a).take (b - a)), []) := by
  have e : (⟨l.toArray⟩ : ByteArray).extract a b = ⟨((l.drop a).take (b - a)).toArray⟩ := by
    apply ByteArray.ext
    simp
  have : sliceP H 0 (sv l) (some a) (some b) none = if 0 = 0 ∧ a ≤ b ∧ b ≤ l.length then some (.val (.string ((⟨l.toArray⟩ : ByteArray).extract a b)), []) else none := rfl
  rw [this, if_pos ⟨rfl, h1, h2⟩, e]

theorem loop39 {s : List UInt8} {c : UInt8} {ks : List Fr'} {K : Ex → St → Prop} (hs : s.length ≤ 100000) : ∀ (m i a : Nat) (st : St) (v : PV) (D : List (List UInt8)), s.length + 1 - i ≤ m → a ≤ i → i ≤ s.length → c ∉ (s.drop a).take (i - a) → D.length ≤ a → splitL c s = D ++ splitL c (s.drop a) → st.σ 0 = sv s → st.σ 1 = .val (.int .u8 (c.toNat : Int)) → st.σ 5 = v → st.σ 6 = .val (.int .i64 a) → st.σ 7 = .val (.int .i64 i) → Lst st.h 1 v (svs D) →
    (∀ st' v, st'.σ 5 = v → Lst st'.h 1 v (svs (splitL c s)) → VN (env P) 39 st' ks K) → V (env P) 39 (.loop L39_0) st (.blk 0 :: ks) K
  | 0, i, a, st, v, D, hm, ha, hi, hc, hD, hsp, h0, h1, h5, h6, h7, hl, hend => by omega
  | m + 1, i, a, st, v, D, hm, ha, hi, hc, hD, hsp, h0, h1, h5, h6, h7, hl, hend => by
    have hle : (i : Int) ≤ (s.length : Int) := by omega
    have hw := wrapS (i := i) (by omega)
    have hsl := fun H => sv_slice (H := H) (l := s) ha hi
    rw [V_loop]
    by_cases he : i = s.length
    · subst he
      have hdrop : (s.drop a).take (s.length - a) = s.drop a := by rw [List.take_of_length_le]; simp
      rw [hdrop] at hc hsl
      have hone : splitL c (s.drop a) = [s.drop a] := splitL_one hc
      generalize hA : s.drop a = A at *
      simp [L39_0, h0, h1, h5, h6, h7, sv_size, hsl, chunks, elems, allLen]
      refine VP_app (ys := svs D) (by repeat (first | exact hl | refine Lst.grow ?_ | refine Lst.putN ?_ (by simp))) (by simp) (by simp) rfl (by simp; unfold most; omega) fun v' H' wr rd e2 e3 _ => ?_
      simp [h0, h7, hw, e3]
      rw [V_loop]
      have hno : ¬ ((s.length : Int) + 1 ≤ (s.length : Int)) := by omega
      simp [L39_0, h0, sv_size, hno]
      refine hend _ v' (by simp) ?_
      rw [hsp, hone]
      have : svs (D ++ [A]) = svs D ++ [[sv A]] := by simp [svs]
      rw [this]
      repeat (first | exact e2 | refine Lst.grow ?_)
    · have hlt : i < s.length := by omega
      have hne : ¬ ((i : Int) = (s.length : Int)) := by omega
      have hb : s[i]? = some (s[i]'hlt) := List.getElem?_eq_getElem hlt
      generalize s[i]'hlt = b at hb
      have hdr : s.drop a = (s.drop a).take (i - a) ++ b :: s.drop (i + 1) := by
        have e1 := (List.take_append_drop (i - a) (s.drop a)).symm
        rw [List.drop_drop, show a + (i - a) = i by omega] at e1
        rw [List.drop_eq_getElem_cons hlt] at e1
        have : s[i]'hlt = b := by have := List.getElem?_eq_getElem hlt; rw [hb] at this; exact (Option.some.inj this).symm
        rw [this] at e1
        exact e1
      have hix : ∀ h, s[i]'h = b := fun h => by have := List.getElem?_eq_getElem h; rw [hb] at this; exact (Option.some.inj this).symm
      by_cases hbc : b = c
      · subst hbc
        have hcut : splitL b (s.drop a) = ((s.drop a).take (i - a)) :: splitL b (s.drop (i + 1)) := by
          conv => lhs; rw [hdr]
          exact splitL_app hc
        generalize hA : (s.drop a).take (i - a) = A at *
        simp [L39_0, h0, h1, h5, h6, h7, sv_size, hsl, hle, hne, hlt, hb, hix, chunks, elems, allLen]
        refine VP_app (ys := svs D) (by repeat (first | exact hl | refine Lst.grow ?_ | refine Lst.putN ?_ (by simp))) (by simp) (by simp) rfl (by simp; unfold most; omega) fun v' H' wr rd e2 e3 _ => ?_
        simp [h0, h1, h7, hw, e3]
        refine loop39 hs m (i + 1) (i + 1) _ v' (D ++ [A]) (by omega) (by omega) (by omega) (by simp) (by simp; omega) (by rw [hsp, hcut]; simp) ?_ ?_ ?_ ?_ ?_ ?_ hend
        · simp [h0]
        · simp [h1]
        · simp
        · simp
        · simp
        · have : svs (D ++ [A]) = svs D ++ [[sv A]] := by simp [svs]
          rw [this]
          repeat (first | exact e2 | refine Lst.grow ?_)
      · have hbn : ¬ (b.toNat : Int) = (c.toNat : Int) := by
          intro e
          exact hbc (UInt8.toNat_inj.1 (by omega))
        simp [L39_0, h0, h1, h5, h6, h7, sv_size, hsl, hle, hne, hlt, hb, hix, hbn, hbc, hw]
        refine loop39 hs m (i + 1) a _ v D (by omega) (by omega) (by omega) ?_ hD hsp ?_ ?_ ?_ ?_ ?_ ?_ hend
        · rw [show i + 1 - a = (i - a) + 1 by omega, List.take_add_one]
          have : (s.drop a)[i - a]? = some b := by rw [List.getElem?_drop, show a + (i - a) = i by omega]; exact hb
          rw [this]
          simp [hc]
          exact fun e => hbc e.symm
        · simp [h0]
        · simp [h1]
        · simp [h5]
        · simp [h6]
        · simp
        · repeat (first | exact hl | refine Lst.grow ?_)

theorem refSplit_ans {s : List UInt8} {c : UInt8} (hs : s.length ≤ 100000) : ans (env P) 39 [sv s, .val (.int .u8 (c.toNat : Int))] = some (.im (svs (splitL c s)) false) := by
  refine ans_V rfl rfl ?_
  simp [c39]
  refine loop39 (s := s) (c := c) hs (s.length + 1) 0 0 _ _ [] (by omega) (by omega) (by omega) (by simp) (by simp) (by simp) (by simp) (by simp) rfl (by simp) (by simp) ?_ ?_
  · simp; exact Lst.nil
  · intro st' v h5 hl
    simp [h5]
    obtain ⟨is, he⟩ := (hl.grow (m := 0)).expV (plainss_svs _)
    simpa using ⟨is, he⟩

end Go.Evl.Zone

/- The zone statements: the document's Int. -/
namespace Go.Evl.Zone
open Go Go.Evl Go.Evl.Fl
set_option linter.unusedSimpArgs false
set_option linter.unusedVariables false
variable {P : Program}

theorem wrapU8 {n : Int} (h : 0 ≤ n ∧ n < 256) : IntKind.u8.wrap n = n := by
  have : IntKind.u8.wrap n = n % 256 := rfl
  omega

/-- Digits, one behind the other. -/
def digs : List UInt8 → Nat → Option Nat
  | [], n => some n
  | b :: r, n => if 48 ≤ b.toNat ∧ b.toNat ≤ 57 then digs r (10 * n + (b.toNat - 48)) else none

theorem loop40 (T : Typed P) {T5 : List UInt8} {ks : List Fr'} {K : Ex → St → Prop} (hL : T5.length ≤ 7) : ∀ (rest : List UInt8) (i n : Nat) (st : St), T5.drop i = rest → i ≤ T5.length → n < 10 ^ i → st.σ 5 = sv T5 → st.σ 6 = .val (.int .i64 n) → st.σ 7 = .val (.int .i64 i) →
    (∀ st', digs rest n = none → st'.σ 2 = .val (.int .i64 0) → st'.σ 3 = .val (.bool false) → K .ret st') → (∀ st' r, digs rest n = some r → st'.σ 0 = st.σ 0 → st'.σ 4 = st.σ 4 → st'.σ 6 = .val (.int .i64 (r : Int)) → r < 10 ^ T5.length → VN (env P) 40 st' ks K) → V (env P) 40 (.loop L40_0) st (.blk 0 :: ks) K
  | [], i, n, st, hr, hi, hn, h5, h6, h7, hret, hend => by
    obtain ⟨hii, hlt, ht⟩ := drop_nil hr hi
    rw [V_loop]
    simp [L40_0, h5, h7, sv_size, hlt]
    exact hend _ n rfl (by simp) (by simp) (by simp [h6]) (by rw [← hii]; exact hn)
  | b :: rest, i, n, st, hr, hi, hn, h5, h6, h7, hret, hend => by
    obtain ⟨hq, hlt, hr', ht⟩ := drop_cons hr
    have hix : ∀ h, T5[i]'h = b := fun h => by have := List.getElem?_eq_getElem h; rw [hq] at this; exact (Option.some.inj this).symm
    have hw := wrapS (i := i) (by omega)
    have hp : n < 10000000 := Nat.lt_of_lt_of_le hn (Nat.le_trans (Nat.pow_le_pow_right (by decide) (by omega : i ≤ 7)) (by decide))
    have hpow : 10 ^ (i + 1) = 10 * 10 ^ i := by rw [Nat.pow_succ]; omega
    rw [V_loop]
    by_cases lo : b.toNat < 48
    · have lo' : (b.toNat : Int) < 48 := by omega
      simp [L40_0, h5, h6, h7, sv_size, hlt, hq, hix, lo, lo']
      exact hret _ (by rw [digs, if_neg (by omega)]) (by simp) (by simp)
    · have lo' : ¬ (b.toNat : Int) < 48 := by omega
      by_cases hi' : 57 < b.toNat
      · have hi2 : (57 : Int) < (b.toNat : Int) := by omega
        simp [L40_0, h5, h6, h7, sv_size, hlt, hq, hix, lo, lo', hi', hi2]
        exact hret _ (by rw [digs, if_neg (by omega)]) (by simp) (by simp)
      · have hi2 : ¬ (57 : Int) < (b.toNat : Int) := by omega
        rw [digs, if_pos (by omega)] at hret hend
        have w1 : IntKind.u8.wrap ((b.toNat : Int) - 48) = ((b.toNat - 48 : Nat) : Int) := by rw [wrapU8 (by omega)]; omega
        have w2 : IntKind.i64.wrap (10 * (n : Int)) = ((10 * n : Nat) : Int) := by rw [wrap64_id (by omega)]; omega
        have w3 : scal P (Go.convert 5 3 (.int .u8 ((b.toNat - 48 : Nat) : Int))) = some (.val (.int .i64 ((b.toNat - 48 : Nat) : Int))) := by
          rw [cv_ii (by rw [T.t5]; rfl) T.t3, wrap64_id (by omega)]
        have w4 : IntKind.i64.wrap (((10 * n : Nat) : Int) + ((b.toNat - 48 : Nat) : Int)) = ((10 * n + (b.toNat - 48) : Nat) : Int) := by rw [wrap64_id (by omega)]; omega
        have hd : b.toNat - 48 ≤ 9 := by omega
        generalize b.toNat - 48 = d at *
        generalize hm : 10 * n = m at *
        simp [L40_0, h5, h6, h7, sv_size, hlt, hq, hix, lo, lo', hi', hi2, w1, w2, w3, w4, hw]
        refine loop40 T hL rest (i + 1) (m + d) _ hr' (by omega) (by omega) ?_ ?_ ?_ hret ?_
        · simp [h5]
        · simp
        · simp
        · intro st' r a b c e f
          exact hend st' r a (by rw [b]; simp) (by rw [c]; simp) e f

/-- What the document's Int answers. -/
def refInt (s : List UInt8) : Int × Bool :=
  let body := if s.head? = some 45 then s.tail else s
  if body.length < 1 ∨ 7 < body.length then (0, false) else
  match digs body 0 with
  | none => (0, false)
  | some r => let n : Int := if s.head? = some 45 then -(r : Int) else r
    (n, decide (Lib.itoa n = s))

theorem refInt_ans (T : Typed P) {s : List UInt8} : ans (env P) 40 [sv s] = some (.tup [.val (.int .i64 (refInt s).1), .val (.bool (refInt s).2)]) := by
  refine ans_V rfl rfl ?_
  have res : ∀ {st : St} {a b : Nat}, resV st [.tmp a, .tmp b] = some (.tup [st.σ a, st.σ b]) := rfl
  cases s with
  | nil => simp [c40, sv_size, res, refInt]
  | cons b r =>
    have hp : (0 : Int) < ((b :: r).length : Int) := by simp
    have hp' : (0 : Int) < (r.length : Int) + 1 := by omega
    by_cases h : b = 45
    · subst h
      have hsl : ∀ H, sliceP H 0 (sv (45 :: r)) (some 1) none none = some (sv r, []) := by
        intro H
        have e := sv_slice (H := H) (l := 45 :: r) (a := 1) (b := r.length + 1) (by omega) (by simp)
        simp only [List.drop_succ_cons, List.drop_zero, Nat.add_sub_cancel, List.take_length] at e
        exact e
      by_cases l1 : r.length < 1
      · have l1' : (r.length : Int) < 1 := by omega
        simp [c40, sv_size, hp', hsl, l1, l1', res, refInt]
      by_cases l2 : 7 < r.length
      · have l1' : ¬ (r.length : Int) < 1 := by omega
        have l2' : (7 : Int) < (r.length : Int) := by omega
        simp [c40, sv_size, hp', hsl, l1, l1', l2, l2', res, refInt]
      have l1' : ¬ (r.length : Int) < 1 := by omega
      have l2' : ¬ (7 : Int) < (r.length : Int) := by omega
      simp [c40, sv_size, hp', hsl, l1', l2']
      refine loop40 T (T5 := r) (by omega) r 0 0 _ rfl (by omega) (by simp) (by simp) (by simp) (by simp) ?_ ?_
      · intro st' a e2 e3
        simp [e2, e3, res, refInt, l1, l2, a]
      · intro st' n a e0 e4 e6 hn
        have hn7 : n < 10000000 := Nat.lt_of_lt_of_le hn (Nat.le_trans (Nat.pow_le_pow_right (by decide) (by omega : r.length ≤ 7)) (by decide))
        simp at e0 e4
        have w : IntKind.i64.wrap (-1 * (n : Int)) = -(n : Int) := by rw [wrap64_id (by omega)]; omega
        have w' : IntKind.i64.wrap (-(n : Int)) = -(n : Int) := wrap64_id (by omega)
        have hN := num_ans (P := P) (n := -(n : Int)) (by omega)
        have he := fun t cx cy => evBin_seql (P := P) (t := t) (cx := cx) (cy := cy) (Lib.itoa (-(n : Int))) (45 :: r)
        have hR : refInt (45 :: r) = (-(n : Int), decide (Lib.itoa (-(n : Int)) = 45 :: r)) := by simp [refInt, l1, l2, a]
        rw [hR]
        generalize Lib.itoa (-(n : Int)) = Z at *
        simp [e0, e4, e6, w, w', hN, he, res]
    · have h45 : ¬ (b.toNat : Int) = 45 := by
        intro e
        exact h (UInt8.toNat_inj.1 (by show b.toNat = 45; omega))
      have hh : ¬ ((b :: r).head? = some 45) := by simpa using h
      have l1 : ¬ (b :: r).length < 1 := by simp
      have l1' : ¬ ((r.length : Int) + 1 < 1) := by omega
      by_cases l2 : 7 < (b :: r).length
      · have l2' : (7 : Int) < (r.length : Int) + 1 := by simp at l2; omega
        have hR : refInt (b :: r) = (0, false) := by rw [refInt, if_neg hh]; simp only; rw [if_pos (.inr l2)]
        rw [hR]
        simp [c40, sv_size, hp', h45, h, l1', l2', res]
      · have l2' : ¬ (7 : Int) < (r.length : Int) + 1 := by simp at l2; omega
        have hR : ∀ x, digs (b :: r) 0 = x → refInt (b :: r) = match x with | none => (0, false) | some r' => ((r' : Int), decide (Lib.itoa (r' : Int) = b :: r)) := by
          rintro x rfl
          rw [refInt, if_neg hh]; simp only; rw [if_neg (by omega)]
          simp only [if_neg hh]
        simp [c40, sv_size, hp', h45, h, l1', l2']
        refine loop40 T (T5 := b :: r) (by omega) (b :: r) 0 0 _ rfl (by omega) (by simp) (by simp) (by simp) (by simp) ?_ ?_
        · intro st' a e2 e3
          rw [hR _ a]
          simp [e2, e3, res]
        · intro st' n a e0 e4 e6 hn
          rw [hR _ a]
          have hn7 : n < 10000000 := Nat.lt_of_lt_of_le hn (Nat.le_trans (Nat.pow_le_pow_right (by decide) (by omega : (b :: r).length ≤ 7)) (by decide))
          simp at e0 e4
          have w : IntKind.i64.wrap (n : Int) = (n : Int) := wrap64_id (by omega)
          have hN := num_ans (P := P) (n := (n : Int)) (by omega)
          have he := fun t cx cy => evBin_seql (P := P) (t := t) (cx := cx) (cy := cy) (Lib.itoa (n : Int)) (b :: r)
          simp [e0, e4, e6, w, hN, he, res]

end Go.Evl.Zone

/- The zone statements: the document's Parse. -/
namespace Go.Evl.Zone
open Go Go.Evl Go.Evl.Fl
set_option linter.unusedSimpArgs false
set_option linter.unusedVariables false
variable {P : Program}

/-- The last place of a text in a list. -/
def opFrom (w : List UInt8) : List (List UInt8) → Nat → Int → Int
  | [], _, a => a
  | x :: r, i, a => opFrom w r (i + 1) (if x = w then (i : Int) else a)

def boxI (a x y s : Int) : List PV := [.val (.int .i64 a), .val (.int .i64 x), .val (.int .i64 y), .val (.int .i64 s)]

theorem loop24_0 {W : List UInt8} {ws : List (List UInt8)} {p : Nat} {v : PV} {rows : List (List PV)} {ks : List Fr'} {K : Ex → St → Prop} : ∀ (rest : List (List UInt8)) (i : Nat) (a : Int) (st : St), namesL.drop i = rest → i ≤ 7 → st.σ 4 = .im (svs namesL) true → st.σ 8 = .im (svs (W :: ws)) false → st.σ 9 = .ptr p 0 → st.h.at_ p = .box [.val (.int .i64 a), .val (.int .i64 0), .val (.int .i64 0), .val (.int .i64 0)] → p < st.h.n → Lst st.h 4 v rows → st.σ 10 = .val (.int .i64 i) →
    (∀ st', st'.σ 4 = st.σ 4 → st'.σ 5 = st.σ 5 → st'.σ 6 = st.σ 6 → st'.σ 7 = st.σ 7 → st'.σ 8 = st.σ 8 → st'.σ 9 = st.σ 9 → st'.h.at_ p = .box [.val (.int .i64 (opFrom W rest i a)), .val (.int .i64 0), .val (.int .i64 0), .val (.int .i64 0)] → p < st'.h.n → Lst st'.h 4 v rows → VN (env P) 24 st' ks K) → V (env P) 24 (.loop L24_0) st (.blk 2 :: ks) K
  | [], i, a, st, hr, hi, h4, h8, h9, hb, hp, hl, h10, hend => by
    have hi7 : 7 ≤ i := by have := congrArg List.length hr; simp [namesL] at this; omega
    have hlt : ¬ ((i : Int) < 7) := by omega
    have gl : namesL.length = 7 := rfl
    rw [V_loop]
    simp [L24_0, h4, h10, hlt, gl]
    exact hend _ (by simp [h4]) (by simp) (by simp) (by simp) (by simp) (by simp) (by simp [hb, hp, opFrom]) (by simp; omega) (by simpa using hl.grow)
  | q :: rest, i, a, st, hr, hi, h4, h8, h9, hb, hp, hl, h10, hend => by
    obtain ⟨hq, hlt, hr', ht⟩ := drop_cons hr
    have gl : namesL.length = 7 := rfl
    rw [gl] at hlt
    have hlt' : (i : Int) < 7 := by omega
    have hc : ∀ h, (svs namesL)[i]'h = [sv q] := fun h => svs_at hq h
    have hw0 : svs (W :: ws) = [sv W] :: svs ws := rfl
    have hw := wrapS (i := i) (by omega)
    have he := fun t cx cy => evBin_seql (P := P) (t := t) (cx := cx) (cy := cy) q W
    rw [hw0] at h8
    rw [V_loop]
    by_cases h : q = W
    · rw [decide_eq_true h] at he
      simp [L24_0, h4, h8, h9, h10, hlt, hlt', gl, hc, he, hb, hp, hw, allLen]
      refine loop24_0 (p := p) (ws := ws) (W := W) (v := v) (rows := rows) rest (i + 1) i _ hr' (by omega) ?_ ?_ ?_ ?_ ?_ ?_ ?_ ?_
      · simp [h4]
      · simp [h8, hw0]
      · simp [h9]
      · simp [hp]
      · simp; omega
      · repeat (first | exact hl | refine Lst.grow ?_ | refine Lst.putN ?_ (by simp [hb, hp]))
      · simp
      · intro st' a4 a5 a6 a7 a8 a9 ab ap al
        refine hend st' (by rw [a4]; simp) (by rw [a5]; simp) (by rw [a6]; simp) (by rw [a7]; simp) (by rw [a8]; simp) (by rw [a9]; simp) ?_ ap al
        rw [ab, opFrom, if_pos h]
    · rw [decide_eq_false h] at he
      simp [L24_0, h4, h8, h9, h10, hlt, hlt', gl, hc, he, hb, hp, hw, allLen]
      refine loop24_0 (p := p) (ws := ws) (W := W) (v := v) (rows := rows) rest (i + 1) a _ hr' (by omega) ?_ ?_ ?_ ?_ ?_ ?_ ?_ ?_
      · simp [h4]
      · simp [h8, hw0]
      · simp [h9]
      · simp [hb, hp]
      · simp; omega
      · repeat (first | exact hl | refine Lst.grow ?_ | refine Lst.putN ?_ (by simp [hb, hp]))
      · simp
      · intro st' a4 a5 a6 a7 a8 a9 ab ap al
        refine hend st' (by rw [a4]; simp) (by rw [a5]; simp) (by rw [a6]; simp) (by rw [a7]; simp) (by rw [a8]; simp) (by rw [a9]; simp) ?_ ap al
        rw [ab, opFrom, if_neg h]

end Go.Evl.Zone

/- The zone statements: the document's Parse, second part. -/
namespace Go.Evl.Zone
open Go Go.Evl Go.Evl.Fl
set_option linter.unusedSimpArgs false
set_option linter.unusedVariables false
variable {P : Program}

def opOf (W : List UInt8) : Int := opFrom W (namesL.drop 1) 1 0

/-- What the document makes of a step's text. -/
def refStep (w : List UInt8) : Option RS :=
  match splitL 32 w with
  | [W] => if opOf W = 2 ∨ opOf W = 3 then none else some ⟨opOf W, 0, 0, 0⟩
  | [W, a, b, c] => if opOf W = 2 ∨ opOf W = 3 then (if (refInt a).2 = true ∧ (refInt b).2 = true ∧ (refInt c).2 = true then some ⟨opOf W, (refInt a).1, (refInt b).1, (refInt c).1⟩ else none) else none
  | _ => none

def refSteps : List (List UInt8) → Option (List RS)
  | [] => some []
  | w :: r => match refStep w with
    | none => none
    | some q => (refSteps r).map (q :: ·)

set_option maxHeartbeats 8000000 in
theorem loop24_1 (T : Typed P) {L : List (List UInt8)} (hw : ∀ w ∈ L, w.length ≤ 100000) {ks : List Fr'} {K : Ex → St → Prop} (hL : L.length ≤ 100000) : ∀ (rest : List (List UInt8)) (i : Nat) (st : St) (v : PV) (D : List RS), L.drop i = rest → i ≤ L.length → D.length = i → st.σ 4 = .im (svs namesL) true → st.σ 6 = .im (svs L) false → st.σ 7 = .val (.int .i64 i) → st.σ 5 = v → Lst st.h 4 v (rsV D) →
    (∀ st', refSteps rest = none → st'.σ 2 = .im [] true → st'.σ 3 = .val (.bool false) → K .ret st') → (∀ st' v out, refSteps rest = some out → st'.σ 5 = v → Lst st'.h 4 v (rsV (D ++ out)) → VN (env P) 24 st' ks K) → V (env P) 24 (.loop L24_1) st (.blk 0 :: ks) K
  | [], i, st, v, D, hr, hi, hD, h4, h6, h7, h5, hl, hret, hend => by
    obtain ⟨_, hlt, ht⟩ := drop_nil hr hi
    rw [V_loop]
    simp [L24_1, h6, h7, hlt]
    exact hend _ v [] rfl (by simp [h5]) (by simpa using hl.grow)
  | w :: rest, i, st, v, D, hr, hi, hD, h4, h6, h7, h5, hl, hret, hend => by
    obtain ⟨hq, hlt, hr', ht⟩ := drop_cons hr
    have hc : ∀ h, (svs L)[i]'h = [sv w] := fun h => svs_at hq h
    have hw3 := wrapS (i := i) (by omega)
    have hS : ans (env P) 39 [sv w, .val (.int .u8 32)] = some (.im (svs (splitL 32 w)) false) := refSplit_ans (c := 32) (hw w (List.mem_of_getElem? hq))
    obtain ⟨W, wt, hws⟩ : ∃ W wt, splitL 32 w = W :: wt := by
      cases h : splitL 32 w with
      | nil => exact absurd h (splitL_ne 32 w)
      | cons a b => exact ⟨a, b, rfl⟩
    rw [hws] at hS
    have hw0 : svs (W :: wt) = [sv W] :: svs wt := rfl
    have hI := fun a => refInt_ans (P := P) T (s := a)
    rw [V_loop]
    simp [L24_1, h4, h5, h6, h7, hlt, hc, hS]
    refine loop24_0 (p := st.h.n) (ws := wt) (W := W) (v := v) (rows := rsV D) (namesL.drop 1) 1 0 _ rfl (by omega) ?_ ?_ ?_ ?_ ?_ ?_ ?_ ?_
    · simp [h4]
    · simp
    · simp
    · simp
    · simp
    · repeat (first | exact hl | refine Lst.grow ?_ | refine Lst.putN ?_ (by simp))
    · simp
    intro st' a4 a5 a6 a7 a8 a9 ab ap al
    simp [h4] at a4
    simp [h5] at a5
    simp [h6] at a6
    simp [h7] at a7
    simp at a8 a9
    rw [show opFrom W (List.drop 1 namesL) 1 0 = opOf W from rfl] at ab
    have fin : ∀ (st2 : St) (v2 : PV) (q : RS), refStep w = some q → st2.σ 4 = .im (svs namesL) true → st2.σ 6 = .im (svs L) false → st2.σ 7 = .val (.int .i64 ((i + 1 : Nat) : Int)) → st2.σ 5 = v2 → Lst st2.h 4 v2 (rsV (D ++ [q])) → V (env P) 24 (.loop L24_1) st2 (.blk 0 :: ks) K := by
      intro st2 v2 q hq' b4 b6 b7 b5 bl
      refine loop24_1 T hw hL rest (i + 1) st2 v2 (D ++ [q]) hr' (by omega) (by simp [hD]) b4 b6 b7 b5 bl ?_ ?_
      · intro st3 x
        exact hret st3 (by rw [refSteps, hq']; simp [x])
      · intro st3 v3 out x y z
        exact hend st3 v3 (q :: out) (by rw [refSteps, hq']; simp [x]) y (by simpa using z)
    have bad : refStep w = none → refSteps (w :: rest) = none := fun h => by rw [refSteps, h]
    have hstep : refStep w = match W :: wt with
        | [W] => if opOf W = 2 ∨ opOf W = 3 then none else some ⟨opOf W, 0, 0, 0⟩
        | [W, a, b, c] => if opOf W = 2 ∨ opOf W = 3 then (if (refInt a).2 = true ∧ (refInt b).2 = true ∧ (refInt c).2 = true then some ⟨opOf W, (refInt a).1, (refInt b).1, (refInt c).1⟩ else none) else none
        | _ => none   := by rw [refStep, hws]
    have rs1 : ∀ q : RS, rsV (D ++ [q]) = rsV D ++ [q.cells] := fun q => by simp [rsV]
    by_cases ho : opOf W = 2 ∨ opOf W = 3
    · have ho2 := ho
      by_cases hn : ∃ a b c, wt = [a, b, c]
      · obtain ⟨a, b, c, rfl⟩ := hn
        have ha := hI a
        have hb := hI b
        have hc' := hI c
        have sv4 : svs [W, a, b, c] = [[sv W], [sv a], [sv b], [sv c]] := rfl
        rw [sv4] at a8
        simp only [ho, if_true] at hstep
        generalize refInt a = ra at ha hstep
        generalize refInt b = rb at hb hstep
        generalize refInt c = rc at hc' hstep
        obtain ⟨na, ka⟩ := ra
        obtain ⟨nb, kb⟩ := rb
        obtain ⟨nc, kc⟩ := rc
        simp only at ha hb hc' hstep
        rcases ho with o | o
        · rw [o] at ab hstep
          by_cases k1 : ka = true
          · by_cases k2 : kb = true
            · by_cases k3 : kc = true
              · subst k1 k2 k3
                simp only [and_self, if_true] at hstep
                simp [a4, a5, a6, a7, a8, a9, ab, ap, ha, hb, hc', chunks, elems, allLen]
                refine VP_app (ys := rsV D) (by repeat (first | exact al | refine Lst.grow ?_ | refine Lst.putN ?_ (by simp [ab, ap]))) (by simp) (by simp) rfl (by simp; unfold most; omega) fun v' H' wr rd e2 e3 _ => ?_
                simp [a4, a6, a7, hw3, e3]
                refine fin _ v' _ hstep ?_ ?_ ?_ ?_ ?_
                · simp [a4]
                · simp [a6]
                · simp
                · simp
                · rw [rs1]
                  repeat (first | exact e2 | refine Lst.grow ?_)
              · have k3' : kc = false := by simpa using k3
                subst k1 k2 k3'
                simp at hstep
                simp [a4, a5, a6, a7, a8, a9, ab, ap, ha, hb, hc', allLen]
                exact hret _ (bad hstep) (by simp) (by simp)
            · have k2' : kb = false := by simpa using k2
              subst k1 k2'
              simp at hstep
              simp [a4, a5, a6, a7, a8, a9, ab, ap, ha, hb, hc', allLen]
              exact hret _ (bad hstep) (by simp) (by simp)
          · have k1' : ka = false := by simpa using k1
            subst k1'
            simp at hstep
            simp [a4, a5, a6, a7, a8, a9, ab, ap, ha, hb, hc', allLen]
            exact hret _ (bad hstep) (by simp) (by simp)
        · rw [o] at ab hstep
          by_cases k1 : ka = true
          · by_cases k2 : kb = true
            · by_cases k3 : kc = true
              · subst k1 k2 k3
                simp only [and_self, if_true] at hstep
                simp [a4, a5, a6, a7, a8, a9, ab, ap, ha, hb, hc', chunks, elems, allLen]
                refine VP_app (ys := rsV D) (by repeat (first | exact al | refine Lst.grow ?_ | refine Lst.putN ?_ (by simp [ab, ap]))) (by simp) (by simp) rfl (by simp; unfold most; omega) fun v' H' wr rd e2 e3 _ => ?_
                simp [a4, a6, a7, hw3, e3]
                refine fin _ v' _ hstep ?_ ?_ ?_ ?_ ?_
                · simp [a4]
                · simp [a6]
                · simp
                · simp
                · rw [rs1]
                  repeat (first | exact e2 | refine Lst.grow ?_)
              · have k3' : kc = false := by simpa using k3
                subst k1 k2 k3'
                simp at hstep
                simp [a4, a5, a6, a7, a8, a9, ab, ap, ha, hb, hc', allLen]
                exact hret _ (bad hstep) (by simp) (by simp)
            · have k2' : kb = false := by simpa using k2
              subst k1 k2'
              simp at hstep
              simp [a4, a5, a6, a7, a8, a9, ab, ap, ha, hb, hc', allLen]
              exact hret _ (bad hstep) (by simp) (by simp)
          · have k1' : ka = false := by simpa using k1
            subst k1'
            simp at hstep
            simp [a4, a5, a6, a7, a8, a9, ab, ap, ha, hb, hc', allLen]
            exact hret _ (bad hstep) (by simp) (by simp)
      · have hln : ¬ ((wt.length : Int) + 1 = 4) := by
          intro e
          have : wt.length = 3 := by omega
          match wt, this with
          | [a, b, c], _ => exact hn ⟨a, b, c, rfl⟩
        have hno : refStep w = none := by
          rw [hstep]
          split
          · rename_i h
            simp at h
            obtain ⟨rfl, _⟩ := h
            rw [if_pos ho]
          · rename_i h
            simp at h
            exact absurd ⟨_, _, _, h.2⟩ hn
          · rfl
        rcases ho with o | o
        · rw [o] at ab
          simp [a4, a5, a6, a7, a8, a9, ab, ap, hln]
          exact hret _ (bad hno) (by simp) (by simp)
        · rw [o] at ab
          simp [a4, a5, a6, a7, a8, a9, ab, ap, hln]
          exact hret _ (bad hno) (by simp) (by simp)
    · obtain ⟨o2, o3⟩ := not_or.1 ho
      by_cases hn : wt = []
      · subst hn
        simp only [ho, if_false] at hstep
        simp [a4, a5, a6, a7, a8, a9, ab, ap, o2, o3, chunks, elems, allLen]
        refine VP_app (ys := rsV D) (by repeat (first | exact al | refine Lst.grow ?_ | refine Lst.putN ?_ (by simp))) (by simp) (by simp) rfl (by simp; unfold most; omega) fun v' H' wr rd e2 e3 _ => ?_
        simp [a4, a6, a7, hw3, e3]
        refine fin _ v' _ hstep ?_ ?_ ?_ ?_ ?_
        · simp [a4]
        · simp [a6]
        · simp
        · simp
        · rw [rs1]
          repeat (first | exact e2 | refine Lst.grow ?_)
      · have hln : ¬ ((wt.length : Int) + 1 = 1) := by
          have : wt.length ≠ 0 := fun e => hn (List.length_eq_zero_iff.1 e)
          omega
        have hno : refStep w = none := by
          rw [hstep]
          split
          · rename_i h; simp at h; exact absurd h.2 hn
          · rename_i h
            simp at h
            obtain ⟨rfl, _⟩ := h
            rw [if_neg ho]
          · rfl
        simp [a4, a5, a6, a7, a8, a9, ab, ap, o2, o3, hn, hln]
        exact hret _ (bad hno) (by simp) (by simp)

end Go.Evl.Zone

/- The zone statements: the document's Parse, third part. -/
namespace Go.Evl.Zone
open Go Go.Evl Go.Evl.Fl
set_option linter.unusedSimpArgs false
set_option linter.unusedVariables false
variable {P : Program}

theorem splitL_len {c : UInt8} : ∀ s : List UInt8, (splitL c s).length ≤ s.length + 1
  | [] => by simp [splitL]
  | b :: l => by
    have ih := splitL_len (c := c) l
    rw [splitL]
    split
    · simp; omega
    · split
      · rename_i h; rw [h] at ih; simp at ih ⊢; omega
      · simp

theorem splitL_mem {c : UInt8} : ∀ (s : List UInt8), ∀ w ∈ splitL c s, w.length ≤ s.length
  | [], w, h => by simp [splitL] at h; subst h; simp
  | b :: l, w, h => by
    have ih := splitL_mem (c := c) l
    rw [splitL] at h
    split at h
    · rcases List.mem_cons.1 h with rfl | h
      · simp
      · have := ih w h; simp; omega
    · split at h
      · rename_i x xs hx
        rw [hx] at ih
        rcases List.mem_cons.1 h with rfl | h
        · have := ih x (by simp); simp; omega
        · have := ih w (by simp [h]); simp; omega
      · simp at h; subst h; simp

noncomputable def refParse (s : List UInt8) : Option (List RS) := match refSteps (splitL 44 s) with
  | none => none
  | some out => if zoneRight (toSI out) = true then some out else none

theorem refParse_ans (T : Typed P) {s : List UInt8} (hs : s.length ≤ 2000) : ans (env P) 24 [sv s] = some (match refParse s with | some out => .tup [.im (rsV out) false, .val (.bool true)] | none => .tup [.im [] false, .val (.bool false)]) := by
  have hS : ans (env P) 39 [sv s, .val (.int .u8 44)] = some (.im (svs (splitL 44 s)) false) := refSplit_ans (c := 44) (by omega)
  have hlen := splitL_len (c := 44) s
  have hmem := splitL_mem (c := 44) s
  refine ans_V rfl rfl ?_
  simp [c24, hS, chunks]
  refine loop24_1 T (L := splitL 44 s) (fun w hw => by have := hmem w hw; omega) (by omega) (splitL 44 s) 0 _ _ [] rfl (by omega) rfl (by simp [namesL, svs]) (by simp) (by simp) rfl (by simp [rsV]; exact Lst.nil) ?_ ?_
  · intro st' h h2 h3
    have : refParse s = none := by rw [refParse, h]
    rw [this]
    simp [h2, h3, resV_two]
  · intro st' v out h h5 hl
    rw [List.nil_append] at hl
    have hR := refRight_ans (P := P) (l := out)
    obtain ⟨is, he⟩ := expAs_lst (hl.grow (m := 0)) (plainss_rs _)
    cases hz : zoneRight (toSI out)
    · rw [hz] at hR
      have : refParse s = none := by rw [refParse, h]; simp [hz]
      rw [this]
      simp [-expA, expA_bool, expA_im, he, h5, hR, resV_two]
    · rw [hz] at hR
      have : refParse s = some out := by rw [refParse, h]; simp [hz]
      rw [this]
      obtain ⟨is2, he2⟩ := expAs_lst ((hl.grow (m := 0)).grow (m := 0)) (plainss_rs _)
      obtain ⟨is3, he3⟩ := expAs_lst (((hl.grow (m := 0)).grow (m := 0)).grow (m := 0)) (plainss_rs _)
      simp [-expA, expA_bool, expA_im, he, he2, he3, h5, hR, resV_two]

end Go.Evl.Zone

/- The zone statements: the document's Parse takes just the texts of zones. -/
namespace Go.Evl.Zone
open Go Go.Evl Go.Evl.Fl
set_option linter.unusedSimpArgs false
set_option linter.unusedVariables false
variable {P : Program}

theorem join_split (c : UInt8) : ∀ s : List UInt8, joinL [c] (splitL c s) = s
  | [] => by simp [splitL, joinL]
  | b :: l => by
    have ih := join_split c l
    rw [splitL]
    split
    · rename_i h
      subst h
      cases hs : splitL b l with
      | nil => exact absurd hs (splitL_ne b l)
      | cons x xs =>
        rw [hs] at ih
        rw [joinL, ih]
        rfl
    · cases hs : splitL c l with
      | nil => exact absurd hs (splitL_ne c l)
      | cons x xs =>
        rw [hs] at ih
        cases xs with
        | nil => simp [joinL] at ih ⊢; exact ih
        | cons y ys =>
          simp only [joinL] at ih ⊢
          rw [List.cons_append, List.cons_append, ih]

theorem opFrom_inv {w : List UInt8} : ∀ (r : List (List UInt8)) (i : Nat) (a : Int), opFrom w r i a = a ∨ ∃ k : Nat, r[k]? = some w ∧ opFrom w r i a = ((i + k : Nat) : Int)
  | [], i, a => .inl rfl
  | x :: r, i, a => by
    rw [opFrom]
    by_cases h : x = w
    · rw [if_pos h]
      rcases opFrom_inv (w := w) r (i + 1) i with e | ⟨k, e1, e2⟩
      · exact .inr ⟨0, by simp [h], by rw [e]; rfl⟩
      · exact .inr ⟨k + 1, by simpa using e1, by rw [e2]; congr 1; omega⟩
    · rw [if_neg h]
      rcases opFrom_inv (w := w) r (i + 1) a with e | ⟨k, e1, e2⟩
      · exact .inl e
      · exact .inr ⟨k + 1, by simpa using e1, by rw [e2]; congr 1; omega⟩

theorem opOf_inv {W : List UInt8} (h : opOf W ≠ 0) : W = nameOf (opOf W) := by
  rcases opFrom_inv (w := W) (namesL.drop 1) 1 0 with e | ⟨k, e1, e2⟩
  · exact absurd e h
  · have e2' : opOf W = ((1 + k : Nat) : Int) := e2
    rw [e2', nameOf, List.getD_eq_getElem?_getD]
    rw [List.getElem?_drop] at e1
    rw [show ((1 + k : Nat) : Int).toNat = 1 + k by omega, e1]
    rfl

theorem opOf_name {op : Int} (h : 1 ≤ op ∧ op ≤ 6) : opOf (nameOf op) = op := by
  have : op = 1 ∨ op = 2 ∨ op = 3 ∨ op = 4 ∨ op = 5 ∨ op = 6 := by omega
  rcases this with h | h | h | h | h | h <;> subst h <;> decide

theorem digs_app {c : UInt8} : ∀ {l : List UInt8} {acc v : Nat}, digs l acc = some v → digs (l ++ [c]) acc = digs [c] v
  | [], acc, v, h => by
    rw [digs] at h
    injection h with h
    subst h; rfl
  | b :: l, acc, v, h => by
    rw [digs] at h
    rw [List.cons_append, digs]
    split at h
    · rename_i h1
      rw [if_pos h1]
      exact digs_app h
    · cases h

theorem digs_dec : ∀ (u : Nat), digs (Lib.decDigits u) 0 = some u := by
  intro u
  induction u using Nat.strongRecOn with
  | _ u IH =>
    have key : ∀ v d, d < 10 → digs [UInt8.ofNat (48 + d)] v = some (10 * v + d) := by
      intro v d hd
      have e : (UInt8.ofNat (48 + d)).toNat = 48 + d := by rw [UInt8.toNat_ofNat']; omega
      rw [digs, e, if_pos (by omega), digs]
      congr 1
      omega
    rw [Lib.decDigits]
    split
    · rename_i h
      rw [key 0 u h]
      congr 1
      omega
    · rename_i h
      rw [digs_app (IH (u / 10) (by omega)), key _ _ (by omega)]
      congr 1
      omega

theorem refInt_itoa {n : Int} (h : n.natAbs < 10000000) : refInt (Lib.itoa n) = (n, true) := by
  have hne := dec_ne n.natAbs
  have hlen := dec_len n.natAbs 6 (by omega)
  have hpos : 0 < (Lib.decDigits n.natAbs).length := List.length_pos_iff.2 hne
  have key : ∀ Z, Z = Lib.itoa n → refInt Z = (n, true) := by
    intro Z hZ
    have hZ' := hZ
    unfold Lib.itoa at hZ'
    split at hZ'
    · rename_i h0
      have hh : Z.head? = some 45 := by rw [hZ']; rfl
      have ht : Z.tail = Lib.decDigits n.natAbs := by rw [hZ']; rfl
      rw [refInt]
      simp only [hh, if_true, ht]
      rw [if_neg (by omega), digs_dec]
      simp only
      have : -(n.natAbs : Int) = n := by omega
      rw [this, hZ]
      simp
    · rename_i h0
      have e : n.toNat = n.natAbs := by omega
      rw [e] at hZ'
      have hh : ¬ Z.head? = some 45 := by
        intro q
        have : (45 : UInt8) ∈ Lib.decDigits n.natAbs := by rw [← hZ']; exact List.mem_of_head? q
        have := dec_dig _ _ this
        have e : (45 : UInt8).toNat = 45 := rfl
        omega
      rw [refInt]
      simp only [hh, if_false]
      rw [hZ', if_neg (by omega), digs_dec]
      simp only
      have : (n.natAbs : Int) = n := by omega
      rw [this, ← hZ', hZ]
      simp
  exact key _ rfl

theorem refInt_inv {a : List UInt8} (h : (refInt a).2 = true) : Lib.itoa (refInt a).1 = a := by
  unfold refInt at h ⊢
  simp only at h ⊢
  generalize (if a.head? = some 45 then a.tail else a) = body at h ⊢
  by_cases h1 : body.length < 1 ∨ 7 < body.length
  · rw [if_pos h1] at h; cases h
  · rw [if_neg h1] at h ⊢
    cases hd : digs body 0 with
    | none => rw [hd] at h; cases h
    | some r =>
      rw [hd] at h
      simp only [decide_eq_true_eq] at h ⊢
      exact h

theorem refStep_inv {w : List UInt8} {q : RS} (h : refStep w = some q) (hop : q.op ≠ 0) : w = textR q := by
  have hj := join_split 32 w
  unfold refStep at h
  split at h
  · rename_i W hw
    split at h
    · cases h
    · rename_i ho
      injection h with h
      subst h
      rw [hw] at hj
      simp only [textR]
      rw [if_neg ho, ← opOf_inv hop]
      exact hj.symm
  · rename_i W a b c hw
    split at h
    · rename_i ho
      split at h
      · rename_i hk
        injection h with h
        subst h
        rw [hw] at hj
        simp only [textR]
        rw [if_pos ho, ← opOf_inv hop, refInt_inv hk.1, refInt_inv hk.2.1, refInt_inv hk.2.2]
        exact hj.symm
      · cases h
    · cases h
  · cases h

theorem refStep_text {q : RS} (hr : q.si.right = true) : refStep (textR q) = some q := by
  have hz := right_zero hr
  have hb : rightB q.op q.x q.y q.s = true := hr
  have hk : q.okB := right_okB (q := q.si) hr
  have hbd : q.x.natAbs < 10000000 ∧ q.y.natAbs < 10000000 ∧ q.s.natAbs < 10000000 := by
    unfold rightB near at hb
    split at hb
    · simp at hb; omega
    · split at hb
      · simp at hb; omega
      · split at hb
        · simp at hb; omega
        · cases hb
  unfold refStep
  rw [words_text]
  by_cases ho : q.op = 2 ∨ q.op = 3
  · rw [if_pos ho]
    simp only
    rw [opOf_name ⟨hk.1, hk.2.1⟩, if_pos ho, refInt_itoa hbd.1, refInt_itoa hbd.2.1, refInt_itoa hbd.2.2]
    rfl
  · rw [if_neg ho]
    simp only
    rw [opOf_name ⟨hk.1, hk.2.1⟩, if_neg ho]
    obtain ⟨a, b, c⟩ := hz ho
    obtain ⟨op, x, y, s⟩ := q
    simp only at a b c
    subst a b c
    rfl

theorem refSteps_text : ∀ {l : List RS}, (∀ q ∈ l, q.si.right = true) → refSteps (l.map textR) = some l
  | [], _ => rfl
  | q :: l, h => by
    rw [List.map_cons, refSteps, refStep_text (h q (by simp)), refSteps_text fun p hp => h p (by simp [hp])]
    rfl

theorem refSteps_inv : ∀ {ws : List (List UInt8)} {l : List RS}, refSteps ws = some l → (∀ q ∈ l, q.op ≠ 0) → ws = l.map textR
  | [], l, h, _ => by rw [refSteps] at h; injection h with h; subst h; rfl
  | w :: ws, l, h, hop => by
    rw [refSteps] at h
    cases hs : refStep w with
    | none => rw [hs] at h; cases h
    | some q =>
      rw [hs] at h
      simp only [Option.map_eq_some_iff] at h
      obtain ⟨l', h1, rfl⟩ := h
      rw [refStep_inv hs (hop q (by simp)), refSteps_inv h1 fun p hp => hop p (by simp [hp])]
      rfl

/-- The document's Parse takes just the texts of zones. -/
theorem refParse_inv {s : List UInt8} {l : List RS} (h : refParse s = some l) : zoneRight (toSI l) = true ∧ s = textL l := by
  unfold refParse at h
  cases hs : refSteps (splitL 44 s) with
  | none => rw [hs] at h; cases h
  | some out =>
    rw [hs] at h
    simp only at h
    split at h
    · rename_i hz
      injection h with h
      subst h
      refine ⟨hz, ?_⟩
      obtain ⟨_, _, hri⟩ := zoneRight_all hz
      rw [textL, ← refSteps_inv hs (fun q hq => by
        have := (right_okB (q := q.si) (hri q.si (by simp [toSI]; exact ⟨q, hq, rfl⟩))).1
        have e : q.si.rs.op = q.op := rfl
        omega), join_split]
    · cases h

theorem refParse_text {l : List RS} (h : zoneRight (toSI l) = true) : refParse (textL l) = some l := by
  obtain ⟨_, h0, hri⟩ := zoneRight_all h
  have hl0 : l ≠ [] := by rintro rfl; exact h0 rfl
  unfold refParse
  rw [textL, splitL_join (by simpa using hl0) (by
    intro x hx
    obtain ⟨q, _, rfl⟩ := List.mem_map.1 hx
    exact text_no), refSteps_text fun q hq => hri q.si (by simp [toSI]; exact ⟨q, hq, rfl⟩)]
  simp [h]

end Go.Evl.Zone

/- The zone statements: any binary64 word held against any small bounds. -/
namespace Go.Evl.Zone
open Go Go.Evl Go.Evl.Fl Ieee
set_option linter.unusedSimpArgs false
set_option linter.unusedVariables false
variable {P : Program}

def geA (b u : Nat) : Bool := FloatKind.f64.format.order b u == some .gt || FloatKind.f64.format.order b u == some .eq
def leA (b u : Nat) : Bool := FloatKind.f64.format.order b u == some .lt || FloatKind.f64.format.order b u == some .eq

/-- Is a word a number from lo to hi? Whole? -/
def rngA (lo hi : Int) (s : Bool) (m : Nat) (e : Int) : Bool := decide (lo * 2 ^ kOf e ≤ xOf s m e) && decide (xOf s m e ≤ hi * 2 ^ kOf e)
def glA (lo hi : Int) (b : Nat) : Bool := match double.read b with
  | .number s m e => rngA lo hi s m e
  | _ => false
def whA (lo hi : Int) (b : Nat) : Bool := match double.read b with
  | .number s m e => rngA lo hi s m e && decide (xOf s m e = nOf s m e * 2 ^ kOf e)
  | _ => false

theorem glA_is {u v : Nat} {lo hi : Int} (i1 : Is u lo) (i2 : Is v hi) (b : Nat) : (geA b u && leA b v) = glA lo hi b := by
  unfold geA leA glA
  cases hb : double.read b with
  | number s m e =>
    have o1 : FloatKind.f64.format.order b u = some (compare (xOf s m e) (lo * 2 ^ kOf e)) := ord_num hb i1
    have o2 : FloatKind.f64.format.order b v = some (compare (xOf s m e) (hi * 2 ^ kOf e)) := ord_num hb i2
    rw [o1, o2]
    simp only [rngA]
    generalize xOf s m e = x
    generalize lo * 2 ^ kOf e = y
    generalize hi * 2 ^ kOf e = z
    congr 1
    · simp only [compare, compareOfLessAndEq]
      rcases Int.lt_trichotomy x y with h | h | h
      · have : ¬ y ≤ x := by omega
        simp [h, this]
      · subst h; simp
      · have h0 : ¬ x < y := by omega
        have h1 : ¬ x = y := by omega
        have h2 : y ≤ x := by omega
        simp [h0, h1, h2]
    · simp only [compare, compareOfLessAndEq]
      rcases Int.lt_trichotomy x z with h | h | h
      · have : x ≤ z := by omega
        simp [h, this]
      · subst h; simp
      · have h0 : ¬ x < z := by omega
        have h1 : ¬ x = z := by omega
        have h2 : ¬ x ≤ z := by omega
        simp [h0, h1, h2]
  | infinity s =>
    obtain ⟨t1, m1, e1, h1, _⟩ := i1.read
    obtain ⟨t2, m2, e2, h2, _⟩ := i2.read
    have o1 : FloatKind.f64.format.order b u = some (if s then .lt else .gt) := by
      show double.order _ _ = _; unfold Format.order; rw [hb, h1]; rfl
    have o2 : FloatKind.f64.format.order b v = some (if s then .lt else .gt) := by
      show double.order _ _ = _; unfold Format.order; rw [hb, h2]; rfl
    rw [o1, o2]
    cases s <;> rfl
  | nan s t =>
    have o1 : FloatKind.f64.format.order b u = none := by
      show double.order _ _ = _; unfold Format.order; rw [hb]; rfl
    rw [o1]; rfl

theorem nOfA_small {lo hi : Int} {s : Bool} {m : Nat} {e : Int} (hlo : -2000000 ≤ lo) (hhi : hi ≤ 2000000) (h : rngA lo hi s m e = true) : -2000000 ≤ nOf s m e ∧ nOf s m e ≤ 2000000 := by
  simp only [rngA, Bool.and_eq_true, decide_eq_true_eq] at h
  have hx : xOf s m e = (if s then -1 else 1) * ((m * 2 ^ e.toNat : Nat) : Int) := by unfold xOf; rw [signed_eq]; simp
  have hn : nOf s m e = (if s then -1 else 1) * ((m * 2 ^ e.toNat / 2 ^ kOf e : Nat) : Int) := by
    unfold nOf kOf; rw [signed_eq, Int.pow_zero, Int.mul_one]
  have hk : (2 : Int) ^ kOf e = ((2 ^ kOf e : Nat) : Int) := by simp
  rw [hx, hk] at h
  rw [hn]
  have hp : 0 < 2 ^ kOf e := Nat.two_pow_pos _
  generalize m * 2 ^ e.toNat = M at h
  generalize 2 ^ kOf e = K at h hp
  have l1 : -2000000 * (K : Int) ≤ lo * K := Int.mul_le_mul_of_nonneg_right hlo (by omega)
  have l2 : hi * (K : Int) ≤ 2000000 * K := Int.mul_le_mul_of_nonneg_right hhi (by omega)
  have hM : M ≤ 2000000 * K := by
    cases s
    · rw [if_neg (by decide), Int.one_mul] at h; omega
    · rw [if_pos rfl] at h; omega
  have hd : M / K ≤ 2000000 := by
    calc M / K ≤ 2000000 * K / K := Nat.div_le_div_right hM
      _ = 2000000 := Nat.mul_div_cancel _ hp
  generalize M / K = c at hd
  cases s
  · rw [if_neg (by decide)]; omega
  · rw [if_pos rfl]; omega

theorem glA_num {lo hi : Int} {b : Nat} (h : glA lo hi b = true) : ∃ s m e, double.read b = .number s m e ∧ rngA lo hi s m e = true := by
  unfold glA at h
  split at h
  · rename_i s m e hb; exact ⟨s, m, e, hb, h⟩
  · cases h

theorem whA_of_gl {lo hi : Int} {b : Nat} (h : glA lo hi b = false) : whA lo hi b = false := by
  unfold glA at h
  unfold whA
  cases hb : double.read b with
  | number s m e => rw [hb] at h; simp only at h; simp [h]
  | infinity s => rfl
  | nan s t => rfl

theorem wholeToA {b u v : Nat} {lo hi : Int} (i1 : Is u lo) (i2 : Is v hi) (hlo : -2000000 ≤ lo) (hhi : hi ≤ 2000000) : ans (env P) 34 [.val (.float .f64 b), .val (.float .f64 u), .val (.float .f64 v)] = some (.val (.bool (whA lo hi b))) := by
  refine ans_V rfl rfl ?_
  have g1 : ∀ {t : TypeId} {cx cy : Bool}, evBin P .geq t cx cy (.val (.float .f64 b)) (.val (.float .f64 u)) = some (.val (.bool (geA b u))) := evBin_fgeq
  have g2 : ∀ {t : TypeId} {cx cy : Bool}, evBin P .leq t cx cy (.val (.float .f64 b)) (.val (.float .f64 v)) = some (.val (.bool (leA b v))) := evBin_fleq
  have hgl := glA_is i1 i2 b
  cases h1 : geA b u with
  | false =>
    rw [h1] at g1 hgl
    have hw : whA lo hi b = false := whA_of_gl (by rw [← hgl]; rfl)
    simp [c34, g1, hw]
  | true =>
    rw [h1] at g1 hgl
    cases h2 : leA b v with
    | false =>
      rw [h2] at g2 hgl
      have hw : whA lo hi b = false := whA_of_gl (by rw [← hgl]; rfl)
      simp [c34, g1, g2, hw]
    | true =>
      rw [h2] at g2 hgl
      obtain ⟨s, m, e, hb, hr⟩ := glA_num (b := b) hgl.symm
      have hs := nOfA_small hlo hhi hr
      have hu := trunc_num hb (by have : (2 : Nat) ^ 53 = 9007199254740992 := by decide
                                  omega)
      have hq := eq_is hb hu
      have hw : whA lo hi b = decide (xOf s m e = nOf s m e * 2 ^ kOf e) := by unfold whA; rw [hb]; simp [hr]
      have ht : ans (env P) 47 [.val (.float .f64 b)] = some (.val (.float .f64 (FloatKind.f64.encode ((FloatKind.f64.decode b).integral .zero)))) := by
        refine ans_V rfl rfl ?_
        have hp : ∀ H, pTrunc [.val (.float .f64 b)] H = some ⟨.val (.float .f64 (FloatKind.f64.encode ((FloatKind.f64.decode b).integral .zero))), H, [], some []⟩ := by
          intro H
          have hb' : FloatKind.f64.decode b = .number s m e := hb
          unfold pTrunc
          simp only [hb']
        simp [c47, VA_prim (E := env P) (g := 56) (p := pTrunc) rfl, hp]
      have hqq : ∀ {t : TypeId} {cx cy : Bool}, evBin P .eql t cx cy (.val (.float .f64 b)) (.val (.float .f64 (FloatKind.f64.encode ((FloatKind.f64.decode b).integral .zero)))) = some (.val (.bool (whA lo hi b))) := by
        intro t cx cy
        rw [evBin_feql, hq, hw]
      simp [c34, g1, g2, ht, hqq]

/-- What is whole and in the bounds is an int when converted. -/
theorem whA_int {lo hi : Int} {b : Nat} (hlo : -2000000 ≤ lo) (hhi : hi ≤ 2000000) (h : whA lo hi b = true) : ∃ n : Int, (FloatKind.f64.decode b).toInt .zero = some n ∧ lo ≤ n ∧ n ≤ hi := by
  unfold whA at h
  split at h
  · rename_i s m e hb
    simp only [Bool.and_eq_true, decide_eq_true_eq, rngA] at h
    refine ⟨nOf s m e, toInt_num hb, ?_⟩
    obtain ⟨⟨h1, h2⟩, h3⟩ := h
    rw [h3] at h1 h2
    have hp : (0 : Int) < 2 ^ kOf e := pow_pos_int _
    exact ⟨Int.le_of_mul_le_mul_right h1 hp, Int.le_of_mul_le_mul_right h2 hp⟩
  · cases h

theorem wholeA {a b : Nat} : ans (env P) 18 [.val (.complex .f64 a b)] = some (.val (.bool (whA (-1000) 1000 a && whA (-1000) 1000 b))) := by
  refine ans_V rfl rfl ?_
  have h1 := wholeToA (P := P) (b := a) isM1000 is1000 (by decide) (by decide)
  have h2 := wholeToA (P := P) (b := b) isM1000 is1000 (by decide) (by decide)
  cases h : whA (-1000) 1000 a <;> rw [h] at h1 <;> simp [c18, h1, h2, h]

end Go.Evl.Zone
