/- The evaluator's texts ZPl to ZL7, joined. -/
import Derived.Test.YtabelkgkonmihaaDoorEv3
import Derived.Lib.SplitLaws
import Derived.Lib.Join
import Derived.Lib.ItoaNum
import Derived.Calls
import Derived.Below
import Derived.Sort.Grow
import Derived.Deep.Draws
import Derived.Lib.ConvBytes
import Derived.Shelf.Abstract
import Derived.Lib.LaidTab
import GoSem.Extern.MathFloor
import Derived.Test.YtabelkgkonmihaaDoorChecked
import Derived.WalkKit
import Derived.Lib.LaidU8
import Derived.Lib.LaidIn
import Derived.Deep.DeepWitnessRowRef
import Derived.ProofKit
import Derived.Test.YtabelkgkonmihaaDoorShelf
import Derived.Test.YtabelkgkonmihaaDoorRows
import Derived.Stop.LaidErr
import Derived.Test.YtabelkgkonmihaaDoorCards
import Derived.Test.YtabelkgkonmihaaDoorTie
set_option linter.all false
set_option linter.deprecated false
set_option linter.unusedVariables false
set_option linter.unusedSimpArgs false
set_option linter.unnecessarySimpa false
/- The library's words and ours: what stands between bytes, joined texts, digits. -/
set_option linter.unusedVariables false
namespace Go.Evl.Zone
open Go Go.Evl

theorem joinL_lib (sep : List UInt8) : ∀ l : List (List UInt8), joinL sep l = Lib.join l sep
  | [] => rfl
  | [x] => by rw [Lib.join_one]; rfl
  | x :: y :: r => by
    rw [joinL, joinL_lib sep (y :: r), Lib.join_cons, Lib.join_cons]
    simp [Lib.joinTail]

theorem digL_lib : ∀ (f n : Nat) (acc : List UInt8), n < 10 ^ f → 0 < f → digL f n acc = Lib.decDigits n ++ acc
  | 0, _, _, _, h => absurd h (by decide)
  | f + 1, n, acc, hn, _ => by
    rw [digL, Lib.decDigits]
    split
    · simp
    · rename_i hge
      have hf : 0 < f := by
        cases f with
        | zero => simp at hn; omega
        | succ f => omega
      rw [digL_lib f (n / 10) _ (by rw [Nat.pow_succ] at hn; omega) hf]
      simp

theorem itoaL_lib {n : Int} (h0 : -9223372036854775808 ≤ n) (h1 : n ≤ 9223372036854775807) : itoaL n = Lib.itoa n := by
  unfold itoaL Lib.itoa
  have hp : n.natAbs < 10 ^ 20 := by
    have : (10 : Nat) ^ 20 = 100000000000000000000 := by decide
    omega
  split
  · rw [digL_lib 20 _ _ hp (by decide)]; simp
  · rename_i hn
    rw [digL_lib 20 _ _ hp (by decide), show n.natAbs = n.toNat by omega]; simp

theorem splitK_skip (c b : UInt8) (h : b ≠ c) : ∀ (k : Nat) (l : List UInt8) (x : List UInt8) (xs : List (List UInt8)), Lib.splitK [c] 0 k l = x :: xs → Lib.splitK [c] 0 k (b :: l) = (b :: x) :: xs := by
  intro k l x xs hx
  cases k with
  | zero => simp [Lib.splitK] at hx ⊢; exact hx
  | succ k =>
    have hp : ([c] : List UInt8).isPrefixOf (b :: l) = false := by simp [List.isPrefixOf, Ne.symm h]
    have hix : Lib.index (b :: l) [c] = if Lib.index l [c] == -1 then -1 else Lib.index l [c] + 1 := by rw [Lib.index, hp]; simp
    unfold Lib.splitK at hx ⊢
    by_cases hm : Lib.index l [c] = -1
    · rw [if_pos (by simpa using hm)] at hx
      rw [if_pos (by rw [hix, if_pos (by simpa using hm)]; rfl)]
      simp at hx ⊢; exact hx
    · have hge := Lib.index_ge l [c]
      obtain ⟨j, hj⟩ : ∃ j : Nat, Lib.index l [c] = j := ⟨(Lib.index l [c]).toNat, by omega⟩
      rw [if_neg (by simpa using hm)] at hx
      have hix' : Lib.index (b :: l) [c] = ((j + 1 : Nat) : Int) := by rw [hix, if_neg (by simpa using hm), hj]; omega
      rw [if_neg (by rw [hix']; simp; omega), hix']
      rw [hj] at hx
      simp at hx ⊢
      exact ⟨hx.1, hx.2⟩

theorem splitL_ne (c : UInt8) : ∀ l : List UInt8, splitL c l ≠ []
  | [] => by simp [splitL]
  | b :: l => by
    unfold splitL
    split
    · simp
    · split <;> simp

theorem splitL_lib (c : UInt8) : ∀ l : List UInt8, Lib.splitK [c] 0 (Lib.count l [c]) l = splitL c l
  | [] => by rw [Lib.count_miss (by simp [Lib.index])]; rfl
  | b :: l => by
    by_cases h : b = c
    · subst h
      rw [Lib.count_cons_eq, Nat.add_comm, Lib.splitK]
      have hix : Lib.index (b :: l) [b] = 0 := by rw [Lib.index]; simp [List.isPrefixOf]
      rw [if_neg (by rw [hix]; decide), hix, splitL, if_pos rfl]
      simp
      exact splitL_lib b l
    · rw [Lib.count_cons_ne b c l h, splitL, if_neg h]
      have ih := splitL_lib c l
      cases hs : splitL c l with
      | nil => exact absurd hs (splitL_ne c l)
      | cons x xs =>
        rw [hs] at ih
        exact splitK_skip c b h _ l x xs ih

theorem splitB_lib {s p : ByteArray} {c : UInt8} (hp : p.data.toList = [c]) : (Lib.splitB p 0 (Lib.countB s p) s).map (·.data.toList) = splitL c s.data.toList := by
  rw [Lib.splitB_data, Lib.countB, hp, splitL_lib]

end Go.Evl.Zone

/- The library's functions that are taken as told: that they do what is told of them. -/
set_option linter.unusedVariables false
namespace Go.Evl.Zone
open Go Go.Evl Go.RowKit Go.Sort

/-- A told function does what is told of it. -/
def PSound (P : Program) (Inv : G → Prop) (f : FuncId) (p : List PV → Heap → Option ORes) : Prop := ∀ args H r, p args H = some r → ∀ (g : G) (vs : List Value) (R : Value → World → Prop), WR g → Inv g → g.H = H → Cs g vs args →
    (∀ g' v, g'.H = r.h → WR g' → Ext g g' → VR g' v r.v → R v g'.w) → Goes P f vs.toArray g.w R

theorem goes_calls {P : Program} {f : FuncId} {args : Array Value} {w : World} {R : Value → World → Prop} {Q : Ending → World → Prop} (hE : Go.Proofs.Enters P f) (h : Calls P f args w Q) (hq : ∀ e w', Q e w' → ∃ v, e = .returned v ∧ R v w') : Goes P f args w R := by
  unfold Goes
  rw [hE args w]
  refine h.mono fun e w' hx => ?_
  obtain ⟨v, rfl, hr⟩ := hq e w' hx
  exact hr

/-- A world that has only grown. -/
theorem grown_g {g : G} (hW : WR g) {w' : World} (hb : Below g.w.heap.size g.w w') : ∃ g' : G, g'.w = w' ∧ g'.H = g.H ∧ WR g' ∧ Ext g g' ∧ ∀ b, g.w.heap.size ≤ b → b < w'.heap.size → g'.Z b := by
  obtain ⟨h1, h2⟩ := grow_world hW w' (fun b => g.w.heap.size ≤ b ∧ b < w'.heap.size) hb.size hb.block (fun b h => h) ⟨hb.os, hb.tape, hb.output⟩
  exact ⟨⟨w', fun b => g.Z b ∨ (g.w.heap.size ≤ b ∧ b < w'.heap.size), g.ι, g.H⟩, rfl, rfl, h1, h2, fun b h h' => .inr ⟨h, h'⟩⟩

/-- The cells of what a slice holds. -/
theorem elems_slice {g : G} (hW : WR g) {v : Value} {p : PV} (hv : VR g v p) (hp : ∀ x, p ≠ .val x) {k : Nat} {ys : List (List PV)} {is : List Nat} (h : elems g.H k p = some (ys, is)) :
    ∃ (ad : Option Addr) (c : Nat), v = .slice ad ys.length c ∧ ys.length ≤ c ∧ (ys ≠ [] → ∃ (b o : Nat) (news : List Value), ad = some ⟨b, o, none⟩ ∧ b < g.w.heap.size ∧ RR g k news ys ∧ ∀ (j : Nat) u, news[j]? = some u → g.w.cell? ⟨b, o + j, none⟩ = some u) := by
  unfold elems at h
  split at h
  · rename_i xs full
    split at h
    · rename_i hall
      simp at h; obtain ⟨rfl, rfl⟩ := h
      obtain ⟨ad, cap, rfl, _, hcap, hat⟩ := hv.inv_im
      refine ⟨ad, cap, rfl, hcap, fun hne => ?_⟩
      obtain ⟨k', b, off, c, t, fr, cv, rfl, hZ, hb, hk, hno, hc, hh⟩ := hat hne
      have hkk : k = k' := allLen_eq hall hne hk
      subst hkk
      have key : ∀ (q : Nat) (p : PV), xs.flatten[q]? = some p → ∃ u, g.w.cell? ⟨b, off + q, none⟩ = some u ∧ (VR g u p ∧ u.oneCell' = true) := by
        intro q p hq
        obtain ⟨hk0, x, h1, h2⟩ := flat_get' hk hq
        have h3 := hc _ x _ p h1 h2
        rw [Nat.add_assoc, Nat.mul_comm, Nat.div_add_mod] at h3
        exact ⟨_, by rw [cell_of hb]; exact h3.1, hh _ x _ p h1 h2, h3.2⟩
      obtain ⟨news, n1, n2⟩ := cells_of (g := g) (ps := xs.flatten) (ad := fun q => g.w.cell? ⟨b, off + q, none⟩) (fun q p hq => let ⟨u, z1, z2⟩ := key q p hq; ⟨u, z1, z2.1⟩)
      refine ⟨b, off, news, rfl, lt_of_heap hb, ⟨n1, hk, fun u hu => ?_⟩, n2⟩
      obtain ⟨q, hq⟩ := List.mem_iff_getElem?.1 hu
      have hq' : q < xs.flatten.length := by rw [← n1.1]; exact (List.getElem?_eq_some_iff.1 hq).1
      obtain ⟨u', z1, z2⟩ := key q _ (List.getElem?_eq_getElem hq')
      rw [n2 q u hq] at z1; simp at z1; subst z1; exact z2.2
    · simp at h
  · rename_i r k' gen off len
    split at h
    · rename_i k'' xs own hb
      split at h
      · rename_i hcond
        obtain ⟨rfl, rfl, rfl, hle⟩ := hcond
        simp at h; obtain ⟨rfl, rfl⟩ := h
        cases hv with
        | sl ad _ _ _ _ _ cap hlc hg hh =>
          obtain ⟨a1, a2, b, c, t, fr, q1, q2, q3, q4, q5, q6⟩ := hW.row r k xs own hb
          have hval : Valid g r k xs.length b := ⟨q1, by rw [hb]; rfl, by rw [hb]; rfl⟩
          obtain ⟨e1, _⟩ := hh b hval
          subst e1
          have hrr := row_rr a2 q5 q6
          have hsub := (hrr.drop off).take len
          have hlen : ((xs.drop off).take len).length = len := by simp; omega
          refine ⟨_, cap, by rw [hlen], by rw [hlen]; exact hlc, fun _ => ⟨b, off * k, _, rfl, lt_of_heap q2, hsub, fun j u hj => ?_⟩⟩
          rw [List.getElem?_take] at hj
          split at hj
          · rw [List.getElem?_drop, List.getElem?_take] at hj
            split at hj
            · rw [cell_of q2]; simpa using hj
            · simp at hj
          · simp at hj
      · simp at h
    · simp at h
  · exact absurd rfl (hp _)
  · simp at h

variable {P : Program} {Inv : G → Prop}

theorem cs_one {g : G} {vs : List Value} {p : PV} (h : Cs g vs [p]) : ∃ v, vs = [v] ∧ VR g v p := by
  obtain ⟨v, h1, h2⟩ := h.get (i := 0) (p := p) rfl
  have := h.1
  match vs, this, h1 with
  | [x], _, h1 => simp at h1; exact ⟨v, by rw [h1], h2⟩

theorem cs_two {g : G} {vs : List Value} {p q : PV} (h : Cs g vs [p, q]) : ∃ v u, vs = [v, u] ∧ VR g v p ∧ VR g u q := by
  obtain ⟨v, h1, h2⟩ := h.get (i := 0) (p := p) rfl
  obtain ⟨u, h3, h4⟩ := h.get (i := 1) (p := q) rfl
  have := h.1
  match vs, this, h1, h3 with
  | [x, y], _, h1, h3 => simp at h1 h3; exact ⟨v, u, by rw [h1, h3], h2, h4⟩

/-- strings.Split at a separator of one byte. -/
theorem split_ok {f : FuncId} {t : TypeId} (hE : Go.Proofs.Enters P f) (hC : ∀ g, Inv g → ∀ (s sep : ByteArray), s.size < 4294967281 → 1 ≤ sep.size → Calls P f #[.string s, .string sep] g.w fun e w' =>
      e = .returned (.slice (some ⟨g.w.heap.size, 0, none⟩) (Lib.countB s sep + 1) (Lib.countB s sep + 1)) ∧ w' = g.w.alloc (.cells ((Lib.splitB sep 0 (Lib.countB s sep) s).map Value.string).toArray t)) : PSound P Inv f pSplit := by
  intro args H r h g vs R hW hI hH ha hR
  unfold pSplit at h
  split at h
  · rename_i s p
    split at h
    · rename_i c hc
      split at h
      · rename_i hs
        simp at h; subst h
        obtain ⟨v, u, rfl, h1, h2⟩ := cs_two ha
        obtain rfl := h1.inv_val
        obtain rfl := h2.inv_val
        have hp1 : 1 ≤ p.size := by
          have : p.size = p.data.toList.length := (Array.length_toList (xs := p.data)).symm
          rw [this, hc]; simp
        refine goes_calls hE (hC g hI s p hs hp1) ?_
        rintro e w' ⟨rfl, hw⟩
        refine ⟨_, rfl, ?_⟩
        generalize hL : Lib.splitB p 0 (Lib.countB s p) s = L at hw
        have hlen : L.length = Lib.countB s p + 1 := by rw [← hL]; exact Lib.splitB_all p hp1 0 _ s rfl
        have hLL : L.map (·.data.toList) = splitL c s.data.toList := by rw [← hL]; exact splitB_lib hc
        have hbel : Below g.w.heap.size g.w w' := hw ▸ (Below.refl _ _).alloc (Nat.le_refl _) _
        obtain ⟨g', e1, e2, e3, e4, e5⟩ := grown_g hW hbel
        have hnew : g'.w.heap[g.w.heap.size]? = some (.cells (L.map Value.string).toArray t (0, 0)) := by
          rw [e1, hw]; exact heap_alloc_new g.w _
        have hx : ((splitL c s.data.toList).map fun x => [strOf x]) = L.map fun x => [PV.val (.string x)] := by
          rw [← hLL, List.map_map]
          refine List.map_congr_left fun x _ => ?_
          simp [strOf]
        refine e1 ▸ hR g' _ (by rw [e2, hH]) e3 e4 ?_
        rw [← hlen, hx]
        refine VR.mk_im (by simp) (by simp) (by simp) fun _ => ⟨1, g.w.heap.size, 0, _, t, _, fun i j => ((L.map Value.string)[i]?).getD undef, rfl, e5 _ (Nat.le_refl _) (lt_of_heap (e1 ▸ hnew)), hnew, ?_, ?_, ?_, ?_⟩
        · intro x hx; simp at hx; obtain ⟨c, _, rfl⟩ := hx; rfl
        · intro x hx p hp; simp at hx; obtain ⟨c, _, rfl⟩ := hx; simp at hp; subst hp; exact .val _
        all_goals
          intro i x j p hx hp
          simp only [List.getElem?_map, Option.map_eq_some_iff] at hx
          obtain ⟨c, hc, rfl⟩ := hx
          have hj : j = 0 := by have := (List.getElem?_eq_some_iff.1 hp).1; simp at this; omega
          subst hj
          simp at hp; subst hp
          have hat : (L.map Value.string)[i]? = some (.string c) := by simp [hc]
          first
            | exact ⟨by simp [hc], by simp [hc, Value.oneCell']⟩
            | (simp only [hat, Option.getD_some]; exact .val _)
      · simp at h
    · simp at h
  · simp at h

/-- A told function that answers one scalar and lets the world grow. -/
theorem goes_val {f : FuncId} {args : Array Value} {g : G} {x : Value} {H : Heap} {R : Value → World → Prop} {Q : Ending → World → Prop} (hE : Go.Proofs.Enters P f) (h : Calls P f args g.w Q) (hW : WR g) (hH : g.H = H)
    (hq : ∀ e w', Q e w' → e = .returned x ∧ Below g.w.heap.size g.w w') (hR : ∀ g' v, g'.H = H → WR g' → Ext g g' → VR g' v (.val x) → R v g'.w) : Goes P f args g.w R := by
  refine goes_calls hE h fun e w' hx => ?_
  obtain ⟨he, hb⟩ := hq e w' hx
  obtain ⟨g', e1, e2, e3, e4, e5⟩ := grown_g hW hb
  exact ⟨x, he, e1 ▸ hR g' x (by rw [e2, hH]) e3 e4 (.val x)⟩

theorem below_grow (w : World) (k : Nat) (os : Array Obj) : Below w.heap.size w (grow (w.drewN k) os) :=
  ⟨rfl, rfl, rfl, by simp [grow, World.drewN], fun b hb => by
    show (w.heap ++ os)[b]? = _
    rw [Array.getElem?_append, if_pos hb]⟩

theorem itoa_ok {f : FuncId} (hE : Go.Proofs.Enters P f) (hC : ∀ g, Inv g → ∀ n : Int, -9223372036854775808 ≤ n → n ≤ 9223372036854775807 → Calls P f #[.int .i64 n] g.w fun e w' => e = .returned (.string ⟨(Lib.itoa n).toArray⟩) ∧ ∃ k os, w' = grow (g.w.drewN k) os) : PSound P Inv f pItoa := by
  intro args H r h g vs R hW hI hH ha hR
  unfold pItoa at h
  split at h
  · rename_i n
    split at h
    · rename_i hn
      simp at h; subst h
      obtain ⟨v, rfl, h1⟩ := cs_one ha
      obtain rfl := h1.inv_val
      refine goes_val (x := .string ⟨(itoaL n).toArray⟩) hE (hC g hI n hn.1 hn.2) hW hH ?_ hR
      rintro e w' ⟨rfl, k, os, rfl⟩
      exact ⟨by rw [itoaL_lib hn.1 hn.2], below_grow _ _ _⟩
    · simp at h
  · simp at h

theorem join_ok {f : FuncId} (hE : Go.Proofs.Enters P f) (hN : ∀ (g : G) (a : Option Addr) (c : Nat) (sep : ByteArray), Calls P f #[.slice a 0 c, .string sep] g.w fun e w' => e = .returned (.string ⟨#[]⟩) ∧ w' = g.w)
    (hC : ∀ (g : G) (bk o c : Nat) (xs : List ByteArray) (sep : ByteArray), (∀ (j : Nat) x, xs[j]? = some x → g.w.cell? ⟨bk, o + j, none⟩ = some (.string x)) → bk < g.w.heap.size → xs.length ≤ 140737488355328 → xs.length ≤ c → (Lib.join (xs.map (·.data.toList)) sep.data.toList).length ≤ 140737488355328 →
      Calls P f #[.slice (some ⟨bk, o, none⟩) xs.length c, .string sep] g.w fun e w' => e = .returned (.string ⟨(Lib.join (xs.map (·.data.toList)) sep.data.toList).toArray⟩) ∧ Below g.w.heap.size g.w w') : PSound P Inv f pJoin := by
  intro args H r h g vs R hW hI hH ha hR
  unfold pJoin at h
  split at h
  · simp at h
  · rename_i x p hnv
    split at h
    · rename_i xs is hel
      split at h
      · rename_i l hl
        split at h
        · rename_i hcond
          simp at h; subst h
          obtain ⟨v, u, rfl, h1, h2⟩ := cs_two ha
          obtain rfl := h2.inv_val
          subst hH
          obtain ⟨ad, c, rfl, hlc, hat⟩ := elems_slice hW h1 (fun x0 hx0 => hnv x0 hx0) hel
          have hstr : ∀ (xs : List (List PV)) (l : List (List UInt8)), strs xs = some l → xs = l.map fun x => [strOf x] := by
            intro xs
            induction xs with
            | nil => intro l h; simp [strs] at h; subst h; rfl
            | cons y ys ih =>
              intro l h
              unfold strs at h
              split at h
              · rename_i heq; simp at heq
              · rename_i s r heq
                simp at heq; obtain ⟨rfl, rfl⟩ := heq
                simp only [Option.map_eq_some_iff] at h
                obtain ⟨l', h', rfl⟩ := h
                rw [ih l' h']; simp [strOf]
              · simp at h
          have hxs := hstr xs l hl
          cases hne : xs with
          | nil =>
            have hl0 : l = [] := by rw [hne] at hxs; simpa using hxs.symm
            subst hl0
            rw [show ([] : List (List PV)).length = 0 from rfl]
            refine goes_val (x := .string ⟨#[]⟩) hE (hN g ad c p) hW rfl ?_ hR
            rintro e w' ⟨rfl, rfl⟩
            exact ⟨rfl, Below.refl _ _⟩
          | cons y ys =>
            obtain ⟨b, o, news, rfl, hbl, hrr, hcell⟩ := hat (by rw [hne]; simp)
            rw [← hne]
            have hlen : (l.map fun x => (⟨x.toArray⟩ : ByteArray)).length = xs.length := by rw [hxs]; simp
            rw [← hlen]
            have hmm : (l.map fun x => (⟨x.toArray⟩ : ByteArray)).map (·.data.toList) = l := by rw [List.map_map]; exact (List.map_congr_left fun x _ => by simp).trans (List.map_id l)
            generalize hL : (l.map fun x => (⟨x.toArray⟩ : ByteArray)) = L at hlen hmm
            have hLl : L.length ≤ 140737488355328 := by rw [← hL, List.length_map]; exact hcond.1
            have hLc : L.length ≤ c := by rw [hlen]; exact hlc
            have hLj : (Lib.join (L.map (·.data.toList)) p.data.toList).length ≤ 140737488355328 := by rw [hmm, ← joinL_lib]; exact hcond.2
            have hcells : ∀ (j : Nat) x, L[j]? = some x → g.w.cell? ⟨b, o + j, none⟩ = some (.string x) := by
              intro j x hx
              rw [← hL] at hx
              have hflat : xs.flatten = l.map strOf := by
                rw [hxs]
                have : ∀ l : List (List UInt8), (l.map fun x => [strOf x]).flatten = l.map strOf := by
                  intro l
                  induction l with
                  | nil => rfl
                  | cons a l ih => simp only [List.map_cons, List.flatten_cons, ih]; rfl
                exact this l
              obtain ⟨z, hz⟩ : ∃ z, l[j]? = some z ∧ (⟨z.toArray⟩ : ByteArray) = x := by simpa using hx
              have hfj : xs.flatten[j]? = some (strOf z) := by rw [hflat]; simp [hz.1]
              obtain ⟨cv, c1, c2⟩ := hrr.cs.get hfj
              have := c2.inv_val
              rw [hcell j cv c1, this, ← hz.2]
            have hcall := hC g b o c L p hcells hbl hLl hLc hLj
            rw [hmm, ← joinL_lib] at hcall
            exact goes_val (x := .string ⟨(joinL p.data.toList l).toArray⟩) hE hcall hW rfl (fun e w' h => h) hR
        · simp at h
      · simp at h
    · simp at h
  · simp at h

theorem below_bytes (w : World) (e : TypeId) (s : ByteArray) : Below w.heap.size w (Lib.bytesWorld w e s) := by
  have h1 : ((w.drew.alloc (.cells (Lib.bytesCells w e s) e)).heap).size = w.heap.size + 1 := by simp
  unfold Lib.bytesWorld World.freeze
  simp only [Nat.one_ne_zero, if_false]
  refine ⟨rfl, rfl, rfl, ?_, fun b hb => ?_⟩
  · simp only [Array.size_modify]; omega
  · simp only [Array.getElem?_modify]
    rw [if_neg (by omega)]
    exact Below.heap_alloc w.drew _ b hb

theorem atoi_ok {f : FuncId} {t : TypeId} {ti : TypeId} (hE : Go.Proofs.Enters P f)
    (hC : ∀ (g : G) (s : ByteArray), s.size ≤ 9223372036854775806 → ∀ v : Int, Lib.atoiAll s.data.toList = .ok v → Calls P f #[.string s] g.w fun e w' => e = .returned (.tuple #[.int .i64 v, .nilIface]) ∧ (w' = g.w ∨ ∃ t', w' = Lib.bytesWorld g.w t t'))
    (hS : ∀ g, Inv g → ∀ (s : ByteArray), s.size ≤ 281474976710656 → (∀ v, Lib.atoiAll s.data.toList ≠ .ok v) → Lib.atoiAll s.data.toList ≠ .range → Calls P f #[.string s] g.w fun e w' => (∃ N, e = .returned (.tuple #[.int .i64 (0), .iface ti (.pointer (some ⟨N, 0, none⟩))])) ∧ Below g.w.heap.size g.w w') : PSound P Inv f pAtoi := by
  intro args H r h g vs R hW hI hH ha hR
  unfold pAtoi at h
  split at h
  · rename_i s
    split at h
    · rename_i hs
      split at h
      · rename_i v hv
        simp at h; subst h
        obtain ⟨u, rfl, h1⟩ := cs_one ha
        obtain rfl := h1.inv_val
        refine goes_calls hE (hC g s (by omega) v hv) ?_
        rintro e w' ⟨rfl, hw⟩
        have hb : Below g.w.heap.size g.w w' := by
          rcases hw with rfl | ⟨t', rfl⟩
          · exact Below.refl _ _
          · exact below_bytes _ _ _
        obtain ⟨g', e1, e2, e3, e4, e5⟩ := grown_g hW hb
        exact ⟨_, rfl, e1 ▸ hR g' _ (by rw [e2, hH]) e3 e4 (VR.of_tup (Cs.cons (.val _) (Cs.cons (.val _) (Cs.nil _))))⟩
      · simp at h
      · rename_i hv1 hv2
        simp at h; subst h
        obtain ⟨u, rfl, h1⟩ := cs_one ha
        obtain rfl := h1.inv_val
        refine goes_calls hE (hS g hI s hs hv1 hv2) ?_
        rintro e w' ⟨⟨N, rfl⟩, hb⟩
        obtain ⟨g', e1, e2, e3, e4, e5⟩ := grown_g hW hb
        exact ⟨_, rfl, e1 ▸ hR g' _ (by rw [e2, hH]) e3 e4 (VR.of_tup (Cs.cons (.val _) (Cs.cons (.ifc _ _) (Cs.nil _))))⟩
    · simp at h
  · simp at h

theorem trunc_ok {f : FuncId} (hC : ∀ (x : Nat) (w : World) (args : Array Value), (callFunc f args).run P w = (do return Next.value (← Extern.MathFloor.toIntegral "math.archTrunc" .zero args) : Sem Next).run P w) : PSound P Inv f pTrunc := by
  intro args H r h g vs R hW hI hH ha hR
  unfold pTrunc at h
  split at h
  · rename_i b
    split at h
    · simp at h
    · rename_i d hd
      simp at h; subst h
      obtain ⟨u, rfl, h1⟩ := cs_one ha
      obtain rfl := h1.inv_val
      have hrun : (callFunc f [Value.float .f64 b].toArray).run P g.w = .ok (.value (.float .f64 (FloatKind.f64.encode ((FloatKind.f64.decode b).integral .zero)))) g.w := by
        rw [hC b]
        simp only [Sem.run_bind]
        have key : ∀ e, FloatKind.f64.decode b = e → (∀ s t, e ≠ .nan s t) → Extern.MathFloor.toIntegral "math.archTrunc" .zero [Value.float .f64 b].toArray = pure (.float .f64 (FloatKind.f64.encode (e.integral .zero))) := by
          intro e he hn
          unfold Extern.MathFloor.toIntegral
          show (match FloatKind.f64.decode b with
            | .nan s t => _
            | d => (pure (Value.float .f64 (FloatKind.f64.encode (d.integral .zero))) : Sem Value)) = _
          rw [he]
          cases e with
          | nan s t => exact (hn s t rfl).elim
          | number _ _ _ => rfl
          | infinity _ => rfl
        rw [key _ rfl (fun s t hx => hd s t hx)]
        rfl
      unfold Goes
      rw [hrun]
      exact hR g _ hH hW (Ext.refl g) (.val _)
  · simp at h

end Go.Evl.Zone

/- The table tells what the program's functions are: each compared by the kernel. -/
namespace Go.Evl.Zone
open Go Go.Evl
set_option maxRecDepth 100000

theorem ok3 : (env Proofs.Tryd.prog).code 3 = some c3 := by kernel_rfl
theorem ok4 : (env Proofs.Tryd.prog).code 4 = some c4 := by kernel_rfl
theorem ok5 : (env Proofs.Tryd.prog).code 5 = some c5 := by kernel_rfl
theorem ok6 : (env Proofs.Tryd.prog).code 6 = some c6 := by kernel_rfl
theorem ok7 : (env Proofs.Tryd.prog).code 7 = some c7 := by kernel_rfl
theorem ok8 : (env Proofs.Tryd.prog).code 8 = some c8 := by kernel_rfl
theorem ok9 : (env Proofs.Tryd.prog).code 9 = some c9 := by kernel_rfl
theorem ok10 : (env Proofs.Tryd.prog).code 10 = some c10 := by kernel_rfl
theorem ok11 : (env Proofs.Tryd.prog).code 11 = some c11 := by kernel_rfl
theorem ok12 : (env Proofs.Tryd.prog).code 12 = some c12 := by kernel_rfl
theorem ok13 : (env Proofs.Tryd.prog).code 13 = some c13 := by kernel_rfl
theorem ok14 : (env Proofs.Tryd.prog).code 14 = some c14 := by kernel_rfl
theorem ok15 : (env Proofs.Tryd.prog).code 15 = some c15 := by kernel_rfl
theorem ok16 : (env Proofs.Tryd.prog).code 16 = some c16 := by kernel_rfl
theorem ok17 : (env Proofs.Tryd.prog).code 17 = some c17 := by kernel_rfl
theorem ok18 : (env Proofs.Tryd.prog).code 18 = some c18 := by kernel_rfl
theorem ok19 : (env Proofs.Tryd.prog).code 19 = some c19 := by kernel_rfl
theorem ok20 : (env Proofs.Tryd.prog).code 20 = some c20 := by kernel_rfl
theorem ok21 : (env Proofs.Tryd.prog).code 21 = some c21 := by kernel_rfl
theorem ok22 : (env Proofs.Tryd.prog).code 22 = some c22 := by kernel_rfl
theorem ok23 : (env Proofs.Tryd.prog).code 23 = some c23 := by kernel_rfl
theorem ok24 : (env Proofs.Tryd.prog).code 24 = some c24 := by kernel_rfl
theorem ok25 : (env Proofs.Tryd.prog).code 25 = some c25 := by kernel_rfl
theorem ok26 : (env Proofs.Tryd.prog).code 26 = some c26 := by kernel_rfl
theorem ok27 : (env Proofs.Tryd.prog).code 27 = some c27 := by kernel_rfl
theorem ok28 : (env Proofs.Tryd.prog).code 28 = some c28 := by kernel_rfl
theorem ok29 : (env Proofs.Tryd.prog).code 29 = some c29 := by kernel_rfl
theorem ok30 : (env Proofs.Tryd.prog).code 30 = some c30 := by kernel_rfl
theorem ok31 : (env Proofs.Tryd.prog).code 31 = some c31 := by kernel_rfl
theorem ok32 : (env Proofs.Tryd.prog).code 32 = some c32 := by kernel_rfl
theorem ok33 : (env Proofs.Tryd.prog).code 33 = some c33 := by kernel_rfl
theorem ok34 : (env Proofs.Tryd.prog).code 34 = some c34 := by kernel_rfl
theorem ok35 : (env Proofs.Tryd.prog).code 35 = some c35 := by kernel_rfl
theorem ok36 : (env Proofs.Tryd.prog).code 36 = some c36 := by kernel_rfl
theorem ok38 : (env Proofs.Tryd.prog).code 38 = some c38 := by kernel_rfl
theorem ok39 : (env Proofs.Tryd.prog).code 39 = some c39 := by kernel_rfl
theorem ok40 : (env Proofs.Tryd.prog).code 40 = some c40 := by kernel_rfl
theorem ok41 : (env Proofs.Tryd.prog).code 41 = some c41 := by kernel_rfl
theorem ok43 : (env Proofs.Tryd.prog).code 43 = some c43 := by kernel_rfl
theorem ok44 : (env Proofs.Tryd.prog).code 44 = some c44 := by kernel_rfl
theorem ok45 : (env Proofs.Tryd.prog).code 45 = some c45 := by kernel_rfl
theorem ok46 : (env Proofs.Tryd.prog).code 46 = some c46 := by kernel_rfl
theorem ok47 : (env Proofs.Tryd.prog).code 47 = some c47 := by kernel_rfl
theorem ok49 : (env Proofs.Tryd.prog).code 49 = some c49 := by kernel_rfl
theorem ok55 : (env Proofs.Tryd.prog).code 55 = some c55 := by kernel_rfl

theorem tab_ok : TabOK (env Proofs.Tryd.prog) := by
  intro f cf h
  change tab f = some cf at h
  unfold tab at h
  split at h
  · simp only [Option.some.injEq] at h; subst h; exact ok3
  · simp only [Option.some.injEq] at h; subst h; exact ok4
  · simp only [Option.some.injEq] at h; subst h; exact ok5
  · simp only [Option.some.injEq] at h; subst h; exact ok6
  · simp only [Option.some.injEq] at h; subst h; exact ok7
  · simp only [Option.some.injEq] at h; subst h; exact ok8
  · simp only [Option.some.injEq] at h; subst h; exact ok9
  · simp only [Option.some.injEq] at h; subst h; exact ok10
  · simp only [Option.some.injEq] at h; subst h; exact ok11
  · simp only [Option.some.injEq] at h; subst h; exact ok12
  · simp only [Option.some.injEq] at h; subst h; exact ok13
  · simp only [Option.some.injEq] at h; subst h; exact ok14
  · simp only [Option.some.injEq] at h; subst h; exact ok15
  · simp only [Option.some.injEq] at h; subst h; exact ok16
  · simp only [Option.some.injEq] at h; subst h; exact ok17
  · simp only [Option.some.injEq] at h; subst h; exact ok18
  · simp only [Option.some.injEq] at h; subst h; exact ok19
  · simp only [Option.some.injEq] at h; subst h; exact ok20
  · simp only [Option.some.injEq] at h; subst h; exact ok21
  · simp only [Option.some.injEq] at h; subst h; exact ok22
  · simp only [Option.some.injEq] at h; subst h; exact ok23
  · simp only [Option.some.injEq] at h; subst h; exact ok24
  · simp only [Option.some.injEq] at h; subst h; exact ok25
  · simp only [Option.some.injEq] at h; subst h; exact ok26
  · simp only [Option.some.injEq] at h; subst h; exact ok27
  · simp only [Option.some.injEq] at h; subst h; exact ok28
  · simp only [Option.some.injEq] at h; subst h; exact ok29
  · simp only [Option.some.injEq] at h; subst h; exact ok30
  · simp only [Option.some.injEq] at h; subst h; exact ok31
  · simp only [Option.some.injEq] at h; subst h; exact ok32
  · simp only [Option.some.injEq] at h; subst h; exact ok33
  · simp only [Option.some.injEq] at h; subst h; exact ok34
  · simp only [Option.some.injEq] at h; subst h; exact ok35
  · simp only [Option.some.injEq] at h; subst h; exact ok36
  · simp only [Option.some.injEq] at h; subst h; exact ok38
  · simp only [Option.some.injEq] at h; subst h; exact ok39
  · simp only [Option.some.injEq] at h; subst h; exact ok40
  · simp only [Option.some.injEq] at h; subst h; exact ok41
  · simp only [Option.some.injEq] at h; subst h; exact ok43
  · simp only [Option.some.injEq] at h; subst h; exact ok44
  · simp only [Option.some.injEq] at h; subst h; exact ok45
  · simp only [Option.some.injEq] at h; subst h; exact ok46
  · simp only [Option.some.injEq] at h; subst h; exact ok47
  · simp only [Option.some.injEq] at h; subst h; exact ok49
  · simp only [Option.some.injEq] at h; subst h; exact ok55
  · simp at h

end Go.Evl.Zone

/- The zone statements: what they first ask of the program, reckoned by the kernel. -/
namespace Go.Evl.Zone
open Go Go.Evl
set_option maxRecDepth 100000

noncomputable def toldEnd : Option (Option (PV × List Nat)) := (ev (env Proofs.Tryd.prog) 200 12 c12.body ⟨start [], Heap.empty, []⟩).map fun q => (resV q.2 c12.res).bind (expV q.2.h)

theorem told_end : toldEnd = some (some (.val (.bool true), [])) := by kernel_rfl

theorem told_ans : ans (env Proofs.Tryd.prog) 12 [] = some (.val (.bool true)) := by
  have h := told_end
  unfold toldEnd at h
  simp only [Option.map_eq_some_iff] at h
  obtain ⟨⟨e, st⟩, h1, h2⟩ := h
  exact ans_of ⟨c12, rfl, rfl, 200, e, st, [], h1, h2⟩

end Go.Evl.Zone

/- The zone statements at their door: the told functions at this program; what a row's list gives; the step from a law's answer to its row. -/
set_option linter.unusedVariables false
namespace Go.Evl.Zone
open Go Go.Evl Go.Proofs Go.RowKit Go.ChangeShapes Go.WideShapes Go.ChangeAt

noncomputable abbrev P0 : Program := Tryd.prog

/-- What is asked of the world at the door. -/
structure Wd (W : World) : Prop where
  m : ∃ m, W.cell? ⟨1, 0, none⟩ = some (.int .i64 m)
  e : ∃ u v, W.cell? ⟨2, 0, none⟩ = some (.iface u v)
  t : Lib.TabIs P0 W "internal/strconv.uint64pow10" .u64 Lib.pow10Tab
  s : 7 ≤ W.heap.size

def InvW (W : World) (g : G) : Prop := ∀ b, b < W.heap.size → g.Z b ∧ g.w.heap[b]? = W.heap[b]?

theorem invW_ok (W : World) : InvOK (InvW W) where
  mono := fun g g' hW e h b hb => ⟨e.zin b (h b hb).1, (e.keepZ hW (h b hb).1).trans (h b hb).2⟩
  same := fun g g' hw hz h b hb => ⟨hz b (h b hb).1, by rw [hw]; exact (h b hb).2⟩

theorem invW_g0 (W : World) : InvW W (g0 W) := fun b hb => ⟨hb, rfl⟩

theorem InvW.cell {W : World} {g : G} (h : InvW W g) {a : Addr} (ha : a.block < W.heap.size) : g.w.cell? a = W.cell? a := World.cell?_of_block (w := W) (h a.block ha).2

theorem InvW.var {W : World} {g : G} (h : InvW W g) {n : String} {k : Nat} (hg : P0.globalNamed n = some k) (hk : k < W.heap.size) : g.w.var? P0 n = W.var? P0 n := by
  unfold World.var?
  rw [hg]
  simp only [Option.bind_some]
  rw [(h k hk).2]

/-- A told function that asks no memory. -/
def Still (p : List PV → Heap → Option ORes) : Prop := ∀ args, (∀ H, p args H = none) ∨ ∃ v, ∀ H, p args H = some ⟨v, H, [], some []⟩

theorem still_split : Still pSplit := by
  intro args
  unfold pSplit
  split
  · split
    · split
      · exact .inr ⟨_, fun _ => rfl⟩
      · exact .inl fun _ => rfl
    · exact .inl fun _ => rfl
  · exact .inl fun _ => rfl

theorem still_itoa : Still pItoa := by
  intro args
  unfold pItoa
  split
  · split
    · exact .inr ⟨_, fun _ => rfl⟩
    · exact .inl fun _ => rfl
  · exact .inl fun _ => rfl

theorem still_atoi : Still pAtoi := by
  intro args
  unfold pAtoi
  split
  · split
    · split
      · exact .inr ⟨_, fun _ => rfl⟩
      · exact .inl fun _ => rfl
      · exact .inr ⟨_, fun _ => rfl⟩
    · exact .inl fun _ => rfl
  · exact .inl fun _ => rfl

theorem still_trunc : Still pTrunc := by
  intro args
  unfold pTrunc
  split
  · split
    · exact .inl fun _ => rfl
    · exact .inr ⟨_, fun _ => rfl⟩
  · exact .inl fun _ => rfl

theorem Still.out {p : List PV → Heap → Option ORes} (hs : Still p) {args : List PV} {H : Heap} {r : ORes} (h : p args H = some r) : r.h = H ∧ r.wr = [] ∧ ∀ H', p args H' = some ⟨r.v, H'.patch r.h r.wr, r.wr, r.rd⟩ := by
  rcases hs args with q | ⟨v, q⟩
  · rw [q] at h; cases h
  · rw [q] at h
    simp only [Option.some.injEq] at h
    subst h
    exact ⟨rfl, rfl, fun H' => by rw [patch_nil]; exact q H'⟩

theorem join_out {args : List PV} {H : Heap} {r : ORes} (h : pJoin args H = some r) : r.h = H ∧ r.wr = [] ∧ ∀ H', Agree H' H r.rd → pJoin args H' = some ⟨r.v, H'.patch r.h r.wr, r.wr, r.rd⟩ := by
  unfold pJoin at h
  split at h
  · simp at h
  · rename_i x q hnv
    split at h
    · rename_i xs is hel
      split at h
      · rename_i l hl
        split at h
        · rename_i hc
          simp only [Option.some.injEq] at h; subst h
          refine ⟨rfl, rfl, fun H' ha => ?_⟩
          rw [patch_nil]
          have hel' := elems_local hel (show ∀ i ∈ is, H'.at_ i = H.at_ i from ha.2)
          cases x with
          | val y => exact (hnv y rfl).elim
          | _ => simp only [pJoin, hel', hl, if_pos hc]
        · simp at h
      · simp at h
    · simp at h
  · simp at h

theorem prim_out {f : FuncId} {p : List PV → Heap → Option ORes} (hp : prim f = some p) {args : List PV} {H : Heap} {r : ORes} (h : p args H = some r) : r.h = H ∧ r.wr = [] ∧ ∀ H', Agree H' H r.rd → p args H' = some ⟨r.v, H'.patch r.h r.wr, r.wr, r.rd⟩ := by
  unfold prim at hp
  split at hp
  · cases hp; exact let ⟨a, b, c⟩ := still_split.out h; ⟨a, b, fun H' _ => c H'⟩
  · cases hp; exact join_out h
  · cases hp; exact let ⟨a, b, c⟩ := still_atoi.out h; ⟨a, b, fun H' _ => c H'⟩
  · cases hp; exact let ⟨a, b, c⟩ := still_itoa.out h; ⟨a, b, fun H' _ => c H'⟩
  · cases hp; exact let ⟨a, b, c⟩ := still_trunc.out h; ⟨a, b, fun H' _ => c H'⟩
  · cases hp

theorem prim_fr : PrimFr (env P0) where
  fr := fun f p hp args H r h => by
    obtain ⟨h1, h2, _⟩ := prim_out hp h
    rw [h1, h2]; exact Fr.refl _ _
  loc := fun f p hp args H r h _ => by
    obtain ⟨h1, h2, h3⟩ := prim_out hp h
    exact ⟨fun i _ => by rw [h1], h3⟩

theorem prim_dd : PrimDd (env P0) where
  dd := fun f p hp args H r h => by
    obtain ⟨h1, _, _⟩ := prim_out hp h
    rw [h1]; exact fun _ _ h => h

end Go.Evl.Zone

/- The zone statements at their door, second part: the told functions at this program. -/
set_option linter.unusedVariables false
namespace Go.Evl.Zone
open Go Go.Evl Go.Proofs Go.RowKit Go.ChangeShapes Go.WideShapes Go.ChangeAt
set_option maxRecDepth 100000

theorem ent37 : Proofs.Enters P0 37 := enters_of Tryd.func37 (by kernel_rfl) rfl
theorem ent42 : Proofs.Enters P0 42 := enters_of Tryd.func42 (by kernel_rfl) rfl
theorem ent50 : Proofs.Enters P0 50 := enters_of Tryd.func50 (by kernel_rfl) rfl
theorem ent54 : Proofs.Enters P0 54 := enters_of Tryd.func54 (by kernel_rfl) rfl
theorem gTab : P0.globalNamed "internal/strconv.uint64pow10" = some 6 := by kernel_rfl
theorem find56n : (Extern.findNext Tryd.f56).isNone = true := by kernel_rfl
theorem find56 : Extern.find Tryd.f56 = some (Extern.MathFloor.toIntegral "math.archTrunc" .zero) := by kernel_rfl
theorem name56 : (Tryd.f56.name == "runtime.NumGoroutine") = false := by kernel_rfl
theorem body56 : Tryd.f56.body.isNone = true := by kernel_rfl

theorem run56 (w : World) (args : Array Value) : (callFunc 56 args).run P0 w = (do return Next.value (← Extern.MathFloor.toIntegral "math.archTrunc" .zero args) : Sem Next).run P0 w := by
  have h1 : Extern.findNext Tryd.f56 = none := by simpa using find56n
  have h0 : Tryd.prog.funcs[56]? = some Tryd.f56 := Tryd.func56
  unfold callFunc
  simp only [Sem.run_bind]
  rw [show (program : Sem Program).run P0 w = .ok P0 w from rfl]
  simp only [Result.andThen_ok, h0, name56, body56, h1, find56]
  simp [mark]
  rfl

theorem prim_ok {W : World} (hw : Wd W) : PrimOK (env P0) (InvW W) where
  ok := by
    intro f p hp
    change prim f = some p at hp
    have hs := hw.s
    unfold prim at hp
    split at hp
    · cases hp
      refine split_ok (t := 9) ent37 fun g hg s sep h1 h2 => ?_
      obtain ⟨m, hm⟩ := hw.m
      exact Tryd.strings_Split s sep m g.w h1 (by rw [hg.cell (show (1 : Nat) < W.heap.size by omega)]; exact hm) h2
    · cases hp
      exact join_ok ent42 (fun g a c sep => Tryd.strings_Join_none a c sep g.w) fun g bk o c xs sep h1 h2 h3 h4 h5 => Tryd.strings_Join bk o c xs sep g.w h1 h2 h3 h4 h5
    · cases hp
      refine atoi_ok (t := 5) (ti := 107) ent50 (fun g s h v hv => Tryd.strconv_Atoi_ok s h v hv g.w) fun g hg s h hv1 hv2 => ?_
      obtain ⟨u, v, he⟩ := hw.e
      cases hx : Lib.atoiAll s.data.toList with
      | ok v => exact (hv1 v hx).elim
      | range => exact (hv2 hx).elim
      | _ =>
      refine (Any.strconv_Atoi_syntax Tryd.laysC172 s h hx (.iface u v) g.w (by rw [hg.cell (show (2 : Nat) < W.heap.size by omega)]; exact he) (.inr ⟨u, v, rfl⟩)).mono ?_
      rintro e w' ⟨N, h1, _, _, h2⟩
      exact ⟨⟨N, h1⟩, h2⟩
    · cases hp
      refine itoa_ok ent54 fun g hg n h1 h2 => ?_
      exact Tryd.strconv_Itoa n h1 h2 g.w (by unfold Lib.TabIs; rw [hg.var gTab (show (6 : Nat) < W.heap.size by omega)]; exact hw.t)
    · cases hp
      exact trunc_ok fun x w args => run56 w args
    · cases hp

/-- What the evaluator answers of these functions the machine answers. -/
theorem zone_calls {W : World} (hw : Wd W) {f : FuncId} {vs : List Value} {aa : List PV} {v : Value} (ha : Cs (g0 W) vs aa) (h : ans (env P0) f aa = some (.val v)) :
    Calls P0 f vs.toArray W fun e W' => e = .returned v ∧ Below W.heap.size W W' :=
  door_calls (E := env P0) (invW_ok W) tab_ok prim_fr prim_dd (prim_ok hw) (invW_g0 W) ha h

end Go.Evl.Zone

/- The zone statements at their door, third part: what a row's list gives; a world that holds it. -/
set_option linter.unusedVariables false
namespace Go.Evl.Zone
open Go Go.Evl Go.Proofs Go.RowKit Go.ChangeShapes Go.WideShapes Go.ChangeAt Go.Proofs.YtabelkgkonmihaaDoor
set_option maxRecDepth 100000

theorem own : ownKnob P0.godebug = none := by kernel_rfl
theorem laidOut : laidOutB P0 = true := by kernel_rfl
theorem gErr : P0.globalNamed "strconv.ErrSyntax" = some 2 := by kernel_rfl
theorem gErrT : (P0.globals[2]?).map (·.type) = some 82 := by kernel_rfl
theorem gTabT : (P0.globals[6]?).map (·.type) = some 138 := by kernel_rfl
theorem cells138 : P0.cellsOf 138 = 20 := by kernel_rfl
theorem cells53 : P0.cellsOf 53 = 1 := by kernel_rfl
theorem u138 : P0.underlying 138 = some (.array 20 53) := by kernel_rfl

theorem iface_var {P : Program} {W : World} {n nm : String} {d : DataW Unit} {g : Nat} {ti : TypeId} {ms : Array (String × TypeId)} (h : Lib.VarReads P W n (.iface nm d)) (hg : P.globalNamed n = some g) (ht : (P.globals[g]?).map (·.type) = some ti) (hi : P.underlying ti = some (.interface ms)) :
    ∃ u v, W.var? P n = some #[.iface u v] := by
  obtain ⟨g', t', cs, fuel, p, h1, h2, h3, h4⟩ := h
  obtain rfl := Option.some.inj (hg.symm.trans h1)
  obtain rfl := Option.some.inj (ht.symm.trans h2)
  cases fuel with
  | zero => simp [DataW.trod] at h4
  | succ m =>
    unfold DataW.trod at h4
    rw [hi] at h4
    obtain ⟨l⟩ := cs
    simp only at h4
    split at h4 <;> simp_all

abbrev laidL : List (String × DataW Unit) := Rows.zoneDiscsRow.laid

theorem wd_of {W : World} (hL : laidMetH P0 laidL W) (hS : W.ShapedOpen P0) : Wd W := by
  have hL' : laidMet P0 laidL W := hL
  have ht : Lib.TabIs P0 W "internal/strconv.uint64pow10" .u64 Lib.pow10Tab := Lib.tabIs_of_head (g := 6) gTab gTabT u138 Tryd.underlying53 cells53 cells138 (show laidMet P0 (("internal/strconv.uint64pow10", Lib.tabData .u64 Lib.pow10Tab) :: laidL.drop 3) W from laidMet.tail (laidMet.tail hL'))
  have hsz : 6 < W.heap.size := by
    have h0 := ht
    unfold Lib.TabIs World.var? at h0
    rw [gTab] at h0
    simp only [Option.bind_some] at h0
    split at h0
    · rename_i hh; exact lt_of_heap hh
    · cases h0
  refine ⟨Tryd.laysM146.s1_3 W hS, ?_, ht, hsz⟩
  obtain ⟨u, v, he⟩ := iface_var (Lib.laidMet.reads hL' (n := "strconv.ErrSyntax") (.tail _ (.tail _ (.tail _ (.tail _ (.tail _ (.head _))))))) gErr gErrT Tryd.underlying82
  exact ⟨u, v, by simpa using World.var?_cell gErr he 0⟩

/-! ### A world for the witness -/

noncomputable def put (h : Array Obj) (g : Nat) (cs : Array Value) : Array Obj := h.modify g fun
  | .cells _ t frozen => .cells cs t frozen
  | o => o

noncomputable def laidWorld (os : Os) : World :=
  let N := (World.settled P0 os).heap.size
  let w0 := World.holding P0 os ⟨#[.cells #[.string ⟨#[105, 110, 118, 97, 108, 105, 100, 32, 115, 121, 110, 116, 97, 120]⟩] 136, .cells #[.string ⟨#[118, 97, 108, 117, 101, 32, 111, 117, 116, 32, 111, 102, 32, 114, 97, 110, 103, 101]⟩] 136], #[], []⟩
  let nums (k : IntKind) (l : List Nat) : Array Value := (l.map fun (z : Nat) => Value.int k (z : Int)).toArray
  let h1 := put w0.heap 2 #[.iface 134 (.pointer (some ⟨N, 0, none⟩))]
  let h2 := put h1 3 #[.iface 134 (.pointer (some ⟨N + 1, 0, none⟩))]
  let h3 := put h2 4 (nums .u8 Pinned.utf8FirstZ)
  let h4 := put h3 5 (nums .u8 [128, 191, 160, 191, 128, 159, 144, 191, 128, 143, 0, 0, 0, 0, 0, 0, 0, 0, 0, 0, 0, 0, 0, 0, 0, 0, 0, 0, 0, 0, 0, 0])
  let h5 := put h4 6 (Lib.pow10Tab.map fun z => Value.int .u64 z).toArray
  let h6 := put h5 7 (nums .u8 [0, 1, 28, 2, 29, 14, 24, 3, 30, 22, 20, 15, 25, 17, 4, 8, 31, 27, 13, 23, 21, 19, 16, 7, 26, 12, 18, 6, 11, 5, 10, 9])
  let h7 := put h6 8 (nums .u8 [0, 1, 56, 2, 57, 49, 28, 3, 61, 58, 42, 50, 38, 29, 17, 4, 62, 47, 59, 36, 45, 43, 51, 22, 53, 39, 33, 30, 24, 18, 12, 5, 63, 55, 48, 27, 60, 41, 37, 16, 46, 35, 44, 21, 52, 32, 23, 11, 54, 26, 40, 15, 34, 20, 31, 10, 25, 14, 19, 9, 13, 8, 7, 6])
  { w0 with heap := h7 }

theorem laid_met (os : Os) (args : Array Value) : laidMet P0 laidL ((laidWorld os).forCall (fun _ _ => 0) ⟨#[], args, []⟩).memory :=
  laidMet_of_run' 8 (by kernel_rfl) (by kernel_rfl)

end Go.Evl.Zone

/- The zone statements at their door, fourth part: from a law's answer to its row. -/
set_option linter.unusedVariables false
namespace Go.Evl.Zone
open Go Go.Evl Go.Proofs Go.RowKit Go.ChangeShapes Go.WideShapes Go.ChangeAt Go.Proofs.YtabelkgkonmihaaDoor
set_option maxRecDepth 100000

/-- A law's function answers true of all that can come in. -/
def LawOK (k : FuncId) (ts : List TypeId) : Prop := ∀ aa, FitAll P0 6 ts aa → ans (env P0) k aa = some (.val (.bool true))

theorem lift {H : Type} {enc : TypeId × Value → H} {os : Os} (started : os.Started) {k : FuncId} {fn : Func} {s : ChangeSpec} {F : Stop.Interp} (hfn : P0.funcs[k]? = some fn) (noInit : P0.inits.idxOf? k = none) (hvars : s.vars = [])
    (hspec : ∀ ds : List (DataW H), ds.length = fn.params.toList.length → s.fn H ds = { results := [.lit (.bool true)], args := ds }) (hres : fn.resultTypes = #[4])
    (hrd : (fn.params.toList.all fun t => rdB P0 6 t && P0.readableRec t && decide (t < P0.types.size)) = true) (hlaw : LawOK k fn.params.toList) (wargs : Array Value)
    (hok : Input.okWideB P0 ((laidWorld os).forCall (fun _ _ => 0) ⟨#[], wargs, []⟩) k ⟨#[], wargs, []⟩ = true)
    (hvr : ((laidWorld os).forCall (fun _ _ => 0) ⟨#[], wargs, []⟩).variablesRefB P0 = true)
    (hhp : ((((laidWorld os).forCall (fun _ _ => 0) ⟨#[], wargs, []⟩).heap.toList.drop P0.globals.size).take ((begin P0 (fun _ _ => 0) default).world.heap.size - P0.globals.size) = (begin P0 (fun _ _ => 0) default).world.heap.toList.drop P0.globals.size))
    (hrow : (OpenSpec.ofChange s).preRow enc P0 fn [] false laidL ((laidWorld os).forCall (fun _ _ => 0) ⟨#[], wargs, []⟩).memory wargs) :
    ReturnsInHanded {} Tryd.checked os k .any ((OpenSpec.ofChange s).preRow enc P0 fn [] false laidL) (((OpenSpec.ofChange s).at F).post enc P0 fn false true false false) := by
  refine returnsInHanded_of_row (C := Tryd.checked) (s := OpenSpec.ofChange s) own started noInit hfn (witness_row_atRef (enc := enc) (C := Tryd.checked) false (laidWorld os) wargs rfl hvr hhp hok hrow) ?_
  intro W base args ds gs before hval hW _ _ _ hL hS _
  have hrd' : ∀ t ∈ fn.params.toList, rdB P0 6 t = true ∧ P0.readableRec t = true ∧ t < P0.types.size := fun t ht => by
    have := List.all_eq_true.1 hrd t ht
    simp only [Bool.and_eq_true, decide_eq_true_eq] at this
    exact ⟨this.1.1, this.1.2, this.2⟩
  have hW0 : DataW.Whole enc P0 fn.params.toList s.vars false W args.toList ds gs before := hW
  have hW1 := hW0
  obtain ⟨p, q, hA, hV, _, _, _⟩ := hW1
  rw [hvars] at hV
  obtain ⟨rfl, _⟩ := trodVars_none hV
  obtain ⟨aa, hc, hfit⟩ := args_read (fun t ht => (hrd' t ht).1) (fun j t v a b => hval j t v (by simpa using a) (by simpa using b)) hA
  have hlen : ∀ {ts : List TypeId} {vs : List Value} {ds : List (DataW H)} {ps : List MemPlace}, DataW.TrodAll enc P0 W 0 (fun _ => true) true ts vs ds ps → ds.length = ts.length := by
    intro ts
    induction ts with
    | nil => intro vs ds ps h; match vs, ds, h with | [], [], _ => rfl
    | cons t ts ih => intro vs ds ps h; match vs, ds, h with | _ :: _, _ :: _, ⟨_, _, _, h2, _⟩ => simp [ih h2]
  have hcall := zone_calls (wd_of hL hS) (f := k) (vs := args.toList) hc (hlaw aa hfit)
  rw [Array.toArray_toList] at hcall
  refine hcall.mono ?_
  rintro e W' ⟨rfl, hb⟩
  refine ⟨_, rfl, ?_⟩
  exact law_post (s := s) (tb := 4) laidOut hW0 hvars (by rw [List.append_nil]; exact hspec ds (hlen hA)) hres Tryd.underlying4 (fun t ht => ⟨(hrd' t ht).2.1, (hrd' t ht).2.2⟩) hb

end Go.Evl.Zone

/- ZoneDiscs: its function answers true. -/
namespace Go.Evl.Zone
open Go Go.Evl Go.Evl.Fl
set_option linter.unusedSimpArgs false
set_option linter.unusedVariables false
variable {P : Program}

theorem un_cneg {a b : Nat} : scal P (Op.unary .neg (.complex .f64 a b)) = some (.val (.complex .f64 (Op.negFloat .f64 a) (Op.negFloat .f64 b))) := rfl
theorem evBin_bneq {t : TypeId} {cx cy : Bool} {a b : Bool} (h : P.underlying t = some .bool) : evBin P .neq t cx cy (.val (.bool a)) (.val (.bool b)) = some (.val (.bool (a != b))) := by
  simp only [evBin, toV, scal, pureRun_bind]
  have h1 : pureRun P (eqGuard .neq t (if cx then .const (.bool a) else .tmp 0) (if cy then .const (.bool b) else .tmp 0) (.bool a) (.bool b)) = some () := by
    unfold eqGuard
    cases cx <;> cases cy <;> rfl
  rw [h1]
  simp only [Option.bind_some]
  simp only [binOp, pureRun_bind]
  have h2 : pureRun P (Op.equal t (.bool a) (.bool b)) = some (a == b) := by
    unfold Op.equal
    rw [show Op.maxDepth = (Op.maxDepth - 1) + 1 from rfl, Op.equalIn]
    simp only [pureRun_bind, pureRun_under, h, Option.bind_some]
    rfl
  rw [h2]
  simp only [Option.bind_some]
  rfl

theorem evBin_beql {t : TypeId} {cx cy : Bool} {a b : Bool} (h : P.underlying t = some .bool) : evBin P .eql t cx cy (.val (.bool a)) (.val (.bool b)) = some (.val (.bool (a == b))) := by
  simp only [evBin, toV, scal, pureRun_bind]
  have h1 : pureRun P (eqGuard .eql t (if cx then .const (.bool a) else .tmp 0) (if cy then .const (.bool b) else .tmp 0) (.bool a) (.bool b)) = some () := by
    unfold eqGuard
    cases cx <;> cases cy <;> rfl
  rw [h1]
  simp only [Option.bind_some]
  simp only [binOp, pureRun_bind]
  have h2 : pureRun P (Op.equal t (.bool a) (.bool b)) = some (a == b) := by
    unfold Op.equal
    rw [show Op.maxDepth = (Op.maxDepth - 1) + 1 from rfl, Op.equalIn]
    simp only [pureRun_bind, pureRun_under, h, Option.bind_some]
    rfl
  rw [h2]
  simp only [Option.bind_some]
  rfl

/-- A zone of one step that takes nothing. -/
theorem has_one {op x y s px py : Int} {re im sz : Nat} {a b : Nat} (hop : op = 2 ∨ op = 3) (hr : rightB op x y s = true) (h1 : Is re x) (h2 : Is im y) (h3 : Is sz s) (ha : Is a px) (hb : Is b py) (n3 : near px = true) (n4 : near py = true) :
    ans (env P) 15 [.im [[.val (.int .i64 op), .val (.complex .f64 re im), .val (.float .f64 sz)]] false, .val (.complex .f64 a b)] = some (.val (.bool (truthB op x y s px py []))) := by
  have h := zoneHas_ans (P := P) (l := [⟨op, x, y, s, re, im, sz⟩]) (by simp [SI.ok, h1, h2, h3]) ha hb
  have hn : needsN op = 0 := by unfold needsN; rcases hop with rfl | rfl <;> rfl
  have hz : zoneHas [⟨op, x, y, s, re, im, sz⟩] px py = truthB op x y s px py [] := by
    simp [zoneHas, zoneRight, foldR, SI.right, hr, hn, n3, n4, runT, stepT, SI.truth]
  rw [hz] at h
  exact h

set_option maxRecDepth 10000 in
set_option maxHeartbeats 4000000 in
theorem zoneDiscs_ans (T : Typed P) (T4 : P.underlying 4 = some .bool) (told : ans (env P) 12 [] = some (.val (.bool true))) {ax ay px py size : Int} : ans (env P) 7 [placeV ax ay, placeV px py, .val (.int .i64 size)] = some (.val (.bool true)) := by
  have e3 : ∀ n : Int, scal P (Go.convert 3 53 (.int .i64 n)) = some (.val (.int .u64 (n % 18446744073709551616))) := fun n => by
    rw [cv_ii (k := .u64) (by rw [T.t3]; rfl) T.t53, wrapU64]
  have e4 : ∀ n : Int, scal P (Go.convert 53 3 (.int .u64 (n % 18446744073709551616 % 2001))) = some (.val (.int .i64 (n % 18446744073709551616 % 2001))) := fun n => by
    rw [cv_ii (k := .i64) (by rw [T.t53]; rfl) T.t3, wrap64_id (by omega)]
  have e5 : ∀ n : Int, (n % 18446744073709551616).tmod 2001 = n % 18446744073709551616 % 2001 := fun n => tmod_pos (by omega) (by omega)
  have e6 : ∀ n : Int, scal P (Go.convert 3 41 (.int .i64 n)) = some (.val (.float .f64 (FloatKind.f64.nearest n))) := fun n => cv_if (by rw [T.t3]; rfl) T.t41
  have s1 : ∀ x y : Int, ans (env P) 11 [.agg [.val (.int .i64 x), .val (.int .i64 y)]] = some (.agg [.val (.int .i64 (spotN x)), .val (.int .i64 (spotN y))]) := fun x y => refSpot_ans T
  have s2 : ∀ x y : Int, ans (env P) 16 [.agg [.val (.int .i64 x), .val (.int .i64 y)]] = some (.val (.complex .f64 (FloatKind.f64.nearest x) (FloatKind.f64.nearest y))) := fun x y => spot_ans T
  have nA := spotN_near ax
  have nB := spotN_near ay
  have nX := spotN_near px
  have nY := spotN_near py
  generalize hA : spotN ax = A at *
  generalize hB : spotN ay = B at *
  generalize hX : spotN px = X at *
  generalize hY : spotN py = Y at *
  have hn : 0 ≤ size % 18446744073709551616 % 2001 ∧ size % 18446744073709551616 % 2001 ≤ 2000 := by omega
  have e7 := e4 size
  generalize hsz : size % 18446744073709551616 % 2001 = n at *
  have nA' := nA; have nB' := nB; have nX' := nX; have nY' := nY
  simp only [near, Bool.and_eq_true, decide_eq_true_eq] at nA' nB' nX' nY'
  have iA : Is (FloatKind.f64.nearest A) A := Is.nearest (abs_lt53 (by omega))
  have iB : Is (FloatKind.f64.nearest B) B := Is.nearest (abs_lt53 (by omega))
  have iX : Is (FloatKind.f64.nearest X) X := Is.nearest (abs_lt53 (by omega))
  have iY : Is (FloatKind.f64.nearest Y) Y := Is.nearest (abs_lt53 (by omega))
  have iN : Is (FloatKind.f64.nearest n) n := Is.nearest (abs_lt53 (by omega))
  have iM : Is (FloatKind.f64.nearest (-n)) (-n) := Is.nearest (abs_lt53 (by omega))
  have r1 : rightB 2 A B n = true := by simp [rightB, nA, nB, hn]
  have r2 : rightB 3 A B n = true := by simp [rightB, nA, nB]; omega
  have r3 : rightB 3 (-A) (-B) (-n) = true := by simp [rightB, near]; omega
  have hd := has_one (P := P) (.inl rfl) r1 iA iB iN iX iY nX nY
  have hh := has_one (P := P) (.inr rfl) r2 iA iB iN iX iY nX nY
  have ho := has_one (P := P) (.inr rfl) r3 iA.neg iB.neg iM iX iY nX nY
  have m1 := mul_le (a := A) (b := X) (by unfold sm; omega) (by unfold sm; omega)
  have m2 := mul_le (a := B) (b := Y) (by unfold sm; omega) (by unfold sm; omega)
  have m3 := mul_le (a := X - A) (b := X - A) (by unfold sm; omega) (by unfold sm; omega)
  have m4 := mul_le (a := Y - B) (b := Y - B) (by unfold sm; omega) (by unfold sm; omega)
  have m5 := mul_le (a := n) (b := n) (by unfold sm; omega) (by unfold sm; omega)
  have w1 : IntKind.i64.wrap (A * X) = A * X := wrap64_id (by omega)
  have w2 : IntKind.i64.wrap (B * Y) = B * Y := wrap64_id (by omega)
  have w3 : IntKind.i64.wrap (A * X + B * Y) = A * X + B * Y := wrap64_id (by omega)
  have w4 : IntKind.i64.wrap (X - A) = X - A := wrap64_id (by omega)
  have w5 : IntKind.i64.wrap (Y - B) = Y - B := wrap64_id (by omega)
  have w6 : IntKind.i64.wrap ((X - A) * (X - A)) = (X - A) * (X - A) := wrap64_id (by omega)
  have w7 : IntKind.i64.wrap ((Y - B) * (Y - B)) = (Y - B) * (Y - B) := wrap64_id (by omega)
  have w8 : IntKind.i64.wrap ((X - A) * (X - A) + (Y - B) * (Y - B)) = (X - A) * (X - A) + (Y - B) * (Y - B) := wrap64_id (by omega)
  have w9 : IntKind.i64.wrap (n * n) = n * n := wrap64_id (by omega)
  have w10 : IntKind.i64.wrap (-n) = -n := wrap64_id (by omega)
  have t1 : truthB 2 A B n X Y [] = decide ((X - A) * (X - A) + (Y - B) * (Y - B) ≤ n * n) := rfl
  have t2 : truthB 3 A B n X Y [] = decide (n ≤ A * X + B * Y) := by rw [Int.mul_comm A X, Int.mul_comm B Y]; rfl
  have t3 : truthB 3 (-A) (-B) (-n) X Y [] = decide (A * X + B * Y ≤ n) := by
    show decide (-n ≤ X * (-A) + Y * (-B)) = _
    rw [Int.mul_neg, Int.mul_neg, Int.mul_comm X A, Int.mul_comm Y B]
    exact decide_eq_decide.2 (by omega)
  rw [t1] at hd; rw [t2] at hh; rw [t3] at ho
  refine ans_V rfl rfl ?_
  by_cases c1 : n ≤ A * X + B * Y <;> by_cases c2 : A * X + B * Y ≤ n <;> by_cases c3 : (X - A) * (X - A) + (Y - B) * (Y - B) ≤ n * n <;>
    simp [c7, placeV, e3, e7, e5, e6, s1, s2, hA, hB, hX, hY, hsz, told, un_cneg, hd, hh, ho, w1, w2, w3, w4, w5, w6, w7, w8, w9, w10, evBin_bneq T4, evBin_beql T4, chunks, c1, c2, c3]
  all_goals (clear hd hh ho; omega)

end Go.Evl.Zone
