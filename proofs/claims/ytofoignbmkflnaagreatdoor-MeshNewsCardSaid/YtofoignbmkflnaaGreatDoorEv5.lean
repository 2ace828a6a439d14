/- The evaluator's texts ZPOK to ZN8, joined. -/
import Derived.Test.YtofoignbmkflnaaGreatDoorEv4
import Derived.Calls
import Derived.Below
import Derived.Sort.Grow
import Derived.Deep.Draws
import Derived.Lib.ConvBytes
import Derived.Shelf.Abstract
import Derived.Lib.LaidTab
import GoSem.Extern.MathFloor
import Derived.Lib.Bytealg
import Derived.Test.YtofoignbmkflnaaGreatDoorChecked
import Derived.Lib.LaidU8
import Derived.Lib.LaidIn
import Derived.Deep.DeepWitnessRowRef
import Derived.ProofKit
import Derived.Test.YtofoignbmkflnaaGreatDoorShelf
import Derived.Test.YtofoignbmkflnaaGreatDoorRows
import Derived.Shelf.Spec.SlicesInsertGrow
import Derived.Laws.BitsLemmas
import Derived.Lib.Strings
set_option linter.all false
set_option linter.deprecated false
set_option linter.unusedVariables false
set_option linter.unusedSimpArgs false
set_option linter.unnecessarySimpa false
namespace Go.Evl.Zone
open Go Go.Evl Go.RowKit Go.Sort
def PSound (P : Program) (Inv : G → Prop) (f : FuncId) (p : List PV → Heap → Option ORes) : Prop := ∀ args H r, p args H = some r → ∀ (g : G) (vs : List Value) (R : Value → World → Prop), WR g → Inv g → g.H = H → Cs g vs args →
    (∀ g' v, g'.H = r.h → WR g' → Ext g g' → VR g' v r.v → R v g'.w) → Goes P f vs.toArray g.w R
theorem goes_calls {P : Program} {f : FuncId} {args : Array Value} {w : World} {R : Value → World → Prop} {Q : Ending → World → Prop} (hE : Go.Proofs.Enters P f) (h : Calls P f args w Q) (hq : ∀ e w', Q e w' → ∃ v, e = .returned v ∧ R v w') : Goes P f args w R := by
  unfold Goes
  rw [hE args w]
  refine h.mono fun e w' hx => ?_
  obtain ⟨v, rfl, hr⟩ := hq e w' hx
  exact hr
theorem grown_g {g : G} (hW : WR g) {w' : World} (hb : Below g.w.heap.size g.w w') : ∃ g' : G, g'.w = w' ∧ g'.H = g.H ∧ WR g' ∧ Ext g g' ∧ ∀ b, g.w.heap.size ≤ b → b < w'.heap.size → g'.Z b := by
  obtain ⟨h1, h2⟩ := grow_world hW w' (fun b => g.w.heap.size ≤ b ∧ b < w'.heap.size) hb.size hb.block (fun b h => h) ⟨hb.os, hb.tape, hb.output⟩
  exact ⟨⟨w', fun b => g.Z b ∨ (g.w.heap.size ≤ b ∧ b < w'.heap.size), g.ι, g.H⟩, rfl, rfl, h1, h2, fun b h h' => .inr ⟨h, h'⟩⟩
theorem elems_slice {g : G} (hW : WR g) {v : Value} {p : PV} (hv : VR g v p) (hp : ∀ x, p ≠ .val x) {k : Nat} {ys : List (List PV)} {is : List Nat} (h : elems g.H k p = some (ys, is)) :
    ∃ (ad : Option Addr) (c : Nat), v = .slice ad ys.length c ∧ ys.length ≤ c ∧ (ys ≠ [] → ∃ (b o : Nat) (news : List Value), ad = some ⟨b, o, none⟩ ∧ b < g.w.heap.size ∧ RR g k news ys ∧ ∀ (j : Nat) u, news[j]? = some u → g.w.cell? ⟨b, o + j, none⟩ = some u) := by
  unfold elems at h
  split at h
  · rename_i xs full
    split at h
    · rename_i hall
      simp at h; obtain ⟨rfl, rfl⟩ := h
      obtain ⟨ad, cap, rfl, _, hcap, hat⟩ := hv.inv_im
      refine ⟨ad, cap, rfl, hcap, fun hne => ?_⟩
      obtain ⟨k', b, off, c, t, fr, cv, rfl, hZ, hb, _, hk, hno, hc, hh⟩ := hat hne
      have hkk : k = k' := allLen_eq hall hne hk
      subst hkk
      have key : ∀ (q : Nat) (p : PV), xs.flatten[q]? = some p → ∃ u, g.w.cell? ⟨b, off + q, none⟩ = some u ∧ (VR g u p ∧ u.oneCell' = true) := by
        intro q p hq
        obtain ⟨hk0, x, h1, h2⟩ := flat_get' hk hq
        have h3 := hc _ x _ p h1 h2
        rw [Nat.add_assoc, Nat.mul_comm, Nat.div_add_mod] at h3
        exact ⟨_, by rw [cell_of hb]; exact h3.1, hh _ x _ p h1 h2, h3.2⟩
      obtain ⟨news, n1, n2⟩ := cells_of (g := g) (ps := xs.flatten) (ad := fun q => g.w.cell? ⟨b, off + q, none⟩) (fun q p hq => let ⟨u, z1, z2⟩ := key q p hq; ⟨u, z1, z2.1⟩)
      refine ⟨b, off, news, rfl, lt_of_heap hb, ⟨n1, hk, fun u hu => ?_⟩, n2⟩
      obtain ⟨q, hq⟩ := List.mem_iff_getElem?.1 hu
      have hq' : q < xs.flatten.length := by rw [← n1.1]; exact (List.getElem?_eq_some_iff.1 hq).1
      obtain ⟨u', z1, z2⟩ := key q _ (List.getElem?_eq_getElem hq')
      rw [n2 q u hq] at z1; simp at z1; subst z1; exact z2.2
    · simp at h
  · rename_i r k' gen off len
    split at h
    · rename_i k'' xs own hb
      split at h
      · rename_i hcond
        obtain ⟨rfl, rfl, rfl, hle⟩ := hcond
        simp at h; obtain ⟨rfl, rfl⟩ := h
        cases hv with
        | sl ad _ _ _ _ _ cap hlc hg hh =>
          obtain ⟨a1, a2, b, c, t, fr, q1, q2, q3, q4, q5, q6⟩ := hW.row r k xs own hb
          have hval : Valid g r k xs.length b := ⟨q1, by rw [hb]; rfl, by rw [hb]; rfl⟩
          obtain ⟨e1, _⟩ := hh b hval
          subst e1
          have hrr := row_rr a2 q5 q6
          have hsub := (hrr.drop off).take len
          have hlen : ((xs.drop off).take len).length = len := by simp; omega
          refine ⟨_, cap, by rw [hlen], by rw [hlen]; exact hlc, fun _ => ⟨b, off * k, _, rfl, lt_of_heap q2, hsub, fun j u hj => ?_⟩⟩
          rw [List.getElem?_take] at hj
          split at hj
          · rw [List.getElem?_drop, List.getElem?_take] at hj
            split at hj
            · rw [cell_of q2]; simpa using hj
            · simp at hj
          · simp at hj
      · simp at h
    · simp at h
  · exact absurd rfl (hp _)
  · exact absurd rfl (hp _)
  · simp at h
variable {P : Program} {Inv : G → Prop}
theorem cs_one {g : G} {vs : List Value} {p : PV} (h : Cs g vs [p]) : ∃ v, vs = [v] ∧ VR g v p := by
  obtain ⟨v, h1, h2⟩ := h.get (i := 0) (p := p) rfl
  have := h.1
  match vs, this, h1 with
  | [x], _, h1 => simp at h1; exact ⟨v, by rw [h1], h2⟩
theorem cs_two {g : G} {vs : List Value} {p q : PV} (h : Cs g vs [p, q]) : ∃ v u, vs = [v, u] ∧ VR g v p ∧ VR g u q := by
  obtain ⟨v, h1, h2⟩ := h.get (i := 0) (p := p) rfl
  obtain ⟨u, h3, h4⟩ := h.get (i := 1) (p := q) rfl
  have := h.1
  match vs, this, h1, h3 with
  | [x, y], _, h1, h3 => simp at h1 h3; exact ⟨v, u, by rw [h1, h3], h2, h4⟩
theorem split_ok {f : FuncId} {t : TypeId} (hE : Go.Proofs.Enters P f) (hC : ∀ g, Inv g → ∀ (s sep : ByteArray), s.size < 4294967281 → 1 ≤ sep.size → Calls P f #[.string s, .string sep] g.w fun e w' =>
      e = .returned (.slice (some ⟨g.w.heap.size, 0, none⟩) (Lib.countB s sep + 1) (Lib.countB s sep + 1)) ∧ w' = g.w.alloc (.cells ((Lib.splitB sep 0 (Lib.countB s sep) s).map Value.string).toArray t)) : PSound P Inv f pSplit := by
  intro args H r h g vs R hW hI hH ha hR
  unfold pSplit at h
  split at h
  · rename_i s p
    split at h
    · rename_i c hc
      split at h
      · rename_i hs
        simp at h; subst h
        obtain ⟨v, u, rfl, h1, h2⟩ := cs_two ha
        obtain rfl := h1.inv_val
        obtain rfl := h2.inv_val
        have hp1 : 1 ≤ p.size := by
          have : p.size = p.data.toList.length := (Array.length_toList (xs := p.data)).symm
          rw [this, hc]; simp
        refine goes_calls hE (hC g hI s p hs hp1) ?_
        rintro e w' ⟨rfl, hw⟩
        refine ⟨_, rfl, ?_⟩
        generalize hL : Lib.splitB p 0 (Lib.countB s p) s = L at hw
        have hlen : L.length = Lib.countB s p + 1 := by rw [← hL]; exact Lib.splitB_all p hp1 0 _ s rfl
        have hLL : L.map (·.data.toList) = splitL c s.data.toList := by rw [← hL]; exact splitB_lib hc
        have hbel : Below g.w.heap.size g.w w' := hw ▸ (Below.refl _ _).alloc (Nat.le_refl _) _
        obtain ⟨g', e1, e2, e3, e4, e5⟩ := grown_g hW hbel
        have hnew : g'.w.heap[g.w.heap.size]? = some (.cells (L.map Value.string).toArray t (0, 0)) := by
          rw [e1, hw]; exact heap_alloc_new g.w _
        have hx : ((splitL c s.data.toList).map fun x => [strOf x]) = L.map fun x => [PV.val (.string x)] := by
          rw [← hLL, List.map_map]
          refine List.map_congr_left fun x _ => ?_
          simp [strOf]
        refine e1 ▸ hR g' _ (by rw [e2, hH]) e3 e4 ?_
        rw [← hlen, hx]
        refine VR.mk_im (by simp) (by simp) (by simp) fun _ => ⟨1, g.w.heap.size, 0, _, t, _, fun i j => ((L.map Value.string)[i]?).getD undef, rfl, e5 _ (Nat.le_refl _) (lt_of_heap (e1 ▸ hnew)), hnew, by simp, ?_, ?_, ?_, ?_⟩
        · intro x hx; simp at hx; obtain ⟨c, _, rfl⟩ := hx; rfl
        · intro x hx p hp; simp at hx; obtain ⟨c, _, rfl⟩ := hx; simp at hp; subst hp; exact .val _
        all_goals
          intro i x j p hx hp
          simp only [List.getElem?_map, Option.map_eq_some_iff] at hx
          obtain ⟨c, hc, rfl⟩ := hx
          have hj : j = 0 := by have := (List.getElem?_eq_some_iff.1 hp).1; simp at this; omega
          subst hj
          simp at hp; subst hp
          have hat : (L.map Value.string)[i]? = some (.string c) := by simp [hc]
          first
            | exact ⟨by simp [hc], by simp [hc, Value.oneCell']⟩
            | (simp only [hat, Option.getD_some]; exact .val _)
      · simp at h
    · simp at h
  · simp at h
theorem goes_val {f : FuncId} {args : Array Value} {g : G} {x : Value} {H : Heap} {R : Value → World → Prop} {Q : Ending → World → Prop} (hE : Go.Proofs.Enters P f) (h : Calls P f args g.w Q) (hW : WR g) (hH : g.H = H)
    (hq : ∀ e w', Q e w' → e = .returned x ∧ Below g.w.heap.size g.w w') (hR : ∀ g' v, g'.H = H → WR g' → Ext g g' → VR g' v (.val x) → R v g'.w) : Goes P f args g.w R := by
  refine goes_calls hE h fun e w' hx => ?_
  obtain ⟨he, hb⟩ := hq e w' hx
  obtain ⟨g', e1, e2, e3, e4, e5⟩ := grown_g hW hb
  exact ⟨x, he, e1 ▸ hR g' x (by rw [e2, hH]) e3 e4 (.val x)⟩
theorem below_grow (w : World) (k : Nat) (os : Array Obj) : Below w.heap.size w (grow (w.drewN k) os) :=
  ⟨rfl, rfl, rfl, by simp [grow, World.drewN], fun b hb => by
    show (w.heap ++ os)[b]? = _
    rw [Array.getElem?_append, if_pos hb]⟩
theorem itoa_ok {f : FuncId} (hE : Go.Proofs.Enters P f) (hC : ∀ g, Inv g → ∀ n : Int, -9223372036854775808 ≤ n → n ≤ 9223372036854775807 → Calls P f #[.int .i64 n] g.w fun e w' => e = .returned (.string ⟨(Lib.itoa n).toArray⟩) ∧ ∃ k os, w' = grow (g.w.drewN k) os) : PSound P Inv f pItoa := by
  intro args H r h g vs R hW hI hH ha hR
  unfold pItoa at h
  split at h
  · rename_i n
    split at h
    · rename_i hn
      simp at h; subst h
      obtain ⟨v, rfl, h1⟩ := cs_one ha
      obtain rfl := h1.inv_val
      refine goes_val (x := .string ⟨(itoaL n).toArray⟩) hE (hC g hI n hn.1 hn.2) hW hH ?_ hR
      rintro e w' ⟨rfl, k, os, rfl⟩
      exact ⟨by rw [itoaL_lib hn.1 hn.2], below_grow _ _ _⟩
    · simp at h
  · simp at h
theorem join_ok {f : FuncId} (hE : Go.Proofs.Enters P f) (hN : ∀ (g : G) (a : Option Addr) (c : Nat) (sep : ByteArray), Calls P f #[.slice a 0 c, .string sep] g.w fun e w' => e = .returned (.string ⟨#[]⟩) ∧ w' = g.w)
    (hC : ∀ (g : G) (bk o c : Nat) (xs : List ByteArray) (sep : ByteArray), (∀ (j : Nat) x, xs[j]? = some x → g.w.cell? ⟨bk, o + j, none⟩ = some (.string x)) → bk < g.w.heap.size → xs.length ≤ 140737488355328 → xs.length ≤ c → (Lib.join (xs.map (·.data.toList)) sep.data.toList).length ≤ 140737488355328 →
      Calls P f #[.slice (some ⟨bk, o, none⟩) xs.length c, .string sep] g.w fun e w' => e = .returned (.string ⟨(Lib.join (xs.map (·.data.toList)) sep.data.toList).toArray⟩) ∧ Below g.w.heap.size g.w w') : PSound P Inv f pJoin := by
  intro args H r h g vs R hW hI hH ha hR
  unfold pJoin at h
  split at h
  · simp at h
  · rename_i x p hnv
    split at h
    · rename_i xs is hel
      split at h
      · rename_i l hl
        split at h
        · rename_i hcond
          simp at h; subst h
          obtain ⟨v, u, rfl, h1, h2⟩ := cs_two ha
          obtain rfl := h2.inv_val
          subst hH
          obtain ⟨ad, c, rfl, hlc, hat⟩ := elems_slice hW h1 (fun x0 hx0 => hnv x0 hx0) hel
          have hstr : ∀ (xs : List (List PV)) (l : List (List UInt8)), strs xs = some l → xs = l.map fun x => [strOf x] := by
            intro xs
            induction xs with
            | nil => intro l h; simp [strs] at h; subst h; rfl
            | cons y ys ih =>
              intro l h
              unfold strs at h
              split at h
              · rename_i heq; simp at heq
              · rename_i s r heq
                simp at heq; obtain ⟨rfl, rfl⟩ := heq
                simp only [Option.map_eq_some_iff] at h
                obtain ⟨l', h', rfl⟩ := h
                rw [ih l' h']; simp [strOf]
              · simp at h
          have hxs := hstr xs l hl
          cases hne : xs with
          | nil =>
            have hl0 : l = [] := by rw [hne] at hxs; simpa using hxs.symm
            subst hl0
            rw [show ([] : List (List PV)).length = 0 from rfl]
            refine goes_val (x := .string ⟨#[]⟩) hE (hN g ad c p) hW rfl ?_ hR
            rintro e w' ⟨rfl, rfl⟩
            exact ⟨rfl, Below.refl _ _⟩
          | cons y ys =>
            obtain ⟨b, o, news, rfl, hbl, hrr, hcell⟩ := hat (by rw [hne]; simp)
            rw [← hne]
            have hlen : (l.map fun x => (⟨x.toArray⟩ : ByteArray)).length = xs.length := by rw [hxs]; simp
            rw [← hlen]
            have hmm : (l.map fun x => (⟨x.toArray⟩ : ByteArray)).map (·.data.toList) = l := by rw [List.map_map]; exact (List.map_congr_left fun x _ => by simp).trans (List.map_id l)
            generalize hL : (l.map fun x => (⟨x.toArray⟩ : ByteArray)) = L at hlen hmm
            have hLl : L.length ≤ 140737488355328 := by rw [← hL, List.length_map]; exact hcond.1
            have hLc : L.length ≤ c := by rw [hlen]; exact hlc
            have hLj : (Lib.join (L.map (·.data.toList)) p.data.toList).length ≤ 140737488355328 := by rw [hmm, ← joinL_lib]; exact hcond.2
            have hcells : ∀ (j : Nat) x, L[j]? = some x → g.w.cell? ⟨b, o + j, none⟩ = some (.string x) := by
              intro j x hx
              rw [← hL] at hx
              have hflat : xs.flatten = l.map strOf := by
                rw [hxs]
                have : ∀ l : List (List UInt8), (l.map fun x => [strOf x]).flatten = l.map strOf := by
                  intro l
                  induction l with
                  | nil => rfl
                  | cons a l ih => simp only [List.map_cons, List.flatten_cons, ih]; rfl
                exact this l
              obtain ⟨z, hz⟩ : ∃ z, l[j]? = some z ∧ (⟨z.toArray⟩ : ByteArray) = x := by simpa using hx
              have hfj : xs.flatten[j]? = some (strOf z) := by rw [hflat]; simp [hz.1]
              obtain ⟨cv, c1, c2⟩ := hrr.cs.get hfj
              have := c2.inv_val
              rw [hcell j cv c1, this, ← hz.2]
            have hcall := hC g b o c L p hcells hbl hLl hLc hLj
            rw [hmm, ← joinL_lib] at hcall
            exact goes_val (x := .string ⟨(joinL p.data.toList l).toArray⟩) hE hcall hW rfl (fun e w' h => h) hR
        · simp at h
      · simp at h
    · simp at h
  · simp at h
theorem below_bytes (w : World) (e : TypeId) (s : ByteArray) : Below w.heap.size w (Lib.bytesWorld w e s) := by
  have h1 : ((w.drew.alloc (.cells (Lib.bytesCells w e s) e)).heap).size = w.heap.size + 1 := by simp
  unfold Lib.bytesWorld World.freeze
  simp only [Nat.one_ne_zero, if_false]
  refine ⟨rfl, rfl, rfl, ?_, fun b hb => ?_⟩
  · simp only [Array.size_modify]; omega
  · simp only [Array.getElem?_modify]
    rw [if_neg (by omega)]
    exact Below.heap_alloc w.drew _ b hb
theorem atoi_ok {f : FuncId} {t : TypeId} {ti : TypeId} (hE : Go.Proofs.Enters P f)
    (hC : ∀ (g : G) (s : ByteArray), s.size ≤ 9223372036854775806 → ∀ v : Int, Lib.atoiAll s.data.toList = .ok v → Calls P f #[.string s] g.w fun e w' => e = .returned (.tuple #[.int .i64 v, .nilIface]) ∧ (w' = g.w ∨ ∃ t', w' = Lib.bytesWorld g.w t t'))
    (hS : ∀ g, Inv g → ∀ (s : ByteArray), s.size ≤ 281474976710656 → (∀ v, Lib.atoiAll s.data.toList ≠ .ok v) → Lib.atoiAll s.data.toList ≠ .range → Calls P f #[.string s] g.w fun e w' => (∃ N, e = .returned (.tuple #[.int .i64 (0), .iface ti (.pointer (some ⟨N, 0, none⟩))])) ∧ Below g.w.heap.size g.w w')
    (hR : ∀ g, Inv g → ∀ (s : ByteArray), s.size ≤ 281474976710656 → Lib.atoiAll s.data.toList = .range → Calls P f #[.string s] g.w fun e w' => (∃ N, e = .returned (.tuple #[.int .i64 (Lib.atoiSat s.data.toList), .iface ti (.pointer (some ⟨N, 0, none⟩))])) ∧ Below g.w.heap.size g.w w') : PSound P Inv f pAtoi := by
  intro args H r h g vs R hW hI hH ha hQ
  unfold pAtoi at h
  split at h
  · rename_i s
    split at h
    · rename_i hs
      split at h
      · rename_i v hv
        simp at h; subst h
        obtain ⟨u, rfl, h1⟩ := cs_one ha
        obtain rfl := h1.inv_val
        refine goes_calls hE (hC g s (by omega) v hv) ?_
        rintro e w' ⟨rfl, hw⟩
        have hb : Below g.w.heap.size g.w w' := by
          rcases hw with rfl | ⟨t', rfl⟩
          · exact Below.refl _ _
          · exact below_bytes _ _ _
        obtain ⟨g', e1, e2, e3, e4, e5⟩ := grown_g hW hb
        exact ⟨_, rfl, e1 ▸ hQ g' _ (by rw [e2, hH]) e3 e4 (VR.of_tup (Cs.cons (.val _) (Cs.cons (.val _) (Cs.nil _))))⟩
      · rename_i hv
        simp at h; subst h
        obtain ⟨u, rfl, h1⟩ := cs_one ha
        obtain rfl := h1.inv_val
        refine goes_calls hE (hR g hI s hs hv) ?_
        rintro e w' ⟨⟨N, rfl⟩, hb⟩
        obtain ⟨g', e1, e2, e3, e4, e5⟩ := grown_g hW hb
        exact ⟨_, rfl, e1 ▸ hQ g' _ (by rw [e2, hH]) e3 e4 (VR.of_tup (Cs.cons (.val _) (Cs.cons (.ifc _ _) (Cs.nil _))))⟩
      · rename_i hv1 hv2
        simp at h; subst h
        obtain ⟨u, rfl, h1⟩ := cs_one ha
        obtain rfl := h1.inv_val
        refine goes_calls hE (hS g hI s hs hv1 hv2) ?_
        rintro e w' ⟨⟨N, rfl⟩, hb⟩
        obtain ⟨g', e1, e2, e3, e4, e5⟩ := grown_g hW hb
        exact ⟨_, rfl, e1 ▸ hQ g' _ (by rw [e2, hH]) e3 e4 (VR.of_tup (Cs.cons (.val _) (Cs.cons (.ifc _ _) (Cs.nil _))))⟩
    · simp at h
  · simp at h
theorem trunc_ok {f : FuncId} (hC : ∀ (x : Nat) (w : World) (args : Array Value), (callFunc f args).run P w = (do return Next.value (← Extern.MathFloor.toIntegral "math.archTrunc" .zero args) : Sem Next).run P w) : PSound P Inv f pTrunc := by
  intro args H r h g vs R hW hI hH ha hR
  unfold pTrunc at h
  split at h
  · rename_i b
    split at h
    · simp at h
    · rename_i d hd
      simp at h; subst h
      obtain ⟨u, rfl, h1⟩ := cs_one ha
      obtain rfl := h1.inv_val
      have hrun : (callFunc f [Value.float .f64 b].toArray).run P g.w = .ok (.value (.float .f64 (FloatKind.f64.encode ((FloatKind.f64.decode b).integral .zero)))) g.w := by
        rw [hC b]
        simp only [Sem.run_bind]
        have key : ∀ e, FloatKind.f64.decode b = e → (∀ s t, e ≠ .nan s t) → Extern.MathFloor.toIntegral "math.archTrunc" .zero [Value.float .f64 b].toArray = pure (.float .f64 (FloatKind.f64.encode (e.integral .zero))) := by
          intro e he hn
          unfold Extern.MathFloor.toIntegral
          show (match FloatKind.f64.decode b with
            | .nan s t => _
            | d => (pure (Value.float .f64 (FloatKind.f64.encode (d.integral .zero))) : Sem Value)) = _
          rw [he]
          cases e with
          | nan s t => exact (hn s t rfl).elim
          | number _ _ _ => rfl
          | infinity _ => rfl
        rw [key _ rfl (fun s t hx => hd s t hx)]
        rfl
      unfold Goes
      rw [hrun]
      exact hR g _ hH hW (Ext.refl g) (.val _)
  · simp at h
end Go.Evl.Zone

namespace Go.Evl.Zone
open Go Go.Evl Go.Evl.Fl
attribute [local simp] VB_ite VG_ite
variable {P : Program}
theorem ownE {f g : FuncId} {xs : List O} {dst : Option Nat} {rest : List CI} {i slot slot' : Nat} {log : Log} {d : Dr} {K : Ex → St → Prop} {st : St} {ks : List Fr'} (hp : (prim f g).isNone = true) (hh : (inlF g || keepF f g) = false) :
    VA (env P) f (.call (.c (.fn g [])) xs) dst rest i slot slot' st log d ks K ↔ VP (env P) f (ownA (env P) g st.h (expAs st.h (xs.map (evO st.σ)))) dst rest i slot' st log d ks K := VA_own hp (by simp only [Bool.or_eq_false_iff] at hh; simp [env, howF, hh.1, hh.2])
@[simp] theorem env_P : (env P).P = P := rfl
attribute [simp] VA_pop ret1 nAlloc allocs start expV expA expC expCs expAs flatV flatA flatC ownE prim frozF inlF keepF Value.oneCell' cellP cellsOf loadC_ptr loadC_ip loadC_rp loadP_ob storeC_ptr storeC_rp fillP setL slice0 ordered look apart hits
end Go.Evl.Zone

namespace Go.Evl.Zone
open Go Go.Evl Go.RowKit
theorem compare_ok {P : Program} {Inv : G → Prop} {f : FuncId} (hE : Go.Proofs.Enters P f) (hC : ∀ (a b : ByteArray) (w : World), Calls P f #[.string a, .string b] w fun e w' => e = .returned (.int .i64 (Lib.compareBytes a.data.toList b.data.toList)) ∧ w' = w) : PSound P Inv f pCompare := by
  intro args H r h g vs R hW hI hH ha hR
  unfold pCompare at h
  split at h
  · rename_i a b
    simp at h; subst h
    obtain ⟨v, u, rfl, h1, h2⟩ := cs_two ha
    obtain rfl := h1.inv_val
    obtain rfl := h2.inv_val
    refine goes_val hE (hC a b g.w) hW hH ?_ hR
    rintro e w' ⟨rfl, rfl⟩
    exact ⟨rfl, Below.refl _ _⟩
  · simp at h
def cloneC (t : TypeId) (k : Nat) : CF := ⟨
 (.seq
 (.reg false [
   ⟨(some 2), (.mv (.c (.im [] true))), none⟩] [])
 (.seq
 (.seq
 (.reg false [
   ⟨(some 3), (.mv (.t 0)), none⟩,
   ⟨(some 4), (.bin .eql t false true (.t 3) (.c (.im [] true))), none⟩] [])
 (.cond (.t 4)
  (.seq
  (.reg false [
    ⟨(some 2), (.mv (.c (.im [] true))), none⟩] [])
  .ret)
  .skip))
 (.seq
 (.reg false [
   ⟨(some 5), (.bsl k 0 [] []), none⟩,
   ⟨(some 6), (.mv (.t 0)), none⟩,
   ⟨(some 7), (.app k (.t 5) (.t 6)), none⟩,
   ⟨(some 2), (.mv (.t 7)), none⟩] [])
 .ret))),
 [.tmp 2]⟩
def E0 (P : Program) (h : How) (f : FuncId) (c : CF) : Env := ⟨P, fun _ _ => h, fun n => if n = f then some c else none, fun _ _ => none⟩
theorem E0_P {P : Program} {h : How} {f : FuncId} {c : CF} : (E0 P h f c).P = P := rfl
section
variable {P : Program} {h : How} {f : FuncId} {t : TypeId} {k : Nat}
theorem bn_val {el : TypeId} (ht : P.underlying t = some (.slice el)) {ad : Option Addr} {n c : Nat} : evBin P .eql t false true (.val (.slice ad n c)) (.im [] true) = some (.val (.bool ad.isNone)) := by
  simp [evBin, toV, snil, ht]
theorem bn_im {el : TypeId} (ht : P.underlying t = some (.slice el)) {y : List PV} {ys : List (List PV)} {fl : Bool} : evBin P .eql t false true (.im (y :: ys) fl) (.im [] true) = some (.val (.bool false)) := by
  simp [evBin, toV, snil, ht]
theorem bn_sl {el : TypeId} (ht : P.underlying t = some (.slice el)) {r k g o n : Nat} : evBin P .eql t false true (.sl r k g o (n + 1)) (.im [] true) = some (.val (.bool false)) := by
  simp [evBin, toV, snil, ht]
theorem clone_full {x : PV} {ys : List (List PV)} {is : List Nat} {H : Heap} (hb : evBin P .eql t false true x (.im [] true) = some (.val (.bool false))) (he : elems (H.grow 1) k x = some (ys, is)) (h0 : ys ≠ []) (hm : ys.length ≤ most) :
    V (E0 P h f (cloneC t k)) f (cloneC t k).body ⟨start [x], H, []⟩ [] fun _ st => st.h = (H.grow 1).put H.n (.row k ys true) ∧ resV st (cloneC t k).res = some (.sl H.n k ys.length 0 ys.length) := by
  have hf : ∀ H, freeze H [] = H := fun _ => rfl
  simp [cloneC, E0_P, hb, hf, he, appendP, h0, hm, chunks, allLen, nAlloc, allocs, start]
theorem clone_nil {el : TypeId} (ht : P.underlying t = some (.slice el)) {c : Nat} {H : Heap} :
    V (E0 P h f (cloneC t k)) f (cloneC t k).body ⟨start [.val (.slice none 0 c)], H, []⟩ [] fun _ st => st.h = H.grow 0 ∧ resV st (cloneC t k).res = some (.im [] true) := by
  simp [cloneC, E0_P, bn_val ht, start]
theorem clone_none {el : TypeId} (ht : P.underlying t = some (.slice el)) {ad : Addr} {c : Nat} {H : Heap} :
    V (E0 P h f (cloneC t k)) f (cloneC t k).body ⟨start [.val (.slice (some ad) 0 c)], H, []⟩ [] fun _ st => st.h = H.grow 1 ∧ resV st (cloneC t k).res = some (.im [] true) := by
  have hf : ∀ H, freeze H [] = H := fun _ => rfl
  simp [cloneC, E0_P, bn_val ht, hf, elems, appendP, chunks, allLen, nAlloc, allocs, start]
theorem elems_at {H H' : Heap} (h : H'.at_ = H.at_) {k : Nat} {x : PV} : elems H' k x = elems H k x := by
  unfold elems
  rw [h]
theorem clone_ok {Inv : G → Prop} {el : TypeId} (hI : InvOK Inv) (ht : P.underlying t = some (.slice el)) (hc : (E0 P .keep f (cloneC t k)).code f = some (cloneC t k)) : PSound P Inv f (pClone k) := by
  intro args H r h g vs R hW hinv hH ha hR
  have hT : TabOK (E0 P .keep f (cloneC t k)) := by
    intro f' cf q
    simp only [E0] at q
    split at q
    · rename_i e
      subst e
      simp only [Option.some.injEq] at q
      subst q
      exact hc
    · cases q
  have hF : PrimFr (E0 P .keep f (cloneC t k)) := ⟨fun c f p q => by (cases q), fun c f p q => by (cases q)⟩
  have hD : PrimDd (E0 P .keep f (cloneC t k)) := ⟨fun c f p q => by (cases q)⟩
  have hP : PrimOK (E0 P .keep f (cloneC t k)) Inv := ⟨fun c f p q => by (cases q)⟩
  subst hH
  unfold pClone at h
  split at h
  · rename_i x
    split at h
    · cases h
    · rename_i hstr
      split at h
      · rename_i ys is he
        split at h
        · rename_i h0
          have hys : ys = [] := List.length_eq_zero_iff.1 h0
          subst hys
          simp only [Option.some.injEq] at h; subst h
          obtain ⟨v, rfl, hv⟩ := cs_one ha
          have hval : ∃ ad c, v = .slice ad 0 c := by
            unfold elems at he
            split at he
            · rename_i xs fl
              split at he
              · simp at he
                obtain ⟨rfl, rfl⟩ := he
                obtain ⟨ad, cap, rfl, _⟩ := hv.inv_im
                exact ⟨_, _, rfl⟩
              · cases he
            · rename_i r0 k0 g0 off len
              split at he
              · split at he
                · rename_i hcnd
                  obtain ⟨_, _, _, hle⟩ := hcnd
                  simp only [Option.some.injEq, Prod.mk.injEq] at he
                  have hl := congrArg List.length he.1
                  simp at hl
                  cases hv with
                  | sl ad _ _ _ _ _ cap hlc hg hh =>
                    have : len = 0 := by omega
                    subst this
                    exact ⟨_, _, rfl⟩
                · cases he
              · cases he
            · rename_i s
              simp [isStr] at hstr
            · have := hv.inv_val
              exact ⟨_, _, this⟩
            · cases he
          obtain ⟨ad, c, rfl⟩ := hval
          have ha' : Cs g [.slice ad 0 c] [.val (.slice ad 0 c)] := Cs.cons (.val _) (Cs.nil _)
          cases ad with
          | none =>
            obtain ⟨n, e, st, hev, h1, h2⟩ := clone_nil (P := P) (h := .keep) (f := f) (t := t) (k := k) ht (c := c) (H := g.H)
            refine evl_goes (E := E0 P .keep f (cloneC t k)) hI hT hF hD hP hc hW hinv ha' hev h2 fun g' v he hw hh hv => ?_
            exact hR (g'.room 1) v (by show g'.H.grow 1 = _; rw [hh, h1]; exact Heap.ext' rfl fun i => by simp) (wr_room hw 1) (he.trans (ext_room hw 1)) (hv.mono hw (ext_room hw 1))
          | some ad =>
            obtain ⟨n, e, st, hev, h1, h2⟩ := clone_none (P := P) (h := .keep) (f := f) (t := t) (k := k) ht (ad := ad) (c := c) (H := g.H)
            exact evl_goes (E := E0 P .keep f (cloneC t k)) hI hT hF hD hP hc hW hinv ha' hev h2 fun g' v he hw hh hv => hR g' v (by rw [hh, h1]) hw he hv
        · rename_i h0
          split at h
          · rename_i hm
            simp only [Option.some.injEq] at h; subst h
            have h0' : ys ≠ [] := fun q => h0 (by rw [q]; rfl)
            have he' : elems (g.H.grow 1) k x = some (ys, is) := by rw [elems_at (room_at hW 1)]; exact he
            have hb : evBin P .eql t false true x (.im [] true) = some (.val (.bool false)) := by
              unfold elems at he
              split at he
              · rename_i xs fl
                split at he
                · simp at he
                  obtain ⟨rfl, rfl⟩ := he
                  cases xs with
                  | nil => exact (h0' rfl).elim
                  | cons y ys => exact bn_im ht
                · cases he
              · rename_i r k' g0 off len
                split at he
                · split at he
                  · simp only [Option.some.injEq, Prod.mk.injEq] at he
                    cases len with
                    | zero => simp at he; exact (h0' he.1).elim
                    | succ n => exact bn_sl ht
                  · cases he
                · cases he
              · simp [isStr] at hstr
              · simp at he
                exact (h0' he.1).elim
              · cases he
            obtain ⟨n, e, st, hev, h1, h2⟩ := clone_full (P := P) (h := .keep) (f := f) (t := t) (k := k) (H := g.H) hb he' h0' hm
            exact evl_goes (E := E0 P .keep f (cloneC t k)) hI hT hF hD hP hc hW hinv ha hev h2 fun g' v he hw hh hv => hR g' v (by rw [hh, h1]) hw he hv
          · cases h
      · cases h
  · cases h
end
end Go.Evl.Zone

namespace Go.Evl.Zone
open Go Go.Evl Go.RowKit
theorem im_nil {g : G} {v : Value} (h : VR g v (.im [] true)) : ∃ a, v = .slice a 0 0 := by
  obtain ⟨ad, cap, rfl, h1, h2, h3⟩ := h.inv_im
  have := h1 rfl
  simp at this
  subst this
  exact ⟨ad, rfl⟩
theorem grow_ok {P : Program} {Inv : G → Prop} {f : FuncId} {k : Nat} (hk : 0 < k) (hE : Go.Proofs.Enters P f)
    (hR : ∀ (a : Option Addr) (w : World), Calls P f #[.slice a 0 0, .int .i64 0] w fun e w' => e = .returned (.slice a 0 0) ∧ w' = w)
    (hG : ∀ (a : Option Addr) (n : Nat) (w : World), 0 < n → n ≤ most → Calls P f #[.slice a 0 0, .int .i64 (n : Int)] w fun e w' => ∃ (cap : Nat) (c : Array Value) (t : TypeId), e = .returned (.slice (some ⟨w.heap.size, 0, none⟩) 0 cap) ∧ w' = w.drew.alloc (.cells c t (0, 0)) ∧ c.size = cap * k) : PSound P Inv f (pGrow k) := by
  intro args H r h g vs R hW hI hH ha hRR
  subst hH
  unfold pGrow at h
  split at h
  · rename_i n
    obtain ⟨v, u, rfl, h1, h2⟩ := cs_two ha
    obtain ⟨a, rfl⟩ := im_nil h1
    obtain rfl := h2.inv_val
    split at h
    · rename_i h0
      subst h0
      simp only [Option.some.injEq] at h; subst h
      refine goes_calls hE (hR a g.w) ?_
      rintro e w' ⟨rfl, rfl⟩
      exact ⟨_, rfl, hRR (g.room 1) _ rfl (wr_room hW 1) (ext_room hW 1) (.imE a 0 true fun _ => rfl)⟩
    · split at h
      · rename_i hn
        obtain ⟨m, rfl⟩ : ∃ m : Nat, n = (m : Int) := ⟨n.toNat, by omega⟩
        simp only [Option.some.injEq] at h; subst h
        refine goes_calls hE (hG a m g.w (by omega) (by omega)) ?_
        rintro e w' ⟨cap, c, t, rfl, rfl, hc⟩
        have hW1 : WR (g.room 1).drew := wr_drew (wr_room hW 1)
        have hE1 : Ext g (g.room 1).drew := (ext_room hW 1).trans (ext_drew _)
        have hd : (g.room 1).drew.H.at_ g.H.n = .dead := by
          show (g.H.grow 1).at_ g.H.n = .dead
          rw [room_at hW 1]
          exact hW.dead _ (Nat.le_refl _)
        have hs : g.H.n < (g.room 1).drew.H.n := Nat.lt_succ_self _
        have hf : Fits (g.room 1).drew c (.row k [] true) := ⟨rfl, hk, by simp, by simp, by simp⟩
        have hE2 := ext_alloc (g := (g.room 1).drew) hd c t (.row k [] true)
        refine ⟨_, rfl, hRR ((g.room 1).drew.allocd g.H.n c t (.row k [] true)) _ rfl (wr_alloc hW1 hd hs hf) (hE1.trans hE2) ?_⟩
        refine .sl _ _ _ _ _ _ cap (Nat.zero_le _) ⟨0, by show rowLen (((g.H.grow 1).put g.H.n (.row k [] true)).at_ g.H.n) = _; simp [rowLen], Nat.le_refl _⟩ ?_
        rintro b ⟨hb, _, _⟩
        have hb' : some g.w.drew.heap.size = some b := by
          have : (if g.H.n = g.H.n then some g.w.drew.heap.size else g.ι g.H.n) = some b := hb
          rwa [if_pos rfl] at this
        obtain rfl := (Option.some.inj hb').symm
        refine ⟨by simp, c, t, (0, 0), ?_, by simpa using hc⟩
        exact heap_alloc_new _ _
      · cases h
  · cases h
theorem inv_im_val {g : G} {v : Value} {xs : List (List PV)} {fl : Bool} (h : VR g v (.im xs fl)) : ∃ ad cap, v = .slice ad xs.length cap := by
  obtain ⟨ad, cap, rfl, _⟩ := h.inv_im
  exact ⟨ad, cap, rfl⟩
section
variable {P : Program} {f : FuncId} {t : TypeId} {k : Nat}
theorem cloneF_pok {Inv : G → Prop} {el : TypeId} (hI : InvOK Inv) (ht : P.underlying t = some (.slice el)) (hc : (E0 P .own f (cloneC t k)).code f = some (cloneC t k)) : PSound P Inv f (pCloneF k) := by
  intro args H r h g vs R hW hinv hH ha hR
  have hT : TabOK (E0 P .own f (cloneC t k)) := by
    intro f' cf q
    simp only [E0] at q
    split at q
    · rename_i e
      subst e
      simp only [Option.some.injEq] at q
      subst q
      exact hc
    · cases q
  have hF : PrimFr (E0 P .own f (cloneC t k)) := ⟨fun c f p q => by (cases q), fun c f p q => by (cases q)⟩
  have hD : PrimDd (E0 P .own f (cloneC t k)) := ⟨fun c f p q => by (cases q)⟩
  have hP : PrimOK (E0 P .own f (cloneC t k)) Inv := ⟨fun c f p q => by (cases q)⟩
  subst hH
  unfold pCloneF at h
  split at h
  · rename_i xs fl
    split at h
    · rename_i hx
      obtain ⟨hlen, hm⟩ := hx
      split at h
      · rename_i ys hys
        simp only [Option.some.injEq] at h; subst h
        obtain ⟨v, rfl, hv⟩ := cs_one ha
        have hev := fun N => (ev_sound hI hT hF hD hP N).1
        have hcs : ∀ g' v, g'.H = g.H → WR g' → Ext g g' → VR g' v (.im ys false) → R v g'.w := fun g' v a b c d => hR g' v a b c d
        by_cases h0 : xs = []
        · subst h0
          simp [plainss] at hys
          subst hys
          obtain ⟨ad, c, rfl⟩ := inv_im_val hv
          have ha' : Cs g [.slice ad 0 c] [.val (.slice ad 0 c)] := Cs.cons (.val _) (Cs.nil _)
          have hx : expAs g.H [.val (.slice ad 0 c)] = some ([.val (.slice ad 0 c)], []) := rfl
          cases ad with
          | none =>
            obtain ⟨n, e, st, h, h1, h2⟩ := clone_nil (P := P) (h := .own) (f := f) (t := t) (k := k) ht (c := c) (H := Heap.empty)
            exact call_own (E := E0 P .own f (cloneC t k)) hI (hev n) hc hW hinv ha' hx h h2 (is' := []) (q := .im [] false) rfl (fun _ => hcs) (fun q => (q rfl).elim)
          | some ad =>
            obtain ⟨n, e, st, h, h1, h2⟩ := clone_none (P := P) (h := .own) (f := f) (t := t) (k := k) ht (ad := ad) (c := c) (H := Heap.empty)
            exact call_own (E := E0 P .own f (cloneC t k)) hI (hev n) hc hW hinv ha' hx h h2 (is' := []) (q := .im [] false) rfl (fun _ => hcs) (fun q => (q rfl).elim)
        · have hx : expAs g.H [.im xs fl] = some ([.im xs false], []) := rfl
          have hb : evBin P .eql t false true (.im xs false) (.im [] true) = some (.val (.bool false)) := by
            cases xs with
            | nil => exact (h0 rfl).elim
            | cons y ys => exact bn_im ht
          have he : elems (Heap.empty.grow 1) k (.im xs false) = some (xs, []) := by unfold elems; simp only [hlen, if_true]
          obtain ⟨n, e, st, h, h1, h2⟩ := clone_full (P := P) (h := .own) (f := f) (t := t) (k := k) (H := Heap.empty) hb he h0 hm
          have hq : expV st.h (.sl Heap.empty.n k xs.length 0 xs.length) = some (.im ys false, [Heap.empty.n]) := by
            rw [h1]
            simp [expV, expA, expC, hys]
          exact call_own (E := E0 P .own f (cloneC t k)) hI (hev n) hc hW hinv ha hx h h2 hq (fun _ => hcs) (fun _ => hcs)
      · cases h
    · cases h
  · cases h
end
end Go.Evl.Zone

namespace Go.Evl.Zone
open Go Go.Evl
set_option maxRecDepth 100000
theorem ok6 : (env Proofs.Tryz.prog).code 6 = some c6 := by kernel_rfl
theorem ok7 : (env Proofs.Tryz.prog).code 7 = some c7 := by kernel_rfl
theorem ok11 : (env Proofs.Tryz.prog).code 11 = some c11 := by kernel_rfl
theorem ok12 : (env Proofs.Tryz.prog).code 12 = some c12 := by kernel_rfl
theorem ok13 : (env Proofs.Tryz.prog).code 13 = some c13 := by kernel_rfl
theorem ok15 : (env Proofs.Tryz.prog).code 15 = some c15 := by kernel_rfl
theorem ok33 : (env Proofs.Tryz.prog).code 33 = some c33 := by kernel_rfl
theorem ok37 : (env Proofs.Tryz.prog).code 37 = some c37 := by kernel_rfl
theorem ok40 : (env Proofs.Tryz.prog).code 40 = some c40 := by kernel_rfl
theorem ok60 : (env Proofs.Tryz.prog).code 60 = some c60 := by kernel_rfl
theorem ok68 : (env Proofs.Tryz.prog).code 68 = some c68 := by kernel_rfl
theorem ok69 : (env Proofs.Tryz.prog).code 69 = some c69 := by kernel_rfl
theorem ok74 : (env Proofs.Tryz.prog).code 74 = some c74 := by kernel_rfl
theorem ok76 : (env Proofs.Tryz.prog).code 76 = some c76 := by kernel_rfl
theorem ok80 : (env Proofs.Tryz.prog).code 80 = some c80 := by kernel_rfl
theorem ok108 : (env Proofs.Tryz.prog).code 108 = some c108 := by kernel_rfl
theorem ok114 : (env Proofs.Tryz.prog).code 114 = some c114 := by kernel_rfl
theorem ok117 : (env Proofs.Tryz.prog).code 117 = some c117 := by kernel_rfl
theorem ok125 : (env Proofs.Tryz.prog).code 125 = some c125 := by kernel_rfl
theorem ok141 : (env Proofs.Tryz.prog).code 141 = some c141 := by kernel_rfl
theorem ok143 : (env Proofs.Tryz.prog).code 143 = some c143 := by kernel_rfl
theorem ok151 : (env Proofs.Tryz.prog).code 151 = some c151 := by kernel_rfl
theorem ok170 : (env Proofs.Tryz.prog).code 170 = some c170 := by kernel_rfl
theorem ok173 : (env Proofs.Tryz.prog).code 173 = some c173 := by kernel_rfl
theorem ok204 : (env Proofs.Tryz.prog).code 204 = some c204 := by kernel_rfl
theorem ok214 : (env Proofs.Tryz.prog).code 214 = some c214 := by kernel_rfl
theorem ok219 : (env Proofs.Tryz.prog).code 219 = some c219 := by kernel_rfl
theorem ok221 : (env Proofs.Tryz.prog).code 221 = some c221 := by kernel_rfl
theorem ok272 : (env Proofs.Tryz.prog).code 272 = some c272 := by kernel_rfl
end Go.Evl.Zone

namespace Go.Evl.Zone
open Go Go.Evl
set_option maxRecDepth 100000
theorem ok3 : (env Proofs.Tryz.prog).code 3 = some c3 := by kernel_rfl
theorem ok5 : (env Proofs.Tryz.prog).code 5 = some c5 := by kernel_rfl
theorem ok14 : (env Proofs.Tryz.prog).code 14 = some c14 := by kernel_rfl
theorem ok34 : (env Proofs.Tryz.prog).code 34 = some c34 := by kernel_rfl
theorem ok36 : (env Proofs.Tryz.prog).code 36 = some c36 := by kernel_rfl
theorem ok39 : (env Proofs.Tryz.prog).code 39 = some c39 := by kernel_rfl
theorem ok51 : (env Proofs.Tryz.prog).code 51 = some c51 := by kernel_rfl
theorem ok59 : (env Proofs.Tryz.prog).code 59 = some c59 := by kernel_rfl
theorem ok61 : (env Proofs.Tryz.prog).code 61 = some c61 := by kernel_rfl
theorem ok63 : (env Proofs.Tryz.prog).code 63 = some c63 := by kernel_rfl
theorem ok70 : (env Proofs.Tryz.prog).code 70 = some c70 := by kernel_rfl
theorem ok85 : (env Proofs.Tryz.prog).code 85 = some c85 := by kernel_rfl
theorem ok86 : (env Proofs.Tryz.prog).code 86 = some c86 := by kernel_rfl
theorem ok88 : (env Proofs.Tryz.prog).code 88 = some c88 := by kernel_rfl
theorem ok96 : (env Proofs.Tryz.prog).code 96 = some c96 := by kernel_rfl
theorem ok101 : (env Proofs.Tryz.prog).code 101 = some c101 := by kernel_rfl
theorem ok107 : (env Proofs.Tryz.prog).code 107 = some c107 := by kernel_rfl
theorem ok109 : (env Proofs.Tryz.prog).code 109 = some c109 := by kernel_rfl
theorem ok136 : (env Proofs.Tryz.prog).code 136 = some c136 := by kernel_rfl
theorem ok140 : (env Proofs.Tryz.prog).code 140 = some c140 := by kernel_rfl
theorem ok172 : (env Proofs.Tryz.prog).code 172 = some c172 := by kernel_rfl
theorem ok179 : (env Proofs.Tryz.prog).code 179 = some c179 := by kernel_rfl
theorem ok207 : (env Proofs.Tryz.prog).code 207 = some c207 := by kernel_rfl
theorem ok208 : (env Proofs.Tryz.prog).code 208 = some c208 := by kernel_rfl
theorem ok229 : (env Proofs.Tryz.prog).code 229 = some c229 := by kernel_rfl
theorem ok232 : (env Proofs.Tryz.prog).code 232 = some c232 := by kernel_rfl
theorem ok239 : (env Proofs.Tryz.prog).code 239 = some c239 := by kernel_rfl
theorem ok265 : (env Proofs.Tryz.prog).code 265 = some c265 := by kernel_rfl
theorem ok269 : (env Proofs.Tryz.prog).code 269 = some c269 := by kernel_rfl
theorem ok270 : (env Proofs.Tryz.prog).code 270 = some c270 := by kernel_rfl
end Go.Evl.Zone

namespace Go.Evl.Zone
open Go Go.Evl
set_option maxRecDepth 100000
theorem ok4 : (env Proofs.Tryz.prog).code 4 = some c4 := by kernel_rfl
theorem ok16 : (env Proofs.Tryz.prog).code 16 = some c16 := by kernel_rfl
theorem ok21 : (env Proofs.Tryz.prog).code 21 = some c21 := by kernel_rfl
theorem ok27 : (env Proofs.Tryz.prog).code 27 = some c27 := by kernel_rfl
theorem ok31 : (env Proofs.Tryz.prog).code 31 = some c31 := by kernel_rfl
theorem ok44 : (env Proofs.Tryz.prog).code 44 = some c44 := by kernel_rfl
theorem ok45 : (env Proofs.Tryz.prog).code 45 = some c45 := by kernel_rfl
theorem ok56 : (env Proofs.Tryz.prog).code 56 = some c56 := by kernel_rfl
theorem ok62 : (env Proofs.Tryz.prog).code 62 = some c62 := by kernel_rfl
theorem ok71 : (env Proofs.Tryz.prog).code 71 = some c71 := by kernel_rfl
theorem ok72 : (env Proofs.Tryz.prog).code 72 = some c72 := by kernel_rfl
theorem ok77 : (env Proofs.Tryz.prog).code 77 = some c77 := by kernel_rfl
theorem ok84 : (env Proofs.Tryz.prog).code 84 = some c84 := by kernel_rfl
theorem ok91 : (env Proofs.Tryz.prog).code 91 = some c91 := by kernel_rfl
theorem ok118 : (env Proofs.Tryz.prog).code 118 = some c118 := by kernel_rfl
theorem ok124 : (env Proofs.Tryz.prog).code 124 = some c124 := by kernel_rfl
theorem ok132 : (env Proofs.Tryz.prog).code 132 = some c132 := by kernel_rfl
theorem ok152 : (env Proofs.Tryz.prog).code 152 = some c152 := by kernel_rfl
theorem ok154 : (env Proofs.Tryz.prog).code 154 = some c154 := by kernel_rfl
theorem ok155 : (env Proofs.Tryz.prog).code 155 = some c155 := by kernel_rfl
theorem ok158 : (env Proofs.Tryz.prog).code 158 = some c158 := by kernel_rfl
theorem ok169 : (env Proofs.Tryz.prog).code 169 = some c169 := by kernel_rfl
theorem ok174 : (env Proofs.Tryz.prog).code 174 = some c174 := by kernel_rfl
theorem ok184 : (env Proofs.Tryz.prog).code 184 = some c184 := by kernel_rfl
theorem ok217 : (env Proofs.Tryz.prog).code 217 = some c217 := by kernel_rfl
theorem ok223 : (env Proofs.Tryz.prog).code 223 = some c223 := by kernel_rfl
theorem ok224 : (env Proofs.Tryz.prog).code 224 = some c224 := by kernel_rfl
theorem ok242 : (env Proofs.Tryz.prog).code 242 = some c242 := by kernel_rfl
theorem ok258 : (env Proofs.Tryz.prog).code 258 = some c258 := by kernel_rfl
theorem ok300 : (env Proofs.Tryz.prog).code 300 = some c300 := by kernel_rfl
end Go.Evl.Zone

namespace Go.Evl.Zone
open Go Go.Evl
set_option maxRecDepth 100000
theorem ok22 : (env Proofs.Tryz.prog).code 22 = some c22 := by kernel_rfl
theorem ok26 : (env Proofs.Tryz.prog).code 26 = some c26 := by kernel_rfl
theorem ok28 : (env Proofs.Tryz.prog).code 28 = some c28 := by kernel_rfl
theorem ok32 : (env Proofs.Tryz.prog).code 32 = some c32 := by kernel_rfl
theorem ok35 : (env Proofs.Tryz.prog).code 35 = some c35 := by kernel_rfl
theorem ok38 : (env Proofs.Tryz.prog).code 38 = some c38 := by kernel_rfl
theorem ok57 : (env Proofs.Tryz.prog).code 57 = some c57 := by kernel_rfl
theorem ok64 : (env Proofs.Tryz.prog).code 64 = some c64 := by kernel_rfl
theorem ok78 : (env Proofs.Tryz.prog).code 78 = some c78 := by kernel_rfl
theorem ok97 : (env Proofs.Tryz.prog).code 97 = some c97 := by kernel_rfl
theorem ok102 : (env Proofs.Tryz.prog).code 102 = some c102 := by kernel_rfl
theorem ok103 : (env Proofs.Tryz.prog).code 103 = some c103 := by kernel_rfl
theorem ok115 : (env Proofs.Tryz.prog).code 115 = some c115 := by kernel_rfl
theorem ok116 : (env Proofs.Tryz.prog).code 116 = some c116 := by kernel_rfl
theorem ok161 : (env Proofs.Tryz.prog).code 161 = some c161 := by kernel_rfl
theorem ok164 : (env Proofs.Tryz.prog).code 164 = some c164 := by kernel_rfl
theorem ok166 : (env Proofs.Tryz.prog).code 166 = some c166 := by kernel_rfl
theorem ok187 : (env Proofs.Tryz.prog).code 187 = some c187 := by kernel_rfl
theorem ok193 : (env Proofs.Tryz.prog).code 193 = some c193 := by kernel_rfl
theorem ok211 : (env Proofs.Tryz.prog).code 211 = some c211 := by kernel_rfl
theorem ok215 : (env Proofs.Tryz.prog).code 215 = some c215 := by kernel_rfl
theorem ok216 : (env Proofs.Tryz.prog).code 216 = some c216 := by kernel_rfl
theorem ok220 : (env Proofs.Tryz.prog).code 220 = some c220 := by kernel_rfl
theorem ok234 : (env Proofs.Tryz.prog).code 234 = some c234 := by kernel_rfl
theorem ok245 : (env Proofs.Tryz.prog).code 245 = some c245 := by kernel_rfl
theorem ok267 : (env Proofs.Tryz.prog).code 267 = some c267 := by kernel_rfl
theorem ok275 : (env Proofs.Tryz.prog).code 275 = some c275 := by kernel_rfl
theorem ok277 : (env Proofs.Tryz.prog).code 277 = some c277 := by kernel_rfl
theorem ok301 : (env Proofs.Tryz.prog).code 301 = some c301 := by kernel_rfl
theorem ok321 : (env Proofs.Tryz.prog).code 321 = some c321 := by kernel_rfl
end Go.Evl.Zone

namespace Go.Evl.Zone
open Go Go.Evl
set_option maxRecDepth 100000
theorem ok9 : (env Proofs.Tryz.prog).code 9 = some c9 := by kernel_rfl
theorem ok10 : (env Proofs.Tryz.prog).code 10 = some c10 := by kernel_rfl
theorem ok17 : (env Proofs.Tryz.prog).code 17 = some c17 := by kernel_rfl
theorem ok20 : (env Proofs.Tryz.prog).code 20 = some c20 := by kernel_rfl
theorem ok25 : (env Proofs.Tryz.prog).code 25 = some c25 := by kernel_rfl
theorem ok30 : (env Proofs.Tryz.prog).code 30 = some c30 := by kernel_rfl
theorem ok42 : (env Proofs.Tryz.prog).code 42 = some c42 := by kernel_rfl
theorem ok46 : (env Proofs.Tryz.prog).code 46 = some c46 := by kernel_rfl
theorem ok48 : (env Proofs.Tryz.prog).code 48 = some c48 := by kernel_rfl
theorem ok49 : (env Proofs.Tryz.prog).code 49 = some c49 := by kernel_rfl
theorem ok58 : (env Proofs.Tryz.prog).code 58 = some c58 := by kernel_rfl
theorem ok81 : (env Proofs.Tryz.prog).code 81 = some c81 := by kernel_rfl
theorem ok83 : (env Proofs.Tryz.prog).code 83 = some c83 := by kernel_rfl
theorem ok121 : (env Proofs.Tryz.prog).code 121 = some c121 := by kernel_rfl
theorem ok123 : (env Proofs.Tryz.prog).code 123 = some c123 := by kernel_rfl
theorem ok133 : (env Proofs.Tryz.prog).code 133 = some c133 := by kernel_rfl
theorem ok160 : (env Proofs.Tryz.prog).code 160 = some c160 := by kernel_rfl
theorem ok162 : (env Proofs.Tryz.prog).code 162 = some c162 := by kernel_rfl
theorem ok165 : (env Proofs.Tryz.prog).code 165 = some c165 := by kernel_rfl
theorem ok218 : (env Proofs.Tryz.prog).code 218 = some c218 := by kernel_rfl
theorem ok225 : (env Proofs.Tryz.prog).code 225 = some c225 := by kernel_rfl
theorem ok230 : (env Proofs.Tryz.prog).code 230 = some c230 := by kernel_rfl
theorem ok231 : (env Proofs.Tryz.prog).code 231 = some c231 := by kernel_rfl
theorem ok264 : (env Proofs.Tryz.prog).code 264 = some c264 := by kernel_rfl
theorem ok266 : (env Proofs.Tryz.prog).code 266 = some c266 := by kernel_rfl
theorem ok268 : (env Proofs.Tryz.prog).code 268 = some c268 := by kernel_rfl
theorem ok273 : (env Proofs.Tryz.prog).code 273 = some c273 := by kernel_rfl
theorem ok274 : (env Proofs.Tryz.prog).code 274 = some c274 := by kernel_rfl
theorem ok276 : (env Proofs.Tryz.prog).code 276 = some c276 := by kernel_rfl
theorem ok323 : (env Proofs.Tryz.prog).code 323 = some c323 := by kernel_rfl
end Go.Evl.Zone

namespace Go.Evl.Zone
open Go Go.Evl
set_option maxRecDepth 100000
theorem ok8 : (env Proofs.Tryz.prog).code 8 = some c8 := by kernel_rfl
theorem ok18 : (env Proofs.Tryz.prog).code 18 = some c18 := by kernel_rfl
theorem ok19 : (env Proofs.Tryz.prog).code 19 = some c19 := by kernel_rfl
theorem ok23 : (env Proofs.Tryz.prog).code 23 = some c23 := by kernel_rfl
theorem ok29 : (env Proofs.Tryz.prog).code 29 = some c29 := by kernel_rfl
theorem ok47 : (env Proofs.Tryz.prog).code 47 = some c47 := by kernel_rfl
theorem ok73 : (env Proofs.Tryz.prog).code 73 = some c73 := by kernel_rfl
theorem ok75 : (env Proofs.Tryz.prog).code 75 = some c75 := by kernel_rfl
theorem ok79 : (env Proofs.Tryz.prog).code 79 = some c79 := by kernel_rfl
theorem ok105 : (env Proofs.Tryz.prog).code 105 = some c105 := by kernel_rfl
theorem ok106 : (env Proofs.Tryz.prog).code 106 = some c106 := by kernel_rfl
theorem ok112 : (env Proofs.Tryz.prog).code 112 = some c112 := by kernel_rfl
theorem ok119 : (env Proofs.Tryz.prog).code 119 = some c119 := by kernel_rfl
theorem ok122 : (env Proofs.Tryz.prog).code 122 = some c122 := by kernel_rfl
theorem ok126 : (env Proofs.Tryz.prog).code 126 = some c126 := by kernel_rfl
theorem ok127 : (env Proofs.Tryz.prog).code 127 = some c127 := by kernel_rfl
theorem ok128 : (env Proofs.Tryz.prog).code 128 = some c128 := by kernel_rfl
theorem ok129 : (env Proofs.Tryz.prog).code 129 = some c129 := by kernel_rfl
theorem ok167 : (env Proofs.Tryz.prog).code 167 = some c167 := by kernel_rfl
theorem ok171 : (env Proofs.Tryz.prog).code 171 = some c171 := by kernel_rfl
theorem ok175 : (env Proofs.Tryz.prog).code 175 = some c175 := by kernel_rfl
theorem ok176 : (env Proofs.Tryz.prog).code 176 = some c176 := by kernel_rfl
theorem ok180 : (env Proofs.Tryz.prog).code 180 = some c180 := by kernel_rfl
theorem ok233 : (env Proofs.Tryz.prog).code 233 = some c233 := by kernel_rfl
theorem ok244 : (env Proofs.Tryz.prog).code 244 = some c244 := by kernel_rfl
theorem ok252 : (env Proofs.Tryz.prog).code 252 = some c252 := by kernel_rfl
theorem ok253 : (env Proofs.Tryz.prog).code 253 = some c253 := by kernel_rfl
theorem ok263 : (env Proofs.Tryz.prog).code 263 = some c263 := by kernel_rfl
theorem ok271 : (env Proofs.Tryz.prog).code 271 = some c271 := by kernel_rfl
theorem ok302 : (env Proofs.Tryz.prog).code 302 = some c302 := by kernel_rfl
end Go.Evl.Zone

namespace Go.Evl.Zone
open Go Go.Evl
set_option maxRecDepth 100000
theorem br {b : Bool} {x y : Option CF} {v : CF} {Q : Prop} (hx : x = some v → Q) (hy : y = some v → Q) : cond b x y = some v → Q := by
  cases b
  · exact hy
  · exact hx
theorem lf {E : Env} {f n : Nat} {c v : CF} (h : E.code n = some c) : cond (Nat.beq f n) (some c) none = some v → E.code f = some v := by
  intro q
  cases hb : Nat.beq f n
  · rw [hb] at q; cases q
  · rw [hb] at q
    obtain rfl := Nat.eq_of_beq_eq_true hb
    rw [h]; exact q
theorem tab_ok : TabOK (env Proofs.Tryz.prog) := by
  intro f cf h
  change tab f = some cf at h
  unfold tab at h
  exact (br (br (br (br (br (br (br (lf ok3)
 (lf ok4))
 (br (lf ok5)
 (br (lf ok6)
 (lf ok7))))
 (br (br (lf ok8)
 (br (lf ok9)
 (lf ok10)))
 (br (lf ok11)
 (br (lf ok12)
 (lf ok13)))))
 (br (br (br (lf ok14)
 (lf ok15))
 (br (lf ok16)
 (br (lf ok17)
 (lf ok18))))
 (br (br (lf ok19)
 (br (lf ok20)
 (lf ok21)))
 (br (lf ok22)
 (br (lf ok23)
 (lf ok25))))))
 (br (br (br (br (lf ok26)
 (lf ok27))
 (br (lf ok28)
 (br (lf ok29)
 (lf ok30))))
 (br (br (lf ok31)
 (br (lf ok32)
 (lf ok33)))
 (br (lf ok34)
 (br (lf ok35)
 (lf ok36)))))
 (br (br (br (lf ok37)
 (lf ok38))
 (br (lf ok39)
 (br (lf ok40)
 (lf ok42))))
 (br (br (lf ok44)
 (br (lf ok45)
 (lf ok46)))
 (br (lf ok47)
 (br (lf ok48)
 (lf ok49)))))))
 (br (br (br (br (br (lf ok51)
 (lf ok56))
 (br (lf ok57)
 (br (lf ok58)
 (lf ok59))))
 (br (br (lf ok60)
 (br (lf ok61)
 (lf ok62)))
 (br (lf ok63)
 (br (lf ok64)
 (lf ok68)))))
 (br (br (br (lf ok69)
 (lf ok70))
 (br (lf ok71)
 (br (lf ok72)
 (lf ok73))))
 (br (br (lf ok74)
 (br (lf ok75)
 (lf ok76)))
 (br (lf ok77)
 (br (lf ok78)
 (lf ok79))))))
 (br (br (br (br (lf ok80)
 (lf ok81))
 (br (lf ok83)
 (br (lf ok84)
 (lf ok85))))
 (br (br (lf ok86)
 (br (lf ok88)
 (lf ok91)))
 (br (lf ok96)
 (br (lf ok97)
 (lf ok101)))))
 (br (br (br (lf ok102)
 (br (lf ok103)
 (lf ok105)))
 (br (lf ok106)
 (br (lf ok107)
 (lf ok108))))
 (br (br (lf ok109)
 (br (lf ok112)
 (lf ok114)))
 (br (lf ok115)
 (br (lf ok116)
 (lf ok117))))))))
 (br (br (br (br (br (br (lf ok118)
 (lf ok119))
 (br (lf ok121)
 (br (lf ok122)
 (lf ok123))))
 (br (br (lf ok124)
 (br (lf ok125)
 (lf ok126)))
 (br (lf ok127)
 (br (lf ok128)
 (lf ok129)))))
 (br (br (br (lf ok132)
 (lf ok133))
 (br (lf ok136)
 (br (lf ok140)
 (lf ok141))))
 (br (br (lf ok143)
 (br (lf ok151)
 (lf ok152)))
 (br (lf ok154)
 (br (lf ok155)
 (lf ok158))))))
 (br (br (br (br (lf ok160)
 (lf ok161))
 (br (lf ok162)
 (br (lf ok164)
 (lf ok165))))
 (br (br (lf ok166)
 (br (lf ok167)
 (lf ok169)))
 (br (lf ok170)
 (br (lf ok171)
 (lf ok172)))))
 (br (br (br (lf ok173)
 (br (lf ok174)
 (lf ok175)))
 (br (lf ok176)
 (br (lf ok179)
 (lf ok180))))
 (br (br (lf ok184)
 (br (lf ok187)
 (lf ok193)))
 (br (lf ok204)
 (br (lf ok207)
 (lf ok208)))))))
 (br (br (br (br (br (lf ok211)
 (lf ok214))
 (br (lf ok215)
 (br (lf ok216)
 (lf ok217))))
 (br (br (lf ok218)
 (br (lf ok219)
 (lf ok220)))
 (br (lf ok221)
 (br (lf ok223)
 (lf ok224)))))
 (br (br (br (lf ok225)
 (lf ok229))
 (br (lf ok230)
 (br (lf ok231)
 (lf ok232))))
 (br (br (lf ok233)
 (br (lf ok234)
 (lf ok239)))
 (br (lf ok242)
 (br (lf ok244)
 (lf ok245))))))
 (br (br (br (br (lf ok252)
 (lf ok253))
 (br (lf ok258)
 (br (lf ok263)
 (lf ok264))))
 (br (br (lf ok265)
 (br (lf ok266)
 (lf ok267)))
 (br (lf ok268)
 (br (lf ok269)
 (lf ok270)))))
 (br (br (br (lf ok271)
 (br (lf ok272)
 (lf ok273)))
 (br (lf ok274)
 (br (lf ok275)
 (lf ok276))))
 (br (br (lf ok277)
 (br (lf ok300)
 (lf ok301)))
 (br (lf ok302)
 (br (lf ok321)
 (lf ok323))))))))) h
end Go.Evl.Zone

namespace Go.Evl.Zone
open Go Go.Evl Go.Proofs Go.RowKit Go.ChangeShapes Go.WideShapes Go.ChangeAt
set_option maxRecDepth 100000
noncomputable abbrev P0 : Program := Tryz.prog
def InvW (g : G) : Prop := True
theorem invW_ok : InvOK InvW where
  mono := fun g g' hW e h => trivial
  same := fun g g' hw hz h => trivial
def Still (p : List PV → Heap → Option ORes) : Prop := ∀ args, (∀ H, p args H = none) ∨ ∃ v, ∀ H, p args H = some ⟨v, H, [], some []⟩
theorem still_split : Still pSplit := by
  intro args
  unfold pSplit
  split
  · split
    · split
      · exact .inr ⟨_, fun _ => rfl⟩
      · exact .inl fun _ => rfl
    · exact .inl fun _ => rfl
  · exact .inl fun _ => rfl
theorem still_itoa : Still pItoa := by
  intro args
  unfold pItoa
  split
  · split
    · exact .inr ⟨_, fun _ => rfl⟩
    · exact .inl fun _ => rfl
  · exact .inl fun _ => rfl
theorem still_atoi : Still pAtoi := by
  intro args
  unfold pAtoi
  split
  · split
    · split
      · exact .inr ⟨_, fun _ => rfl⟩
      · exact .inr ⟨_, fun _ => rfl⟩
      · exact .inr ⟨_, fun _ => rfl⟩
    · exact .inl fun _ => rfl
  · exact .inl fun _ => rfl
theorem still_trunc : Still pTrunc := by
  intro args
  unfold pTrunc
  split
  · split
    · exact .inl fun _ => rfl
    · exact .inr ⟨_, fun _ => rfl⟩
  · exact .inl fun _ => rfl
theorem Still.out {p : List PV → Heap → Option ORes} (hs : Still p) {args : List PV} {H : Heap} {r : ORes} (h : p args H = some r) : r.h = H ∧ r.wr = [] ∧ ∀ H', p args H' = some ⟨r.v, H'.patch r.h r.wr, r.wr, r.rd⟩ := by
  rcases hs args with q | ⟨v, q⟩
  · rw [q] at h; cases h
  · rw [q] at h
    simp only [Option.some.injEq] at h
    subst h
    exact ⟨rfl, rfl, fun H' => by rw [patch_nil]; exact q H'⟩
theorem still_compare : Still pCompare := by
  intro args
  unfold pCompare
  split
  · exact .inr ⟨_, fun _ => rfl⟩
  · exact .inl fun _ => rfl
theorem join_out {args : List PV} {H : Heap} {r : ORes} (h : pJoin args H = some r) : r.h = H ∧ r.wr = [] ∧ ∀ H', Agree H' H r.rd → pJoin args H' = some ⟨r.v, H'.patch r.h r.wr, r.wr, r.rd⟩ := by
  unfold pJoin at h
  split at h
  · simp at h
  · rename_i x q hnv
    split at h
    · rename_i xs is hel
      split at h
      · rename_i l hl
        split at h
        · rename_i hc
          simp only [Option.some.injEq] at h; subst h
          refine ⟨rfl, rfl, fun H' ha => ?_⟩
          rw [patch_nil]
          have hel' := elems_local hel (show ∀ i ∈ is, H'.at_ i = H.at_ i from ha.2)
          cases x with
          | val y => exact (hnv y rfl).elim
          | _ => simp only [pJoin, hel', hl, if_pos hc]
        · simp at h
      · simp at h
    · simp at h
  · simp at h
theorem still_cloneF {k : Nat} : Still (pCloneF k) := by
  intro args
  unfold pCloneF
  split
  · split
    · split
      · exact .inr ⟨_, fun _ => rfl⟩
      · exact .inl fun _ => rfl
    · exact .inl fun _ => rfl
  · exact .inl fun _ => rfl
def Quiet (p : List PV → Heap → Option ORes) : Prop := ∀ args H r, p args H = some r → r.h = H ∧ r.wr = [] ∧ ∀ H', Agree H' H r.rd → p args H' = some ⟨r.v, H'.patch r.h r.wr, r.wr, r.rd⟩
theorem join_quiet : Quiet pJoin := fun _ _ _ h => join_out h
theorem Still.quiet {p : List PV → Heap → Option ORes} (hs : Still p) : Quiet p := fun args H r h => let ⟨a, b, c⟩ := hs.out h; ⟨a, b, fun H' _ => c H'⟩
structure Lays1 (p : List PV → Heap → Option ORes) : Prop where
  fr : ∀ args H r, p args H = some r → Fr H r.h r.wr
  n : ∀ args H r, p args H = some r → r.h.n ≠ H.n
  dd : ∀ args H r, p args H = some r → Dd H r.h
theorem lays_of {p : List PV → Heap → Option ORes} (h : ∀ args H r, p args H = some r → r.h.n = H.n + 1 ∧ ∀ i, i < H.n → r.h.at_ i = H.at_ i) : Lays1 p where
  fr := fun args H r q => let ⟨a, b⟩ := h _ _ _ q; ⟨by omega, fun i hi _ => b i hi⟩
  n := fun args H r q => let ⟨a, b⟩ := h _ _ _ q; by omega
  dd := fun args H r q => let ⟨a, b⟩ := h _ _ _ q; fun i hi hd => by rw [b i hi]; exact hd
theorem row_kept {H : Heap} {b : Blk} (i : Nat) (hi : i < H.n) : ((H.grow 1).put H.n b).at_ i = H.at_ i := by
  show (if i = H.n then _ else (if i < H.n then _ else _)) = _
  rw [if_neg (by omega), if_pos hi]
theorem clone_out {k : Nat} {args : List PV} {H : Heap} {r : ORes} (h : pClone k args H = some r) : r.h.n = H.n + 1 ∧ ∀ i, i < H.n → r.h.at_ i = H.at_ i := by
  unfold pClone at h
  split at h
  · split at h
    · cases h
    · split at h
      · split at h
        · simp only [Option.some.injEq] at h; subst h
          exact ⟨rfl, fun i hi => if_pos hi⟩
        · split at h
          · simp only [Option.some.injEq] at h; subst h
            exact ⟨rfl, row_kept⟩
          · cases h
      · cases h
  · cases h
theorem grow_out {k : Nat} {args : List PV} {H : Heap} {r : ORes} (h : pGrow k args H = some r) : r.h.n = H.n + 1 ∧ ∀ i, i < H.n → r.h.at_ i = H.at_ i := by
  unfold pGrow at h
  split at h
  · split at h
    · simp only [Option.some.injEq] at h; subst h
      exact ⟨rfl, fun i hi => if_pos hi⟩
    · split at h
      · simp only [Option.some.injEq] at h; subst h
        exact ⟨rfl, row_kept⟩
      · cases h
  · cases h
theorem row_put {H : Heap} {r : Nat} {b : Blk} (i : Nat) (hi : i < H.n) (hr : i ≠ r) : ((H.grow 1).put r b).at_ i = H.at_ i := by
  show (if i = r then _ else (if i < H.n then _ else _)) = _
  rw [if_neg hr, if_pos hi]
theorem lays_of1 {p : List PV → Heap → Option ORes} (h : ∀ args H r, p args H = some r → r.h.n = H.n + 1 ∧ (∀ i, i < H.n → i ∉ r.wr → r.h.at_ i = H.at_ i) ∧ ∀ i, i < H.n → H.at_ i = .dead → r.h.at_ i = .dead) : Lays1 p where
  fr := fun args H r q => let ⟨a, b, c⟩ := h _ _ _ q; ⟨by omega, b⟩
  n := fun args H r q => let ⟨a, b, c⟩ := h _ _ _ q; by omega
  dd := fun args H r q => let ⟨a, b, c⟩ := h _ _ _ q; c
theorem ins_out {k : Nat} {args : List PV} {H : Heap} {r : ORes} (h : pIns k args H = some r) : r.h.n = H.n + 1 ∧ (∀ i, i < H.n → i ∉ r.wr → r.h.at_ i = H.at_ i) ∧ ∀ i, i < H.n → H.at_ i = .dead → r.h.at_ i = .dead := by
  unfold pIns at h
  split at h
  · split at h
    · split at h
      · split at h
        · simp only [Option.some.injEq] at h; subst h
          exact ⟨rfl, fun i hi _ => row_kept i hi, fun i hi hd => by rw [row_kept i hi]; exact hd⟩
        · cases h
      · split at h
        · rename_i hrow
          split at h
          · simp only [Option.some.injEq] at h; subst h
            refine ⟨rfl, fun i hi hn => row_put i hi (by simpa using hn), fun i hi hd => ?_⟩
            rw [row_put i hi]
            · exact hd
            · rintro rfl; rw [hd] at hrow; cases hrow
          · cases h
        · cases h
      · cases h
    · cases h
  · cases h
theorem sort_out {f : List (List PV) → Option (List (List PV))} {x : PV} {H : Heap} {r : ORes} (h : sortRow f x H = some r) : r.h.n = H.n + 1 ∧ (∀ i, i < H.n → i ∉ r.wr → r.h.at_ i = H.at_ i) ∧ ∀ i, i < H.n → H.at_ i = .dead → r.h.at_ i = .dead := by
  unfold sortRow at h
  split at h
  · simp only [Option.some.injEq] at h; subst h
    exact ⟨rfl, fun i hi _ => if_pos hi, fun i hi hd => by rw [show ((H.grow 1).at_ i) = H.at_ i from if_pos hi]; exact hd⟩
  · split at h
    · rename_i hrow
      split at h
      · split at h
        · simp only [Option.some.injEq] at h; subst h
          refine ⟨rfl, fun i hi hn => row_put i hi (by simpa using hn), fun i hi hd => ?_⟩
          rw [row_put i hi]
          · exact hd
          · rintro rfl; rw [hd] at hrow; cases hrow
        · cases h
      · cases h
    · cases h
  · cases h
theorem ins_lays {k : Nat} : Lays1 (pIns k) := lays_of1 fun _ _ _ => ins_out
theorem sortS_lays {f : FuncId} : Lays1 (pSortS f) := lays_of1 fun args H r h => by
  unfold pSortS at h
  split at h
  · split at h
    · exact sort_out h
    · cases h
  · cases h
theorem sortI_lays : Lays1 pSortI := lays_of1 fun args H r h => by
  unfold pSortI at h
  split at h
  · exact sort_out h
  · cases h
theorem clone_lays {k : Nat} : Lays1 (pClone k) := lays_of fun _ _ _ => clone_out
theorem grow_lays {k : Nat} : Lays1 (pGrow k) := lays_of fun _ _ _ => grow_out
theorem cond_some {α : Type} {b : Bool} {x y p : α} (h : cond b (some x) (some y) = some p) : (b = true ∧ p = x) ∨ (b = false ∧ p = y) := by
  cases b
  · exact .inr ⟨rfl, (Option.some.inj h).symm⟩
  · exact .inl ⟨rfl, (Option.some.inj h).symm⟩
theorem prim_kind {c f : FuncId} {p : List PV → Heap → Option ORes} (hp : prim c f = some p) : Quiet p ∨ Lays1 p := by
  unfold prim at hp
  split at hp
  all_goals first
    | (cases hp; exact .inl still_trunc.quiet)
    | (cases hp; exact .inl still_split.quiet)
    | (cases hp; exact .inl still_itoa.quiet)
    | (cases hp; exact .inl still_atoi.quiet)
    | (cases hp; exact .inl join_quiet)
    | (cases hp; exact .inl still_compare.quiet)
    | (cases hp; exact .inr clone_lays)
    | (cases hp; exact .inr grow_lays)
    | (cases hp; exact .inr ins_lays)
    | (cases hp; exact .inr sortS_lays)
    | (cases hp; exact .inr sortI_lays)
    | cases hp
    | (rcases cond_some hp with ⟨_, rfl⟩ | ⟨_, rfl⟩
       · exact .inl still_cloneF.quiet
       · exact .inr clone_lays)
theorem prim_fr : PrimFr (env P0) where
  fr := fun c f p hp args H r h => by
    rcases prim_kind hp with q | q
    · obtain ⟨h1, h2, _⟩ := q _ _ _ h
      rw [h1, h2]; exact Fr.refl _ _
    · exact q.fr _ _ _ h
  loc := fun c f p hp args H r h hn => by
    rcases prim_kind hp with q | q
    · obtain ⟨h1, h2, h3⟩ := q _ _ _ h
      exact ⟨fun i _ => by rw [h1], h3⟩
    · exact (q.n _ _ _ h hn).elim
theorem prim_dd : PrimDd (env P0) where
  dd := fun c f p hp args H r h => by
    rcases prim_kind hp with q | q
    · obtain ⟨h1, _, _⟩ := q _ _ _ h
      rw [h1]; exact fun _ _ h => h
    · exact q.dd _ _ _ h
end Go.Evl.Zone

namespace Go.Evl.Zone
open Go Go.Evl Go.Proofs Go.RowKit Go.ChangeShapes Go.WideShapes Go.ChangeAt
set_option maxRecDepth 100000
theorem ent55 : Proofs.Enters P0 194 := enters_of Tryz.func194 (by kernel_rfl) rfl
theorem entG : Proofs.Enters P0 292 := enters_of Tryz.func292 (by kernel_rfl) rfl
theorem entH : Proofs.Enters P0 226 := enters_of Tryz.func226 (by kernel_rfl) rfl
theorem find56n : (Extern.findNext Tryz.f212).isNone = true := by kernel_rfl
theorem find56 : Extern.find Tryz.f212 = some (Extern.MathFloor.toIntegral "math.archTrunc" .zero) := by kernel_rfl
theorem name56 : (Tryz.f212.name == "runtime.NumGoroutine") = false := by kernel_rfl
theorem body56 : Tryz.f212.body.isNone = true := by kernel_rfl
theorem run56 (w : World) (args : Array Value) : (callFunc 212 args).run P0 w = (do return Next.value (← Extern.MathFloor.toIntegral "math.archTrunc" .zero args) : Sem Next).run P0 w := by
  have h1 : Extern.findNext Tryz.f212 = none := by simpa using find56n
  have h0 : Tryz.prog.funcs[212]? = some Tryz.f212 := Tryz.func212
  unfold callFunc
  simp only [Sem.run_bind]
  rw [show (program : Sem Program).run P0 w = .ok P0 w from rfl]
  simp only [Result.andThen_ok, h0, name56, body56, h1, find56]
  simp [mark]
  rfl
theorem truncOK : PSound P0 InvW 212 pTrunc := trunc_ok (P := P0) (f := 212) fun x w args => run56 w args
theorem compareOK : PSound P0 InvW 194 pCompare := compare_ok (P := P0) (f := 194) ent55 fun a b w => Tryz.strings_Compare a b w
theorem cOK {f : FuncId} {t el : TypeId} {k : Nat} (hu : P0.underlying t = some (.slice el)) (hc : (E0 P0 .keep f (cloneC t k)).code f = some (cloneC t k)) : PSound P0 InvW f (pClone k) := clone_ok invW_ok hu hc
theorem cFOK {f : FuncId} {t el : TypeId} {k : Nat} (hu : P0.underlying t = some (.slice el)) (hc : (E0 P0 .own f (cloneC t k)).code f = some (cloneC t k)) : PSound P0 InvW f (pCloneF k) := cloneF_pok invW_ok hu hc
theorem uZ : P0.underlying 46 = some (.slice 107) := by kernel_rfl
theorem uV : P0.underlying 42 = some (.slice 161) := by kernel_rfl
theorem uS : P0.underlying 44 = some (.slice 87) := by kernel_rfl
theorem uI : P0.underlying 47 = some (.slice 38) := by kernel_rfl
theorem uK : P0.underlying 40 = some (.slice 158) := by kernel_rfl
theorem uM : P0.underlying 49 = some (.slice 165) := by kernel_rfl
theorem uN : P0.underlying 126 = some (.slice 3) := by kernel_rfl
theorem growOK {f : FuncId} (hE : Proofs.Enters P0 f) {ρ : Go.Shelf.Ren} (L : Lays8.n4 P0 ρ) (hf : ρ.f 4 = f) {i0 : TypeInfo} {z : Value} (hi0 : P0.info? (ρ.t 25) = some i0) (hz0 : i0.zero = some z) (hs0 : i0.size = 1) (hzs : z.cells.size = 1) (hb : i0.bytes ≤ 16) : PSound P0 InvW f (pGrow 1) := by
  subst hf
  refine grow_ok (by decide) hE (fun a w => Any8.slices_Grow_room L a 0 0 0 w (by omega) (by omega) (by omega) (by omega)) fun a n w h1 h2 => ?_
  have hm : n ≤ 68719476736 := h2
  refine (Any8.slices_Grow_grow L i0 z hi0 hz0 (by omega) a 0 0 n [] w (by omega) (by omega) ?_ (by omega) (by simp) (fun _ => rfl) (fun _ _ j v hj => by simp at hj)).mono ?_
  · have : (0 + n) * i0.bytes ≤ (0 + n) * 16 := Nat.mul_le_mul_left _ hb
    omega
  · rintro e w' ⟨rfl, rfl⟩
    refine ⟨_, _, _, rfl, rfl, ?_⟩
    have hg := grownCap_ge w (0 + n) 0 (ρ.t 25)
    obtain ⟨G, hG⟩ : ∃ G, G = grownCap w (0 + n) 0 (ρ.t 25) := ⟨_, rfl⟩
    rw [← hG] at hg ⊢
    simp only [Array.size_append, size_zeroCells, hzs]
    simp
    omega
end Go.Evl.Zone

namespace Go.Evl
open Go Go.Proofs Go.RowKit
theorem wpList_copyI {P : Program} (w : World) {ops : Array Oper} {rest : List Oper} {o : Oper} {a : Act} {Q : Exit → Act → World → Prop} (hgd : o.guard = none) (d s : Operand) (t t' : TypeId)
    (ho : o.op = .call { callee := .builtin .copy, args := #[d, s], argTypes := #[t, t'] }) (v u : Value) (hd : a.eval d = v) (hs : a.eval s = u) {v' : Value} {w' : World}
    (hr : (Builtin.copy_ #[t, t'] o.type #[v, u]).run P w = .ok v' w') (h : wpList P ops Q rest (a.put o.dst v') w') : wpList P ops Q (o :: rest) a w :=
  wpList_copy_runI w hgd d s t t' ho v u hd hs hr h
theorem run_copyK {P : Program} (w : World) (dT sT ty elem : TypeId) (b o dLen dCap vb vo sLen sCap k n : Nat) (c : Array Value) (t : TypeId) (news : List Value) (hu : P.underlying dT = some (.slice elem)) (hs : szOf P elem = some k) (hm : Nat.min sLen dLen = n)
    (hn : news.length = n * k) (hb : w.heap[b]? = some (.cells c t (0, 0))) (hfit : o + news.length ≤ c.size) (hsrc : ∀ j v, news[j]? = some v → w.cell? ⟨vb, vo + j, none⟩ = some v) (h1 : ∀ v ∈ news, v.oneCell' = true) :
    (Builtin.copy_ #[dT, sT] ty #[.slice (some ⟨b, o, none⟩) dLen dCap, .slice (some ⟨vb, vo, none⟩) sLen sCap]).run P w = .ok (goInt n) (w.setRow b (setL c.toList o news).toArray) := by
  have h := run_storeAt (P := P) (g := ⟨w, fun _ => False, fun _ => none, Heap.empty⟩) hb hfit h1
  have hf := run_firstCells_some (P := P) w k n ⟨vb, vo, none⟩ sLen sCap news hn (fun j v hj => by rw [add_none]; exact hsrc j v hj)
  unfold Builtin.copy_
  simp only [Sem.run_bind, run_underlying hu, List.getElem?_toArray, List.getElem?_cons_zero, List.getElem?_cons_succ, Result.andThen_ok, run_sz hs, Builtin.lenOf, Sem.run_pure, hm, hf, h]
theorem frozen_cells {w : World} {b : Nat} {c : Array Value} {t : TypeId} (h : w.heap[b]? = some (.cells c t (0, 0))) (o : Nat) : w.frozen? ⟨b, o, none⟩ = false := by
  simp [World.frozen?, h]
structure InsC (P : Program) (f : FuncId) (k : Nat) (te tS tV : TypeId) : Prop where
  shift : ∀ (b vb vo i n cap vcap : Nat) (c vc : Array Value) (t t2 : TypeId) (w : World) (hb : w.heap[b]? = some (.cells c t (0, 0))) (hvb : w.heap[vb]? = some (.cells vc t2 (0, 0))) (hne : vb ≠ b) (hi : i < n) (hroom : n + 1 ≤ cap) (h63 : n + 1 ≤ 68719476736)
    (hc : c.size = cap * k) (cs vs C1 C2 : List Value) (hcs : cs = (c.toList.take (n * k)).drop (i * k)) (hvs : vs = (vc.toList.drop vo).take k) (hvl : vs.length = k) (h1c : ∀ v ∈ cs, v.oneCell' = true) (h1v : ∀ v ∈ vs, v.oneCell' = true)
    (hC1 : C1 = setL c.toList ((i + 1) * k) cs) (hC2 : C2 = setL C1 (i * k) vs) (hvk : vc.size ≠ 0), Calls P f #[.slice (some ⟨b, 0, none⟩) n cap, .int .i64 i, .slice (some ⟨vb, vo, none⟩) 1 vcap] w fun e w' =>
      e = .returned (.slice (some ⟨b, 0, none⟩) (n + 1) cap) ∧ w' = (w.drew.setRow b C1.toArray).setRow b C2.toArray
  grow : ∀ (b vb vo i n cap vcap : Nat) (c vc : Array Value) (t t2 : TypeId) (w : World) (hb : w.heap[b]? = some (.cells c t (0, 0))) (hvb : w.heap[vb]? = some (.cells vc t2 (0, 0))) (hi : i < n) (hnc : n ≤ cap) (hroom : cap < n + 1) (hbig : n + 1 ≤ 68719476736)
    (hc : n * k ≤ c.size) (cs vs D1 D2 : List Value) (ROW : Array Value) (i0 : TypeInfo) (z : Value) (hi0 : P.info? te = some i0) (hz0 : i0.zero = some z) (hs0 : i0.size = k) (hzs : z.cells.size = k) (hbt : i0.bytes ≤ 1024) (hcs : cs = c.toList.take (n * k)) (hvs : vs = (vc.toList.drop vo).take k) (hvl : vs.length = k) (h1c : ∀ v ∈ cs, v.oneCell' = true) (h1v : ∀ v ∈ vs, v.oneCell' = true)
    (hR : ROW = (cs.take (i * k)).toArray ++ Builtin.zeroCells z.cells (n + 1 - i) ++ Builtin.zeroCells z.cells (grownCap w (n + 1) cap te - (n + 1))) (hD1 : D1 = setL ROW.toList (i * k) vs) (hD2 : D2 = setL D1 ((i + 1) * k) (cs.drop (i * k))), Calls P f #[.slice (some ⟨b, 0, none⟩) n cap, .int .i64 i, .slice (some ⟨vb, vo, none⟩) 1 vcap] w fun e w' =>
      e = .returned (.slice (some ⟨w.heap.size, 0, none⟩) (n + 1) (grownCap w (n + 1) cap te)) ∧ w' = ((((w.alloc (.cells ROW te)).drew).setRow w.heap.size D1.toArray).drew).setRow w.heap.size D2.toArray
  end_ : ∀ (base : Option Addr) (n cap vb vo vcap : Nat) (w w' : World) (u : Value) (h63 : n ≤ 68719476736) (hr : ∀ ty, (Builtin.append_ #[tS, tV] ty #[.slice base n cap, .slice (some ⟨vb, vo, none⟩) 1 vcap]).run P w = .ok u w'), Calls P f #[.slice base n cap, .int .i64 n, .slice (some ⟨vb, vo, none⟩) 1 vcap] w fun e w2 => e = .returned u ∧ w2 = w'
end Go.Evl

namespace Go.Evl.Zone
open Go Go.Evl Go.RowKit
theorem sl_inv {g : G} (hW : WR g) {v : Value} {r k n m : Nat} {xs : List (List PV)} (hv : VR g v (.sl r k n 0 m)) (hb : g.H.at_ r = .row k xs true) (hn : n = xs.length) :
    ∃ (b cap : Nat) (c : Array Value) (t : TypeId), v = .slice (some ⟨b, 0, none⟩) m cap ∧ m ≤ cap ∧ g.ι r = some b ∧ g.w.heap[b]? = some (.cells c t (0, 0)) ∧ c.size = cap * k ∧ 0 < k ∧ (∀ x ∈ xs, x.length = k) ∧ xs.length * k ≤ c.size ∧ RR g k (c.toList.take (xs.length * k)) xs := by
  subst hn
  cases hv with
  | sl ad _ _ _ _ _ cap hlc hg hh =>
    obtain ⟨a1, a2, b, c, t, fr, q1, q2, q3, q4, q5, q6⟩ := hW.row r k xs true hb
    have hfr := q3 rfl; subst hfr
    have hval : Valid g r k xs.length b := ⟨q1, by rw [hb]; rfl, by rw [hb]; rfl⟩
    obtain ⟨e1, c0, t0, fr0, e2, e3⟩ := hh b hval
    rw [q2] at e2; simp at e2
    obtain ⟨rfl, rfl, rfl⟩ := e2
    subst e1
    exact ⟨b, cap, c, t, by rw [Nat.zero_mul], hlc, q1, q2, by rw [e3]; simp, a1, a2, q5, row_rr a2 q5 q6⟩
theorem ins_cells {α : Type} {C1 C2 base D vs : List α} {n i k : Nat} (hi : i ≤ n) (hk : 0 < k) (hb : (i + 1) * k + D.length ≤ base.length) (hD : D.length = (n - i) * k) (hv : vs.length = k) (h1 : C1 = setL base ((i + 1) * k) D) (h2 : C2 = setL C1 (i * k) vs) :
    C2.take ((n + 1) * k) = base.take (i * k) ++ vs ++ D ∧ C2.length = base.length := by
  have e1 : (i + 1) * k = i * k + k := by rw [Nat.add_mul, Nat.one_mul]
  have e2 : (n + 1) * k = i * k + k + (n - i) * k := by
    have : n * k = i * k + (n - i) * k := by rw [← Nat.add_mul]; congr 1; omega
    rw [Nat.add_mul, Nat.one_mul, this]; omega
  have l1 : C1.length = base.length := by rw [h1, setL_length _ _ _ hb]
  have l2 : C2.length = base.length := by rw [h2, setL_length _ _ _ (by omega), l1]
  refine ⟨?_, l2⟩
  have hC1 : C1 = base.take (i * k + k) ++ D ++ base.drop (i * k + k + D.length) := by rw [h1, e1]; rfl
  have hC2 : C2 = C1.take (i * k) ++ vs ++ C1.drop (i * k + vs.length) := by rw [h2]; rfl
  have t1 : C1.take (i * k) = base.take (i * k) := by
    rw [hC1, List.append_assoc, List.take_append_of_le_length (by rw [List.length_take]; omega), List.take_take, Nat.min_eq_left (by omega)]
  have t2 : C1.drop (i * k + vs.length) = D ++ base.drop (i * k + k + D.length) := by
    rw [hC1, hv, List.append_assoc, List.drop_left' (by rw [List.length_take]; omega)]
  rw [hC2, t1, t2, ← List.append_assoc, List.take_left' ]
  simp only [List.length_append, List.length_take]
  omega
theorem fits_of {g : G} {k : Nat} {xs : List (List PV)} {C vals : List Value} (hk : 0 < k) (h : RR g k vals xs) (hv : vals = C.take (xs.length * k)) (hs : xs.length * k ≤ C.length) : Fits g C.toArray (.row k xs true) :=
  rr_fits hk h (by simpa using hv) (by simpa using hs)
theorem wrap_refl {g : G} (hW : WR g) : WR g := hW
theorem grow_at (H : Heap) (r : Nat) (b : Blk) (hr : r < H.n) (h : H.at_ r = b) : (H.grow 1).at_ r = b := by
  show (if r < H.n then _ else _) = _
  rw [if_pos hr, h]
theorem im1_inv {g : G} {v : Value} {y : List PV} {k : Nat} (hk0 : 0 < k) (hy : y.length = k) (hv : VR g v (.im [y] true)) : ∃ (b vo : Nat) (c : Array Value) (t : TypeId), v = .slice (some ⟨b, vo, none⟩) 1 1 ∧ g.Z b ∧ g.w.heap[b]? = some (.cells c t (0, 0)) ∧ vo + k ≤ c.size ∧ RR g k ((c.toList.drop vo).take k) [y] := by
  obtain ⟨ad, cap, rfl, hf, _, hat⟩ := hv.inv_im
  obtain ⟨k', b, vo, c, t, fr, cv, rfl, hZ, hb, hfr, hk, hno, hc, hh⟩ := hat (by simp)
  obtain rfl := hfr rfl
  have hcap := hf rfl
  simp at hcap
  subst hcap
  have hj : ∀ j p, y[j]? = some p → c[vo + j]? = some (cv 0 j) ∧ (cv 0 j).oneCell' = true ∧ VR g (cv 0 j) p := fun j p hp => by
    have h1 := hc 0 y j p (by simp) hp
    have h2 := hh 0 y j p (by simp) hp
    simp only [Nat.zero_mul, Nat.add_zero] at h1
    exact ⟨h1.1, h1.2, h2⟩
  have hs : vo + k ≤ c.size := by
    obtain ⟨p, hp⟩ : ∃ p, y[k - 1]? = some p := ⟨_, List.getElem?_eq_getElem (by omega)⟩
    have := (Array.getElem?_eq_some_iff.1 (hj _ p hp).1).1
    omega
  have hl : ((c.toList.drop vo).take k).length = k := by simp; omega
  refine ⟨b, vo, c, t, rfl, hZ, hb, hs, ⟨⟨by simp only [List.flatten_cons, List.flatten_nil, List.append_nil]; rw [hl, hy], fun i v p hv hp => ?_⟩, by simpa using hy, fun v hv => ?_⟩⟩
  · simp only [List.flatten_cons, List.flatten_nil, List.append_nil] at hp
    rw [List.getElem?_take] at hv
    split at hv
    · rw [List.getElem?_drop, Array.getElem?_toList] at hv
      obtain ⟨q1, _, q3⟩ := hj i p hp
      rw [q1] at hv
      obtain rfl := Option.some.inj hv
      exact q3
    · cases hv
  · obtain ⟨i, hi⟩ := List.mem_iff_getElem?.1 hv
    rw [List.getElem?_take] at hi
    split at hi
    · rename_i hlt
      rw [List.getElem?_drop, Array.getElem?_toList] at hi
      obtain ⟨q1, q2, _⟩ := hj i y[i] (List.getElem?_eq_getElem (by omega))
      rw [q1] at hi
      obtain rfl := Option.some.inj hi
      exact q2
    · cases hi
theorem ins_ok {P : Program} {Inv : G → Prop} {f : FuncId} {k : Nat} {te tS tV : TypeId} (hE : Go.Proofs.Enters P f) (C : InsC P f k te tS tV) (hS : P.underlying tS = some (.slice te)) (hV : P.underlying tV = some (.slice te)) {z : List PV} (hz : zeroC P te = some z) (hzl : z.length = k) (hsm : small P te = true) (hsz : szOf P te = some k) (hall : z.all cellP = true) : PSound P Inv f (pIns k) := by
  intro args H r h g vs R hW hI hH ha hR
  subst hH
  unfold pIns at h
  split at h
  · rename_i x i y
    split at h
    · rename_i hyk
      obtain ⟨hyl, hk⟩ := hyk
      obtain ⟨v0, v1, v2, rfl, hv0, hv1, hv2⟩ : ∃ v0 v1 v2, vs = [v0, v1, v2] ∧ VR g v0 x ∧ VR g v1 (.val (.int .i64 i)) ∧ VR g v2 (.im [y] true) := by
        match vs, ha.1 with
        | [v0, v1, v2], _ => exact ⟨v0, v1, v2, rfl, ha.2 0 v0 _ rfl rfl, ha.2 1 v1 _ rfl rfl, ha.2 2 v2 _ rfl rfl⟩
      obtain rfl := hv1.inv_val
      obtain ⟨b2, vo, c2, t2, rfl, hZ2, hh2, hs2, hrr2⟩ := im1_inv hk hyl hv2
      have hW1 := wr_room hW 1
      have hX1 := ext_room hW 1
      have hdead : (g.room 1).H.at_ g.H.n = .dead := by
        show (g.H.grow 1).at_ g.H.n = .dead
        rw [room_at hW 1]
        exact hW.dead _ (Nat.le_refl _)
      have hslot : g.H.n < (g.room 1).H.n := Nat.lt_succ_self _
      have hel2 : elems (g.room 1).H k (.im [y] true) = some ([y], []) := by
        unfold elems
        simp [allLen, hyl]
      split at h
      · -- nothing there yet
        split at h
        · rename_i hi0
          subst hi0
          simp only [Option.some.injEq] at h; subst h
          obtain ⟨ad, cap, rfl, hf, _, _⟩ := hv0.inv_im
          have hap : appendP (g.room 1).H g.H.n k (.im [] true) [y] = some (.sl g.H.n k 1 0 1, (g.room 1).H.put g.H.n (.row k [y] true), [g.H.n], []) := by
            unfold appendP
            simp [allLen, most, hyl]
          have key : ∀ ty, ∃ u g', (Builtin.append_ #[tS, tV] ty #[.slice ad 0 cap, .slice (some ⟨b2, vo, none⟩) 1 1]).run P (g.room 1).w = .ok u g'.w ∧ g'.H = (g.room 1).H.put g.H.n (.row k [y] true) ∧ WR g' ∧ Ext (g.room 1) g' ∧ VR g' u (.sl g.H.n k 1 0 1) := fun ty =>
            app_sound (P := P) hW1 hdead hslot (argTypes := #[tS, tV]) (ty := ty) rfl rfl hS hsz hz hzl hk hsm hV (fun q e => by cases e) (hv0.mono hW hX1) (hv2.mono hW hX1) hel2 hap
          obtain ⟨u, g', k1, k2, k3, k4, k5⟩ := key 0
          have hrun : ∀ ty, (Builtin.append_ #[tS, tV] ty #[.slice ad 0 cap, .slice (some ⟨b2, vo, none⟩) 1 1]).run P g.w = .ok u g'.w := fun ty => k1
          refine goes_calls hE (C.end_ ad 0 cap b2 vo 1 g.w g'.w u (by omega) hrun) ?_
          rintro e w' ⟨rfl, rfl⟩
          exact ⟨u, rfl, hR g' u k2 k3 (hX1.trans k4) k5⟩
        · cases h
      · rename_i r k1 gg0 gg
        split at h
        · rename_i k4 xs hrow
          split at h
          · rename_i hc
            obtain ⟨rfl, rfl, rfl, hxn, hi0, hin, hmost⟩ := hc
            obtain ⟨j, rfl⟩ : ∃ j : Nat, i = (j : Int) := ⟨i.toNat, by omega⟩
            have hjn : j ≤ gg := by omega
            have hm2 : gg + 1 ≤ 68719476736 := hmost
            simp only [Int.toNat_natCast, Option.some.injEq] at h; subst h
            have rlt : r < g.H.n := hW.lt_n (by rw [hrow]; simp)
            have hrow' : (g.room 1).H.at_ r = .row k xs true := grow_at _ _ _ rlt hrow
            obtain ⟨b, cap, c, t, rfl, hcap, hir, hh, hcs, _, hxl, hxs, hrr⟩ := sl_inv hW hv0 hrow hxn.symm
            have hc2 : k ≤ c2.size := by omega
            have hown : isOwn (g.H.at_ r) := by rw [hrow]; trivial
            have hbb : b2 ≠ b := fun e => hW.z r b hown hir (e ▸ hZ2)
            by_cases hj : j = gg
            · subst hj
              have hap : appendP (g.room 1).H g.H.n k (.sl r k j 0 j) [y] = some (.sl r k (j + 1) 0 (j + 1), (g.room 1).H.put r (.row k (xs.take j ++ [y]) true), [r], [r]) := by
                unfold appendP
                simp only [hrow']
                simp [hxn, hmost]
              obtain ⟨u, g', k1, k2, k3, k4, k5⟩ := app_sound (P := P) hW1 hdead hslot (argTypes := #[tS, tV]) (ty := 0) rfl rfl hS hsz hz hzl hk hsm hV (fun q e => by cases e) (hv0.mono hW hX1) (hv2.mono hW hX1) hel2 hap
              have hrun : ∀ ty, (Builtin.append_ #[tS, tV] ty #[.slice (some ⟨b, 0, none⟩) j cap, .slice (some ⟨b2, vo, none⟩) 1 1]).run P g.w = .ok u g'.w := fun ty => k1
              refine goes_calls hE (C.end_ _ j cap b2 vo 1 g.w g'.w u (by omega) hrun) ?_
              rintro e w' ⟨rfl, rfl⟩
              refine ⟨u, rfl, hR g' u ?_ k3 (hX1.trans k4) k5⟩
              rw [k2, List.drop_of_length_le (by omega)]
              rfl
            have hjl : j < gg := by omega
            obtain ⟨cs, hcsd⟩ : ∃ cs, cs = c.toList.take (gg * k) := ⟨_, rfl⟩
            obtain ⟨vs, hvsd⟩ : ∃ vs, vs = (c2.toList.drop vo).take k := ⟨_, rfl⟩
            have hrrx : RR g k cs xs := by rw [hcsd, ← hxn]; exact hrr
            have hrry : RR g k vs [y] := by rw [hvsd]; exact hrr2
            have hvl : vs.length = k := by have := hrry.size; simpa using this
            have hcl : cs.length = gg * k := by have := hrrx.size; rw [this, hxn]
            have h1c : ∀ v ∈ cs, v.oneCell' = true := hrrx.one
            have h1v : ∀ v ∈ vs, v.oneCell' = true := hrry.one
            have hgk : gg * k = j * k + (gg - j) * k := by rw [← Nat.add_mul]; congr 1; omega
            have hdl : (cs.drop (j * k)).length = (gg - j) * k := by rw [List.length_drop, hcl]; omega
            have hck : gg * k ≤ cap * k := Nat.mul_le_mul_right k hcap
            have hxs' : (xs.take j ++ y :: xs.drop j).length = gg + 1 := by simp; omega
            have hxk : ∀ x ∈ xs.take j ++ y :: xs.drop j, x.length = k := fun x hx => by
              rcases List.mem_append.1 hx with hx | hx
              · exact hxl x (List.mem_of_mem_take hx)
              · rcases List.mem_cons.1 hx with rfl | hx
                · exact hyl
                · exact hxl x (List.mem_of_mem_drop hx)
            have hWd : WR (g.room 1).drew := wr_drew hW1
            have hXd : Ext g (g.room 1).drew := hX1.trans (ext_drew _)
            have hRR : RR (g.room 1).drew k (cs.take (j * k) ++ vs ++ cs.drop (j * k)) (xs.take j ++ y :: xs.drop j) := by
              have := ((hrrx.take j).append hrry).append (hrrx.drop j)
              rw [List.append_assoc, List.append_assoc] at this
              rw [List.append_assoc]
              exact this.mono hW hXd
            have e1 : (j + 1) * k = j * k + k := by rw [Nat.add_mul, Nat.one_mul]
            have e2 : (gg + 1) * k = gg * k + k := by rw [Nat.add_mul, Nat.one_mul]
            by_cases hroom : gg + 1 ≤ cap
            · -- room in the block
              have hck1 : (gg + 1) * k ≤ cap * k := Nat.mul_le_mul_right k hroom
              obtain ⟨C1, hC1⟩ : ∃ C1, C1 = setL c.toList ((j + 1) * k) (cs.drop (j * k)) := ⟨_, rfl⟩
              obtain ⟨C2, hC2⟩ : ∃ C2, C2 = setL C1 (j * k) vs := ⟨_, rfl⟩
              have hbl : (j + 1) * k + (cs.drop (j * k)).length ≤ c.toList.length := by rw [hdl, Array.length_toList, hcs, e1]; omega
              obtain ⟨q1, q2⟩ := ins_cells (base := c.toList) hjn hk hbl hdl hvl hC1 hC2
              have hl1 : C1.length = c.size := by rw [hC1, setL_length _ _ _ hbl]; simp
              refine goes_calls hE (C.shift b b2 vo j gg cap 1 c c2 t t2 g.w hh hh2 hbb hjl hroom hm2 hcs (cs.drop (j * k)) vs C1 C2 (by rw [hcsd]) hvsd hvl (fun v hv => h1c v (List.mem_of_mem_drop hv)) h1v hC1 hC2 (by omega)) ?_
              rintro e w' ⟨rfl, rfl⟩
              have hd : g.w.drew.heap[b]? = some (.cells c t (0, 0)) := hh
              have hb1 : (g.w.drew.setRow b C1.toArray).heap[b]? = some (.cells C1.toArray t (0, 0)) := setRow_heap _ _ _ _ _ _ hd
              have hb2 : ((g.w.drew.setRow b C1.toArray).setRow b C2.toArray).heap[b]? = some (.cells C2.toArray t (0, 0)) := setRow_heap _ _ _ _ _ _ hb1
              have hfit : Fits (g.room 1).drew C2.toArray (.row k (xs.take j ++ y :: xs.drop j) true) := by
                refine fits_of hk hRR ?_ ?_
                · rw [hxs', q1]
                  congr 2
                  rw [hcsd, List.take_take, Nat.min_eq_left (by omega)]
                · rw [hxs', q2, Array.length_toList, hcs]; exact hck1
              obtain ⟨w1, e4⟩ := regrow (g := (g.room 1).drew) hWd (xs' := xs.take j ++ y :: xs.drop j) hrow' hir hh (w' := (g.w.drew.setRow b C1.toArray).setRow b C2.toArray) (b' := b) hb2 (.inl ⟨rfl, by simp [q2]⟩) (by simp [G.drew, G.room])
                (fun x o hx ho => by rw [setRow_other _ _ _ _ hx, setRow_other _ _ _ _ hx]; exact ho) (by omega) hfit ⟨by simp [World.setRow, G.drew, G.room], by simp [World.setRow, G.drew, G.room], by simp [World.setRow, G.drew, G.room]⟩
              refine ⟨_, rfl, hR _ _ rfl w1 (hXd.trans e4) ?_⟩
              refine .sl _ _ _ _ _ _ _ hroom ⟨_, by show rowLen (((g.H.grow 1).put r _).at_ r) = _; rw [Heap.put_same]; rfl, by rw [hxs']; exact Nat.le_refl _⟩ fun b3 hb3 => ?_
              have hb4 := hb3.1
              simp at hb4; subst hb4
              exact ⟨by simp, _, _, _, hb2, by simp [q2, hcs]⟩
            · -- a new block
              obtain ⟨i0, hi0, hib⟩ : ∃ i, P.info? te = some i ∧ i.bytes ≤ 1024 := by
                unfold small at hsm
                split at hsm
                · rename_i i hi; exact ⟨i, hi, by simpa using hsm⟩
                · simp at hsm
              obtain ⟨zv, hiz, hzk⟩ : ∃ zv, i0.zero = some zv ∧ zv.cells.size = k := by
                unfold zeroC at hz
                rw [hi0] at hz
                simp only [Option.bind_some] at hz
                split at hz
                · rename_i zv hq
                  simp only [Option.map_eq_some_iff] at hz
                  obtain ⟨p, hp1, hp2⟩ := hz
                  refine ⟨zv, hq, ?_⟩
                  have := (zero_cells (g := g) hp1).1.1
                  rw [hp2, hzl] at this
                  simpa using this
                · cases hz
              have hiS : i0.size = k := by
                unfold szOf at hsz
                rw [hi0] at hsz
                simpa using hsz
              obtain ⟨ROW, hROW⟩ : ∃ ROW : Array Value, ROW = (cs.take (j * k)).toArray ++ Builtin.zeroCells zv.cells (gg + 1 - j) ++ Builtin.zeroCells zv.cells (grownCap g.w (gg + 1) cap te - (gg + 1)) := ⟨_, rfl⟩
              obtain ⟨D1, hD1⟩ : ∃ D1, D1 = setL ROW.toList (j * k) vs := ⟨_, rfl⟩
              obtain ⟨D2, hD2⟩ : ∃ D2, D2 = setL D1 ((j + 1) * k) (cs.drop (j * k)) := ⟨_, rfl⟩
              have hge := grownCap_ge g.w (gg + 1) cap te
              refine goes_calls hE (C.grow b b2 vo j gg cap 1 c c2 t t2 g.w hh hh2 hjl hcap (by omega) hm2 (by omega) cs vs D1 D2 ROW i0 zv hi0 hiz hiS hzk hib hcsd hvsd hvl h1c h1v hROW hD1 hD2) ?_
              rintro e w' ⟨rfl, rfl⟩
              obtain ⟨GC, hGC⟩ : ∃ GC, GC = grownCap g.w (gg + 1) cap te := ⟨_, rfl⟩
              rw [← hGC] at hge hROW ⊢
              have hGk : (gg + 1) * k ≤ GC * k := Nat.mul_le_mul_right k hge
              have hRs : ROW.size = GC * k := by
                rw [hROW]
                simp only [Array.size_append, size_zeroCells, hzk, List.size_toArray, List.length_take, hcl]
                rw [Nat.min_eq_left (by omega), ← Nat.add_mul, ← Nat.add_mul]
                congr 1
                omega
              have hct : (cs.take (j * k)).length = j * k := by rw [List.length_take, hcl, Nat.min_eq_left (by omega)]
              have hRt : ROW.toList.take (j * k) = cs.take (j * k) := by
                rw [hROW]
                simp only [Array.toList_append, List.append_assoc]
                rw [List.take_left' hct]
              have hbl : (j + 1) * k + (cs.drop (j * k)).length ≤ ROW.toList.length := by rw [hdl, Array.length_toList, hRs, e1]; omega
              have hl1 : D1.length = ROW.size := by rw [hD1, setL_length _ _ _ (by have : ROW.toList.length = ROW.size := Array.length_toList; omega)]; simp
              have q1 : D2.take ((gg + 1) * k) = cs.take (j * k) ++ vs ++ cs.drop (j * k) := by
                have a1 : D1.take (j * k + k) = cs.take (j * k) ++ vs := by
                  rw [hD1]
                  unfold setL
                  rw [hRt, List.take_left' (by rw [List.length_append, hct, hvl])]
                rw [hD2, e1]
                unfold setL
                rw [a1, List.take_left' (by rw [List.length_append, List.length_append, hct, hvl, hdl]; omega)]
              have q2 : D2.length = ROW.size := by rw [hD2, setL_length _ _ _ (by rw [hl1]; simpa using hbl), hl1]
              have n0 : ((g.w.alloc (.cells ROW te)).drew).heap[g.w.heap.size]? = some (.cells ROW te (0, 0)) := heap_alloc_new g.w _
              have n1 : (((g.w.alloc (.cells ROW te)).drew).setRow g.w.heap.size D1.toArray).heap[g.w.heap.size]? = some (.cells D1.toArray te (0, 0)) := setRow_heap _ _ _ _ _ _ n0
              have n2 : ((((g.w.alloc (.cells ROW te)).drew).setRow g.w.heap.size D1.toArray).drew).heap[g.w.heap.size]? = some (.cells D1.toArray te (0, 0)) := n1
              have n3 : ((((g.w.alloc (.cells ROW te)).drew).setRow g.w.heap.size D1.toArray).drew.setRow g.w.heap.size D2.toArray).heap[g.w.heap.size]? = some (.cells D2.toArray te (0, 0)) := setRow_heap _ _ _ _ _ _ n2
              have hfit : Fits (g.room 1).drew D2.toArray (.row k (xs.take j ++ y :: xs.drop j) true) := by
                refine fits_of hk hRR ?_ ?_
                · rw [hxs', q1]
                · rw [hxs', q2, hRs]; exact hGk
              obtain ⟨w1, e4⟩ := regrow (g := (g.room 1).drew) hWd (xs' := xs.take j ++ y :: xs.drop j) hrow' hir hh (w' := (((g.w.alloc (.cells ROW te)).drew).setRow g.w.heap.size D1.toArray).drew.setRow g.w.heap.size D2.toArray) (b' := g.w.heap.size) n3 (.inr rfl) (by simp [G.drew, G.room])
                (fun x o hx ho => by
                  rw [setRow_other _ _ _ _ hx]
                  show (((g.w.alloc (.cells ROW te)).drew).setRow g.w.heap.size D1.toArray).heap[x]? = _
                  rw [setRow_other _ _ _ _ hx]
                  show (g.w.alloc (.cells ROW te)).heap[x]? = _
                  exact (heap_alloc_old g.w _ (lt_of_heap ho)).trans ho) (by omega) hfit ⟨by simp [World.setRow, G.drew, G.room] <;> rfl, by simp [World.setRow, G.drew, G.room] <;> rfl, by simp [World.setRow, G.drew, G.room] <;> rfl⟩
              refine ⟨_, rfl, hR _ _ rfl w1 (hXd.trans e4) ?_⟩
              refine .sl _ _ _ _ _ _ _ hge ⟨_, by show rowLen (((g.H.grow 1).put r _).at_ r) = _; rw [Heap.put_same]; rfl, by rw [hxs']; exact Nat.le_refl _⟩ fun b3 hb3 => ?_
              have hb4 := hb3.1
              simp at hb4; subst hb4
              exact ⟨by simp, _, _, _, n3, by simp [q2, hRs]⟩
          · cases h
        · cases h
      · cases h
    · cases h
  · cases h
end Go.Evl.Zone

namespace Go.Evl.Zone
open Go Go.Evl Go.RowKit Go.Proofs Go.Sort
theorem putCells_eq {α : Type} [Inhabited α] (enc : α → Value) (c : Array Value) (l : List α) (h : l.length ≤ c.size) : putCells enc 0 l.toArray c = (setL c.toList 0 (l.map enc)).toArray := by
  apply Array.ext_getElem?
  intro k
  simp only [putCells, Array.getElem?_mapIdx, List.getElem?_toArray]
  rw [setL_get _ _ _ _ (by simpa using h)]
  by_cases hk : k < l.length
  · have h1 : c[k]? = some c[k] := Array.getElem?_eq_getElem (by omega)
    rw [h1]
    simp [hk]
  · cases hc : c[k]? with
    | none => simp [hk, hc]
    | some y => simp [hk, hc]
theorem putRow_heap {α : Type} [Inhabited α] (enc : α → Value) (w : World) (b n : Nat) (l : List α) (c : Array Value) (t : TypeId) (hb : w.heap[b]? = some (.cells c t (0, 0))) (h : l.length ≤ c.size) :
    (putRow enc (Sort.ahead w n) b 0 l.toArray).heap[b]? = some (.cells (setL c.toList 0 (l.map enc)).toArray t (0, 0)) := by
  have hb' : (Sort.ahead w n).heap[b]? = some (.cells c t (0, 0)) := hb
  unfold putRow mapBlock
  simp only [Array.getElem?_modify, hb', Option.map_some, if_true, onCells, putCells_eq enc c l h]
theorem putRow_else {α : Type} [Inhabited α] (enc : α → Value) (w : World) (b n x : Nat) (d : Array α) (hx : x ≠ b) : (putRow enc (Sort.ahead w n) b 0 d).heap[x]? = w.heap[x]? := by
  unfold putRow mapBlock
  simp only [Array.getElem?_modify]
  rw [if_neg (by omega)]
  rfl
theorem sortRow_ok {α : Type} [Inhabited α] {P : Program} {f : FuncId} (enc : α → Value) (henc : ∀ x, (enc x).oneCell' = true) (srt : List α → List α) (hsl : ∀ l, (srt l).length = l.length) (rd : List (List PV) → Option (List α)) (hrd : ∀ xs l, rd xs = some l → xs = l.map fun x => [.val (enc x)]) (ex : Array Value)
    (hE : Go.Proofs.Enters P f) (hN : ∀ p cap w, Calls P f (#[.slice p 0 cap] ++ ex) w fun e w' => e = .returned (.tuple #[]) ∧ w' = w)
    (hS : ∀ (b cap : Nat) (l : List α) (w : World), Holds enc w b 0 l.toArray → b < w.heap.size → l.length < 4611686018427387904 → Calls P f (#[.slice (some ⟨b, 0, none⟩) l.length cap] ++ ex) w fun e w' => e = .returned (.tuple #[]) ∧ ∃ n os, w' = grow (putRow enc (Sort.ahead w n) b 0 (srt l).toArray) os)
    {x : PV} {H : Heap} {r : ORes} (h : sortRow (fun xs => (rd xs).map fun l => (srt l).map fun x => [.val (enc x)]) x H = some r) {g : G} {v : Value} {R : Value → World → Prop} (hW : WR g) (hH : g.H = H) (hv : VR g v x)
    (hR : ∀ g' v, g'.H = r.h → WR g' → Ext g g' → VR g' v r.v → R v g'.w) : Goes P f (#[v] ++ ex) g.w R := by
  subst hH
  unfold sortRow at h
  split at h
  · simp only [Option.some.injEq] at h; subst h
    obtain ⟨ad, cap, rfl, _⟩ := hv.inv_im
    refine goes_calls hE (hN ad cap g.w) ?_
    rintro e w' ⟨rfl, rfl⟩
    exact ⟨_, rfl, hR (g.room 1) _ rfl (wr_room hW 1) (ext_room hW 1) (.val _)⟩
  · rename_i r0 gg n
    split at h
    · rename_i xs hrow
      split at h
      · rename_i hc
        obtain ⟨rfl, hxn, hmost⟩ := hc
        split at h
        · rename_i ys hys
          simp only [Option.some.injEq] at h; subst h
          simp only [Option.map_eq_some_iff] at hys
          obtain ⟨l, hl, rfl⟩ := hys
          obtain rfl := hrd _ _ hl
          simp only [List.length_map] at hxn
          subst hxn
          have hm2 : l.length ≤ 68719476736 := hmost
          obtain ⟨b, cap, c, t, rfl, hcap, hir, hh, hcs, _, hxl, hxs, hrr⟩ := sl_inv hW hv hrow (by simp)
          simp only [List.length_map, Nat.mul_one] at hcs hxs hrr
          have hown : isOwn (g.H.at_ r0) := by rw [hrow]; trivial
          have rlt : r0 < g.H.n := hW.lt_n (by rw [hrow]; simp)
          have hcl : ∀ j, (hj : j < l.length) → c[j]? = some (enc l[j]) := by
            intro j hj
            obtain ⟨_, _, b', c', t', fr, q1, q2, q3, q4, q5, q6⟩ := hW.row r0 1 _ true hrow
            rw [hir] at q1; simp at q1; subst q1
            rw [hh] at q2; simp at q2; obtain ⟨rfl, rfl, rfl⟩ := q2
            obtain ⟨cv, k1, k2, k3⟩ := q6 j [.val (enc l[j])] 0 (.val (enc l[j])) (by simp [hj]) rfl
            obtain rfl := k3.inv_val
            simpa using k1
          have hHolds : Holds enc g.w b 0 l.toArray := fun j hj => by
            have hj' : j < l.length := by simpa using hj
            refine ⟨?_, frozen_cells hh _⟩
            rw [cell_of hh, Nat.zero_add, hcl j hj']
            simp [hj']
          refine goes_calls hE (hS b cap l g.w hHolds (lt_of_heap hh) (by omega)) ?_
          rintro e w' ⟨rfl, n, os, rfl⟩
          have hW1 := wr_room hW 1
          have hX1 := ext_room hW 1
          have hrow' : (g.room 1).H.at_ r0 = .row 1 (l.map fun x => [.val (enc x)]) true := grow_at _ _ _ rlt hrow
          have hown' : isOwn ((g.room 1).H.at_ r0) := by rw [hrow']; trivial
          obtain ⟨D, hD⟩ : ∃ D, D = (setL c.toList 0 ((srt l).map enc)).toArray := ⟨_, rfl⟩
          have hlen : 0 + ((srt l).map enc).length ≤ c.toList.length := by simp [hsl]; omega
          have hDs : D.size = c.size := by rw [hD]; simp only [List.size_toArray]; rw [setL_length _ _ _ hlen]; simp
          have hfit : Fits (g.room 1) D (.row 1 ((srt l).map fun x => [.val (enc x)]) true) := by
            refine ⟨rfl, by omega, by simp, by simp [hsl, hDs]; omega, fun i y j p hy hp => ?_⟩
            simp only [List.getElem?_map, Option.map_eq_some_iff] at hy
            obtain ⟨a, ha, rfl⟩ := hy
            have hj : j = 0 := by
              have := (List.getElem?_eq_some_iff.1 hp).1
              simp at this; exact this
            subst hj
            simp at hp; subst hp
            refine ⟨enc a, ?_, henc a, .val _⟩
            rw [hD]
            simp only [List.getElem?_toArray, Nat.mul_one, Nat.add_zero]
            rw [setL_get _ _ _ _ hlen]
            have hi := (List.getElem?_eq_some_iff.1 ha).1
            rw [if_pos ⟨by omega, by simp; omega⟩]
            simp [ha]
          have hhr : (g.room 1).w.heap[b]? = some (.cells c t (0, 0)) := hh
          have hbx : ¬ isBox ((g.room 1).H.at_ r0) := by rw [hrow']; exact fun h => h
          have w1 := wr_store hW1 r0 b c D t (.row 1 ((srt l).map fun x => [.val (enc x)]) true) hown' hir hhr hDs (fun hb => (hbx hb).elim) (by rw [hrow']; simp [rowLen, hsl]) (by rw [hrow']; rfl) hfit
          have x1 := ext_store (g := g.room 1) r0 b c D t (.row 1 ((srt l).map fun x => [.val (enc x)]) true) hown' hir hhr hDs (fun hb => (hbx hb).elim) (by rw [hrow']; simp [rowLen, hsl]) (by rw [hrow']; rfl)
          have hbel : Below ((g.room 1).stored r0 b D (.row 1 ((srt l).map fun x => [.val (enc x)]) true)).w.heap.size ((g.room 1).stored r0 b D (.row 1 ((srt l).map fun x => [.val (enc x)]) true)).w (grow (putRow enc (Sort.ahead g.w n) b 0 (srt l).toArray) os) := by
            refine ⟨rfl, rfl, rfl, by simp [grow, putRow, mapBlock, G.stored, G.room, World.setRow], fun k hk => ?_⟩
            have hk' : k < g.w.heap.size := by simpa [G.stored, G.room, World.setRow] using hk
            have e1 : (grow (putRow enc (Sort.ahead g.w n) b 0 (srt l).toArray) os).heap[k]? = (putRow enc (Sort.ahead g.w n) b 0 (srt l).toArray).heap[k]? := heap_grow_old _ _ (by simpa [putRow, mapBlock] using hk')
            rw [e1]
            by_cases hkb : k = b
            · subst hkb
              rw [putRow_heap enc g.w k n (srt l) c t hh (by rw [hsl]; exact hxs), ← hD]
              exact (setRow_heap _ _ _ _ _ _ hh).symm
            · rw [putRow_else _ _ _ _ _ _ hkb]
              exact (setRow_other _ _ _ _ hkb).symm
          obtain ⟨g', e1, e2, e3, e4, e5⟩ := grown_g w1 hbel
          exact ⟨_, rfl, e1 ▸ hR g' _ (by rw [e2]; rfl) e3 (hX1.trans (x1.trans e4)) (.val _)⟩
        · cases h
      · cases h
    · cases h
  · cases h
theorem strs_map : ∀ xs l, strs xs = some l → xs = l.map fun x : List UInt8 => [.val (.string ⟨x.toArray⟩)]
  | [], l, h => by simp [strs] at h; subst h; rfl
  | y :: ys, l, h => by
    unfold strs at h
    split at h
    · rename_i e; cases e
    · rename_i s r e
      simp only [List.cons.injEq] at e
      obtain ⟨rfl, rfl⟩ := e
      simp only [Option.map_eq_some_iff] at h
      obtain ⟨l', h1, rfl⟩ := h
      rw [strs_map _ _ h1]
      rfl
    · cases h
theorem ints_map : ∀ xs l, ints xs = some l → xs = l.map fun x : Int => [.val (.int .i64 x)]
  | [], l, h => by simp [ints] at h; subst h; rfl
  | y :: ys, l, h => by
    unfold ints at h
    split at h
    · rename_i e; cases e
    · rename_i s r e
      simp only [List.cons.injEq] at e
      obtain ⟨rfl, rfl⟩ := e
      simp only [Option.map_eq_some_iff] at h
      obtain ⟨l', h1, rfl⟩ := h
      rw [ints_map _ _ h1]
      rfl
    · cases h
end Go.Evl.Zone

namespace Go.Evl.Zone
open Go Go.Evl Go.Evl.Fl
attribute [local simp] VB_ite VG_ite
variable {P : Program}
end Go.Evl.Zone

namespace Go.Evl.Zone
open Go Go.Evl Go.Evl.Fl
attribute [local simp] VB_ite VG_ite
variable {P : Program}
def boolsV (t : List Bool) : List (List PV) := t.map fun b => [.val (.bool b)]
end Go.Evl.Zone

namespace Go.Evl.Zone
open Go Go.Evl Go.Evl.Fl
attribute [local simp] VB_ite VG_ite
variable {P : Program}
structure SI where
  op : Int
  x : Int
  y : Int
  s : Int
  re : Nat
  im : Nat
  sz : Nat
def SI.ok (q : SI) : Prop := Is q.re q.x ∧ Is q.im q.y ∧ Is q.sz q.s
def SI.cells (q : SI) : List PV := [.val (.int .i64 q.op), .val (.complex .f64 q.re q.im), .val (.float .f64 q.sz)]
end Go.Evl.Zone

namespace Go.Evl.Zone
open Go Go.Evl Go.Evl.Fl
attribute [local simp] VB_ite VG_ite
variable {P : Program}
theorem boolsV_length (t : List Bool) : (boolsV t).length = t.length := by simp [boolsV]
end Go.Evl.Zone

namespace Go.Evl.Zone
open Go Go.Evl Go.Evl.Fl
attribute [local simp] VB_ite VG_ite
variable {P : Program}
@[simp] theorem freeze_nil (H : Heap) : freeze H [] = H := rfl
end Go.Evl.Zone

namespace Go.Evl.Zone
open Go Go.Evl Go.Evl.Fl
attribute [local simp] VB_ite VG_ite
variable {P : Program}
end Go.Evl.Zone

namespace Go.Evl.Zone
open Go Go.Evl Go.Evl.Fl
attribute [local simp] VB_ite VG_ite
variable {P : Program}
structure RS where
  op : Int
  x : Int
  y : Int
  s : Int
  deriving DecidableEq
def RS.cells (q : RS) : List PV := [.val (.int .i64 q.op), .val (.int .i64 q.x), .val (.int .i64 q.y), .val (.int .i64 q.s)]
end Go.Evl.Zone

namespace Go.Evl.Zone
open Go Go.Evl Go.Evl.Fl
attribute [local simp] VB_ite VG_ite
variable {P : Program}
end Go.Evl.Zone

namespace Go.Evl.Zone
open Go Go.Evl Go.Evl.Fl
attribute [local simp] VB_ite VG_ite
variable {P : Program}
end Go.Evl.Zone

namespace Go.Evl.Zone
open Go Go.Evl Go.Evl.Fl
attribute [local simp] VB_ite VG_ite
variable {P : Program}
end Go.Evl.Zone

namespace Go.Evl.Zone
open Go Go.Evl Go.Evl.Fl
variable {P : Program}
end Go.Evl.Zone

namespace Go.Evl.Zone
open Go Go.Evl Go.Evl.Fl
variable {P : Program}
def Tr (H : Heap) (v : PV) (t : List Bool) : Prop := (v = .im [] true ∧ t = []) ∨ ∃ r xs, Rw H 1 v (boolsV t) r xs
theorem Tr.lst {H : Heap} {v : PV} {t : List Bool} (h : Tr H v t) : Lst H 1 v (boolsV t) := by
  rcases h with ⟨rfl, rfl⟩ | ⟨r, xs, h⟩
  · exact Lst.nil
  · exact h.lst
theorem Tr.len {H : Heap} {v : PV} {t : List Bool} (h : Tr H v t) : lenP false v = some t.length := by
  rw [h.lst.len, boolsV_length]
end Go.Evl.Zone

namespace Go.Evl.Zone
open Go Go.Evl Go.Evl.Fl
variable {P : Program}
end Go.Evl.Zone

namespace Go.Evl.Zone
open Go Go.Evl Go.Evl.Fl
variable {P : Program}
end Go.Evl.Zone

namespace Go.Evl.Zone
open Go Go.Evl Go.Evl.Fl
variable {P : Program}
def RS.small (q : RS) : Bool := !(decide (q.x > 1099511627776) || decide (q.x < -1099511627776) || decide (q.y > 1099511627776) || decide (q.y < -1099511627776) || decide (q.s > 1099511627776) || decide (q.s < -1099511627776))
end Go.Evl.Zone

namespace Go.Evl.Zone
open Go Go.Evl Go.Evl.Fl
variable {P : Program}
end Go.Evl.Zone

namespace Go.Evl.Zone
open Go Go.Evl Go.Evl.Fl
variable {P : Program}
end Go.Evl.Zone

namespace Go.Evl.Zone
open Go Go.Evl Go.Evl.Fl
variable {P : Program}
end Go.Evl.Zone

namespace Go.Evl.Zone
open Go Go.Evl Go.Evl.Fl
variable {P : Program}
end Go.Evl.Zone

namespace Go.Evl.Zone
open Go Go.Evl Go.Evl.Fl
variable {P : Program}
end Go.Evl.Zone

namespace Go.Evl.Zone
open Go Go.Evl Go.Evl.Fl
variable {P : Program}
end Go.Evl.Zone
