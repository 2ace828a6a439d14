/- The evaluator's texts ZPOK to ZN8, joined. -/
import Derived.Test.YtcphhjlnfckoiaaGreatEv4
import Derived.Calls
import Derived.Below
import Derived.Sort.Grow
import Derived.Deep.Draws
import Derived.Lib.ConvBytes
import Derived.Shelf.Abstract
import Derived.Lib.LaidTab
import GoSem.Extern.MathFloor
import Derived.Lib.Bytealg
import Derived.Test.YtcphhjlnfckoiaaGreatChecked
import Derived.Lib.LaidU8
import Derived.Lib.LaidIn
import Derived.Deep.DeepWitnessRowRef
import Derived.ProofKit
import Derived.Test.YtcphhjlnfckoiaaGreatShelf
import Derived.Test.YtcphhjlnfckoiaaGreatRows
import Derived.Laws.BitsLemmas
import Derived.Lib.Strings
set_option linter.all false
set_option linter.deprecated false
set_option linter.unusedVariables false
set_option linter.unusedSimpArgs false
set_option linter.unnecessarySimpa false
namespace Go.Evl.Zone
open Go Go.Evl Go.RowKit Go.Sort
def PSound (P : Program) (Inv : G → Prop) (f : FuncId) (p : List PV → Heap → Option ORes) : Prop := ∀ args H r, p args H = some r → ∀ (g : G) (vs : List Value) (R : Value → World → Prop), WR g → Inv g → g.H = H → Cs g vs args →
    (∀ g' v, g'.H = r.h → WR g' → Ext g g' → VR g' v r.v → R v g'.w) → Goes P f vs.toArray g.w R
theorem goes_calls {P : Program} {f : FuncId} {args : Array Value} {w : World} {R : Value → World → Prop} {Q : Ending → World → Prop} (hE : Go.Proofs.Enters P f) (h : Calls P f args w Q) (hq : ∀ e w', Q e w' → ∃ v, e = .returned v ∧ R v w') : Goes P f args w R := by
  unfold Goes
  rw [hE args w]
  refine h.mono fun e w' hx => ?_
  obtain ⟨v, rfl, hr⟩ := hq e w' hx
  exact hr
theorem grown_g {g : G} (hW : WR g) {w' : World} (hb : Below g.w.heap.size g.w w') : ∃ g' : G, g'.w = w' ∧ g'.H = g.H ∧ WR g' ∧ Ext g g' ∧ ∀ b, g.w.heap.size ≤ b → b < w'.heap.size → g'.Z b := by
  obtain ⟨h1, h2⟩ := grow_world hW w' (fun b => g.w.heap.size ≤ b ∧ b < w'.heap.size) hb.size hb.block (fun b h => h) ⟨hb.os, hb.tape, hb.output⟩
  exact ⟨⟨w', fun b => g.Z b ∨ (g.w.heap.size ≤ b ∧ b < w'.heap.size), g.ι, g.H⟩, rfl, rfl, h1, h2, fun b h h' => .inr ⟨h, h'⟩⟩
theorem elems_slice {g : G} (hW : WR g) {v : Value} {p : PV} (hv : VR g v p) (hp : ∀ x, p ≠ .val x) {k : Nat} {ys : List (List PV)} {is : List Nat} (h : elems g.H k p = some (ys, is)) :
    ∃ (ad : Option Addr) (c : Nat), v = .slice ad ys.length c ∧ ys.length ≤ c ∧ (ys ≠ [] → ∃ (b o : Nat) (news : List Value), ad = some ⟨b, o, none⟩ ∧ b < g.w.heap.size ∧ RR g k news ys ∧ ∀ (j : Nat) u, news[j]? = some u → g.w.cell? ⟨b, o + j, none⟩ = some u) := by
  unfold elems at h
  split at h
  · rename_i xs full
    split at h
    · rename_i hall
      simp at h; obtain ⟨rfl, rfl⟩ := h
      obtain ⟨ad, cap, rfl, _, hcap, hat⟩ := hv.inv_im
      refine ⟨ad, cap, rfl, hcap, fun hne => ?_⟩
      obtain ⟨k', b, off, c, t, fr, cv, rfl, hZ, hb, hk, hno, hc, hh⟩ := hat hne
      have hkk : k = k' := allLen_eq hall hne hk
      subst hkk
      have key : ∀ (q : Nat) (p : PV), xs.flatten[q]? = some p → ∃ u, g.w.cell? ⟨b, off + q, none⟩ = some u ∧ (VR g u p ∧ u.oneCell' = true) := by
        intro q p hq
        obtain ⟨hk0, x, h1, h2⟩ := flat_get' hk hq
        have h3 := hc _ x _ p h1 h2
        rw [Nat.add_assoc, Nat.mul_comm, Nat.div_add_mod] at h3
        exact ⟨_, by rw [cell_of hb]; exact h3.1, hh _ x _ p h1 h2, h3.2⟩
      obtain ⟨news, n1, n2⟩ := cells_of (g := g) (ps := xs.flatten) (ad := fun q => g.w.cell? ⟨b, off + q, none⟩) (fun q p hq => let ⟨u, z1, z2⟩ := key q p hq; ⟨u, z1, z2.1⟩)
      refine ⟨b, off, news, rfl, lt_of_heap hb, ⟨n1, hk, fun u hu => ?_⟩, n2⟩
      obtain ⟨q, hq⟩ := List.mem_iff_getElem?.1 hu
      have hq' : q < xs.flatten.length := by rw [← n1.1]; exact (List.getElem?_eq_some_iff.1 hq).1
      obtain ⟨u', z1, z2⟩ := key q _ (List.getElem?_eq_getElem hq')
      rw [n2 q u hq] at z1; simp at z1; subst z1; exact z2.2
    · simp at h
  · rename_i r k' gen off len
    split at h
    · rename_i k'' xs own hb
      split at h
      · rename_i hcond
        obtain ⟨rfl, rfl, rfl, hle⟩ := hcond
        simp at h; obtain ⟨rfl, rfl⟩ := h
        cases hv with
        | sl ad _ _ _ _ _ cap hlc hg hh =>
          obtain ⟨a1, a2, b, c, t, fr, q1, q2, q3, q4, q5, q6⟩ := hW.row r k xs own hb
          have hval : Valid g r k xs.length b := ⟨q1, by rw [hb]; rfl, by rw [hb]; rfl⟩
          obtain ⟨e1, _⟩ := hh b hval
          subst e1
          have hrr := row_rr a2 q5 q6
          have hsub := (hrr.drop off).take len
          have hlen : ((xs.drop off).take len).length = len := by simp; omega
          refine ⟨_, cap, by rw [hlen], by rw [hlen]; exact hlc, fun _ => ⟨b, off * k, _, rfl, lt_of_heap q2, hsub, fun j u hj => ?_⟩⟩
          rw [List.getElem?_take] at hj
          split at hj
          · rw [List.getElem?_drop, List.getElem?_take] at hj
            split at hj
            · rw [cell_of q2]; simpa using hj
            · simp at hj
          · simp at hj
      · simp at h
    · simp at h
  · exact absurd rfl (hp _)
  · exact absurd rfl (hp _)
  · simp at h
variable {P : Program} {Inv : G → Prop}
theorem cs_one {g : G} {vs : List Value} {p : PV} (h : Cs g vs [p]) : ∃ v, vs = [v] ∧ VR g v p := by
  obtain ⟨v, h1, h2⟩ := h.get (i := 0) (p := p) rfl
  have := h.1
  match vs, this, h1 with
  | [x], _, h1 => simp at h1; exact ⟨v, by rw [h1], h2⟩
theorem cs_two {g : G} {vs : List Value} {p q : PV} (h : Cs g vs [p, q]) : ∃ v u, vs = [v, u] ∧ VR g v p ∧ VR g u q := by
  obtain ⟨v, h1, h2⟩ := h.get (i := 0) (p := p) rfl
  obtain ⟨u, h3, h4⟩ := h.get (i := 1) (p := q) rfl
  have := h.1
  match vs, this, h1, h3 with
  | [x, y], _, h1, h3 => simp at h1 h3; exact ⟨v, u, by rw [h1, h3], h2, h4⟩
theorem split_ok {f : FuncId} {t : TypeId} (hE : Go.Proofs.Enters P f) (hC : ∀ g, Inv g → ∀ (s sep : ByteArray), s.size < 4294967281 → 1 ≤ sep.size → Calls P f #[.string s, .string sep] g.w fun e w' =>
      e = .returned (.slice (some ⟨g.w.heap.size, 0, none⟩) (Lib.countB s sep + 1) (Lib.countB s sep + 1)) ∧ w' = g.w.alloc (.cells ((Lib.splitB sep 0 (Lib.countB s sep) s).map Value.string).toArray t)) : PSound P Inv f pSplit := by
  intro args H r h g vs R hW hI hH ha hR
  unfold pSplit at h
  split at h
  · rename_i s p
    split at h
    · rename_i c hc
      split at h
      · rename_i hs
        simp at h; subst h
        obtain ⟨v, u, rfl, h1, h2⟩ := cs_two ha
        obtain rfl := h1.inv_val
        obtain rfl := h2.inv_val
        have hp1 : 1 ≤ p.size := by
          have : p.size = p.data.toList.length := (Array.length_toList (xs := p.data)).symm
          rw [this, hc]; simp
        refine goes_calls hE (hC g hI s p hs hp1) ?_
        rintro e w' ⟨rfl, hw⟩
        refine ⟨_, rfl, ?_⟩
        generalize hL : Lib.splitB p 0 (Lib.countB s p) s = L at hw
        have hlen : L.length = Lib.countB s p + 1 := by rw [← hL]; exact Lib.splitB_all p hp1 0 _ s rfl
        have hLL : L.map (·.data.toList) = splitL c s.data.toList := by rw [← hL]; exact splitB_lib hc
        have hbel : Below g.w.heap.size g.w w' := hw ▸ (Below.refl _ _).alloc (Nat.le_refl _) _
        obtain ⟨g', e1, e2, e3, e4, e5⟩ := grown_g hW hbel
        have hnew : g'.w.heap[g.w.heap.size]? = some (.cells (L.map Value.string).toArray t (0, 0)) := by
          rw [e1, hw]; exact heap_alloc_new g.w _
        have hx : ((splitL c s.data.toList).map fun x => [strOf x]) = L.map fun x => [PV.val (.string x)] := by
          rw [← hLL, List.map_map]
          refine List.map_congr_left fun x _ => ?_
          simp [strOf]
        refine e1 ▸ hR g' _ (by rw [e2, hH]) e3 e4 ?_
        rw [← hlen, hx]
        refine VR.mk_im (by simp) (by simp) (by simp) fun _ => ⟨1, g.w.heap.size, 0, _, t, _, fun i j => ((L.map Value.string)[i]?).getD undef, rfl, e5 _ (Nat.le_refl _) (lt_of_heap (e1 ▸ hnew)), hnew, ?_, ?_, ?_, ?_⟩
        · intro x hx; simp at hx; obtain ⟨c, _, rfl⟩ := hx; rfl
        · intro x hx p hp; simp at hx; obtain ⟨c, _, rfl⟩ := hx; simp at hp; subst hp; exact .val _
        all_goals
          intro i x j p hx hp
          simp only [List.getElem?_map, Option.map_eq_some_iff] at hx
          obtain ⟨c, hc, rfl⟩ := hx
          have hj : j = 0 := by have := (List.getElem?_eq_some_iff.1 hp).1; simp at this; omega
          subst hj
          simp at hp; subst hp
          have hat : (L.map Value.string)[i]? = some (.string c) := by simp [hc]
          first
            | exact ⟨by simp [hc], by simp [hc, Value.oneCell']⟩
            | (simp only [hat, Option.getD_some]; exact .val _)
      · simp at h
    · simp at h
  · simp at h
theorem goes_val {f : FuncId} {args : Array Value} {g : G} {x : Value} {H : Heap} {R : Value → World → Prop} {Q : Ending → World → Prop} (hE : Go.Proofs.Enters P f) (h : Calls P f args g.w Q) (hW : WR g) (hH : g.H = H)
    (hq : ∀ e w', Q e w' → e = .returned x ∧ Below g.w.heap.size g.w w') (hR : ∀ g' v, g'.H = H → WR g' → Ext g g' → VR g' v (.val x) → R v g'.w) : Goes P f args g.w R := by
  refine goes_calls hE h fun e w' hx => ?_
  obtain ⟨he, hb⟩ := hq e w' hx
  obtain ⟨g', e1, e2, e3, e4, e5⟩ := grown_g hW hb
  exact ⟨x, he, e1 ▸ hR g' x (by rw [e2, hH]) e3 e4 (.val x)⟩
theorem below_grow (w : World) (k : Nat) (os : Array Obj) : Below w.heap.size w (grow (w.drewN k) os) :=
  ⟨rfl, rfl, rfl, by simp [grow, World.drewN], fun b hb => by
    show (w.heap ++ os)[b]? = _
    rw [Array.getElem?_append, if_pos hb]⟩
theorem itoa_ok {f : FuncId} (hE : Go.Proofs.Enters P f) (hC : ∀ g, Inv g → ∀ n : Int, -9223372036854775808 ≤ n → n ≤ 9223372036854775807 → Calls P f #[.int .i64 n] g.w fun e w' => e = .returned (.string ⟨(Lib.itoa n).toArray⟩) ∧ ∃ k os, w' = grow (g.w.drewN k) os) : PSound P Inv f pItoa := by
  intro args H r h g vs R hW hI hH ha hR
  unfold pItoa at h
  split at h
  · rename_i n
    split at h
    · rename_i hn
      simp at h; subst h
      obtain ⟨v, rfl, h1⟩ := cs_one ha
      obtain rfl := h1.inv_val
      refine goes_val (x := .string ⟨(itoaL n).toArray⟩) hE (hC g hI n hn.1 hn.2) hW hH ?_ hR
      rintro e w' ⟨rfl, k, os, rfl⟩
      exact ⟨by rw [itoaL_lib hn.1 hn.2], below_grow _ _ _⟩
    · simp at h
  · simp at h
theorem join_ok {f : FuncId} (hE : Go.Proofs.Enters P f) (hN : ∀ (g : G) (a : Option Addr) (c : Nat) (sep : ByteArray), Calls P f #[.slice a 0 c, .string sep] g.w fun e w' => e = .returned (.string ⟨#[]⟩) ∧ w' = g.w)
    (hC : ∀ (g : G) (bk o c : Nat) (xs : List ByteArray) (sep : ByteArray), (∀ (j : Nat) x, xs[j]? = some x → g.w.cell? ⟨bk, o + j, none⟩ = some (.string x)) → bk < g.w.heap.size → xs.length ≤ 140737488355328 → xs.length ≤ c → (Lib.join (xs.map (·.data.toList)) sep.data.toList).length ≤ 140737488355328 →
      Calls P f #[.slice (some ⟨bk, o, none⟩) xs.length c, .string sep] g.w fun e w' => e = .returned (.string ⟨(Lib.join (xs.map (·.data.toList)) sep.data.toList).toArray⟩) ∧ Below g.w.heap.size g.w w') : PSound P Inv f pJoin := by
  intro args H r h g vs R hW hI hH ha hR
  unfold pJoin at h
  split at h
  · simp at h
  · rename_i x p hnv
    split at h
    · rename_i xs is hel
      split at h
      · rename_i l hl
        split at h
        · rename_i hcond
          simp at h; subst h
          obtain ⟨v, u, rfl, h1, h2⟩ := cs_two ha
          obtain rfl := h2.inv_val
          subst hH
          obtain ⟨ad, c, rfl, hlc, hat⟩ := elems_slice hW h1 (fun x0 hx0 => hnv x0 hx0) hel
          have hstr : ∀ (xs : List (List PV)) (l : List (List UInt8)), strs xs = some l → xs = l.map fun x => [strOf x] := by
            intro xs
            induction xs with
            | nil => intro l h; simp [strs] at h; subst h; rfl
            | cons y ys ih =>
              intro l h
              unfold strs at h
              split at h
              · rename_i heq; simp at heq
              · rename_i s r heq
                simp at heq; obtain ⟨rfl, rfl⟩ := heq
                simp only [Option.map_eq_some_iff] at h
                obtain ⟨l', h', rfl⟩ := h
                rw [ih l' h']; simp [strOf]
              · simp at h
          have hxs := hstr xs l hl
          cases hne : xs with
          | nil =>
            have hl0 : l = [] := by rw [hne] at hxs; simpa using hxs.symm
            subst hl0
            rw [show ([] : List (List PV)).length = 0 from rfl]
            refine goes_val (x := .string ⟨#[]⟩) hE (hN g ad c p) hW rfl ?_ hR
            rintro e w' ⟨rfl, rfl⟩
            exact ⟨rfl, Below.refl _ _⟩
          | cons y ys =>
            obtain ⟨b, o, news, rfl, hbl, hrr, hcell⟩ := hat (by rw [hne]; simp)
            rw [← hne]
            have hlen : (l.map fun x => (⟨x.toArray⟩ : ByteArray)).length = xs.length := by rw [hxs]; simp
            rw [← hlen]
            have hmm : (l.map fun x => (⟨x.toArray⟩ : ByteArray)).map (·.data.toList) = l := by rw [List.map_map]; exact (List.map_congr_left fun x _ => by simp).trans (List.map_id l)
            generalize hL : (l.map fun x => (⟨x.toArray⟩ : ByteArray)) = L at hlen hmm
            have hLl : L.length ≤ 140737488355328 := by rw [← hL, List.length_map]; exact hcond.1
            have hLc : L.length ≤ c := by rw [hlen]; exact hlc
            have hLj : (Lib.join (L.map (·.data.toList)) p.data.toList).length ≤ 140737488355328 := by rw [hmm, ← joinL_lib]; exact hcond.2
            have hcells : ∀ (j : Nat) x, L[j]? = some x → g.w.cell? ⟨b, o + j, none⟩ = some (.string x) := by
              intro j x hx
              rw [← hL] at hx
              have hflat : xs.flatten = l.map strOf := by
                rw [hxs]
                have : ∀ l : List (List UInt8), (l.map fun x => [strOf x]).flatten = l.map strOf := by
                  intro l
                  induction l with
                  | nil => rfl
                  | cons a l ih => simp only [List.map_cons, List.flatten_cons, ih]; rfl
                exact this l
              obtain ⟨z, hz⟩ : ∃ z, l[j]? = some z ∧ (⟨z.toArray⟩ : ByteArray) = x := by simpa using hx
              have hfj : xs.flatten[j]? = some (strOf z) := by rw [hflat]; simp [hz.1]
              obtain ⟨cv, c1, c2⟩ := hrr.cs.get hfj
              have := c2.inv_val
              rw [hcell j cv c1, this, ← hz.2]
            have hcall := hC g b o c L p hcells hbl hLl hLc hLj
            rw [hmm, ← joinL_lib] at hcall
            exact goes_val (x := .string ⟨(joinL p.data.toList l).toArray⟩) hE hcall hW rfl (fun e w' h => h) hR
        · simp at h
      · simp at h
    · simp at h
  · simp at h
theorem below_bytes (w : World) (e : TypeId) (s : ByteArray) : Below w.heap.size w (Lib.bytesWorld w e s) := by
  have h1 : ((w.drew.alloc (.cells (Lib.bytesCells w e s) e)).heap).size = w.heap.size + 1 := by simp
  unfold Lib.bytesWorld World.freeze
  simp only [Nat.one_ne_zero, if_false]
  refine ⟨rfl, rfl, rfl, ?_, fun b hb => ?_⟩
  · simp only [Array.size_modify]; omega
  · simp only [Array.getElem?_modify]
    rw [if_neg (by omega)]
    exact Below.heap_alloc w.drew _ b hb
theorem atoi_ok {f : FuncId} {t : TypeId} {ti : TypeId} (hE : Go.Proofs.Enters P f)
    (hC : ∀ (g : G) (s : ByteArray), s.size ≤ 9223372036854775806 → ∀ v : Int, Lib.atoiAll s.data.toList = .ok v → Calls P f #[.string s] g.w fun e w' => e = .returned (.tuple #[.int .i64 v, .nilIface]) ∧ (w' = g.w ∨ ∃ t', w' = Lib.bytesWorld g.w t t'))
    (hS : ∀ g, Inv g → ∀ (s : ByteArray), s.size ≤ 281474976710656 → (∀ v, Lib.atoiAll s.data.toList ≠ .ok v) → Lib.atoiAll s.data.toList ≠ .range → Calls P f #[.string s] g.w fun e w' => (∃ N, e = .returned (.tuple #[.int .i64 (0), .iface ti (.pointer (some ⟨N, 0, none⟩))])) ∧ Below g.w.heap.size g.w w')
    (hR : ∀ g, Inv g → ∀ (s : ByteArray), s.size ≤ 281474976710656 → Lib.atoiAll s.data.toList = .range → Calls P f #[.string s] g.w fun e w' => (∃ N, e = .returned (.tuple #[.int .i64 (Lib.atoiSat s.data.toList), .iface ti (.pointer (some ⟨N, 0, none⟩))])) ∧ Below g.w.heap.size g.w w') : PSound P Inv f pAtoi := by
  intro args H r h g vs R hW hI hH ha hQ
  unfold pAtoi at h
  split at h
  · rename_i s
    split at h
    · rename_i hs
      split at h
      · rename_i v hv
        simp at h; subst h
        obtain ⟨u, rfl, h1⟩ := cs_one ha
        obtain rfl := h1.inv_val
        refine goes_calls hE (hC g s (by omega) v hv) ?_
        rintro e w' ⟨rfl, hw⟩
        have hb : Below g.w.heap.size g.w w' := by
          rcases hw with rfl | ⟨t', rfl⟩
          · exact Below.refl _ _
          · exact below_bytes _ _ _
        obtain ⟨g', e1, e2, e3, e4, e5⟩ := grown_g hW hb
        exact ⟨_, rfl, e1 ▸ hQ g' _ (by rw [e2, hH]) e3 e4 (VR.of_tup (Cs.cons (.val _) (Cs.cons (.val _) (Cs.nil _))))⟩
      · rename_i hv
        simp at h; subst h
        obtain ⟨u, rfl, h1⟩ := cs_one ha
        obtain rfl := h1.inv_val
        refine goes_calls hE (hR g hI s hs hv) ?_
        rintro e w' ⟨⟨N, rfl⟩, hb⟩
        obtain ⟨g', e1, e2, e3, e4, e5⟩ := grown_g hW hb
        exact ⟨_, rfl, e1 ▸ hQ g' _ (by rw [e2, hH]) e3 e4 (VR.of_tup (Cs.cons (.val _) (Cs.cons (.ifc _ _) (Cs.nil _))))⟩
      · rename_i hv1 hv2
        simp at h; subst h
        obtain ⟨u, rfl, h1⟩ := cs_one ha
        obtain rfl := h1.inv_val
        refine goes_calls hE (hS g hI s hs hv1 hv2) ?_
        rintro e w' ⟨⟨N, rfl⟩, hb⟩
        obtain ⟨g', e1, e2, e3, e4, e5⟩ := grown_g hW hb
        exact ⟨_, rfl, e1 ▸ hQ g' _ (by rw [e2, hH]) e3 e4 (VR.of_tup (Cs.cons (.val _) (Cs.cons (.ifc _ _) (Cs.nil _))))⟩
    · simp at h
  · simp at h
theorem trunc_ok {f : FuncId} (hC : ∀ (x : Nat) (w : World) (args : Array Value), (callFunc f args).run P w = (do return Next.value (← Extern.MathFloor.toIntegral "math.archTrunc" .zero args) : Sem Next).run P w) : PSound P Inv f pTrunc := by
  intro args H r h g vs R hW hI hH ha hR
  unfold pTrunc at h
  split at h
  · rename_i b
    split at h
    · simp at h
    · rename_i d hd
      simp at h; subst h
      obtain ⟨u, rfl, h1⟩ := cs_one ha
      obtain rfl := h1.inv_val
      have hrun : (callFunc f [Value.float .f64 b].toArray).run P g.w = .ok (.value (.float .f64 (FloatKind.f64.encode ((FloatKind.f64.decode b).integral .zero)))) g.w := by
        rw [hC b]
        simp only [Sem.run_bind]
        have key : ∀ e, FloatKind.f64.decode b = e → (∀ s t, e ≠ .nan s t) → Extern.MathFloor.toIntegral "math.archTrunc" .zero [Value.float .f64 b].toArray = pure (.float .f64 (FloatKind.f64.encode (e.integral .zero))) := by
          intro e he hn
          unfold Extern.MathFloor.toIntegral
          show (match FloatKind.f64.decode b with
            | .nan s t => _
            | d => (pure (Value.float .f64 (FloatKind.f64.encode (d.integral .zero))) : Sem Value)) = _
          rw [he]
          cases e with
          | nan s t => exact (hn s t rfl).elim
          | number _ _ _ => rfl
          | infinity _ => rfl
        rw [key _ rfl (fun s t hx => hd s t hx)]
        rfl
      unfold Goes
      rw [hrun]
      exact hR g _ hH hW (Ext.refl g) (.val _)
  · simp at h
end Go.Evl.Zone

namespace Go.Evl.Zone
open Go Go.Evl Go.Evl.Fl
attribute [local simp] VB_ite VG_ite
variable {P : Program}
structure Typed (P : Program) : Prop where
  t3 : P.underlying 3 = some (.int .i64)
  t5 : P.underlying 5 = some (.int .u8)
  t53 : P.underlying 40 = some (.int .u64)
  t41 : P.underlying 97 = some (.float .f64)
theorem ownE {f g : FuncId} {xs : List O} {dst : Option Nat} {rest : List CI} {i slot slot' : Nat} {log : Log} {d : Option (Nat × List (Nat × Nat))} {K : Ex → St → Prop} {st : St} {ks : List Fr'} (hp : (prim f g).isNone = true) (hh : (inlF g || keepF f g) = false) :
    VA (env P) f (.call (.c (.fn g [])) xs) dst rest i slot slot' st log d ks K ↔ VP (env P) f (ownA (env P) g st.h (expAs st.h (xs.map (evO st.σ)))) dst rest i slot' st log d ks K := VA_own hp (by simp only [Bool.or_eq_false_iff] at hh; simp [env, howF, hh.1, hh.2])
@[simp] theorem env_P : (env P).P = P := rfl
attribute [simp] VA_pop ret1 nAlloc allocs start expV expA expC expCs expAs flatV flatA flatC ownE prim frozF inlF keepF Value.oneCell' cellP cellsOf loadC_ptr loadC_ip loadC_rp loadP_ob storeC_ptr storeC_rp fillP setL slice0 ordered look apart hits
theorem evBin_ford {t : TypeId} {cx cy : Bool} {a b : Nat} {m n : Int} (ha : Is a m) (hb : Is b n) :
    evBin P .geq t cx cy (.val (.float .f64 a)) (.val (.float .f64 b)) = some (.val (.bool (decide (n ≤ m)))) ∧
    evBin P .leq t cx cy (.val (.float .f64 a)) (.val (.float .f64 b)) = some (.val (.bool (decide (m ≤ n)))) ∧
    evBin P .eql t cx cy (.val (.float .f64 a)) (.val (.float .f64 b)) = some (.val (.bool (decide (m = n)))) := by
  have ho : FloatKind.f64.format.order a b = some (compare m n) := ha.order hb
  rw [evBin_fgeq, evBin_fleq, evBin_feql, ho]
  simp only [compare, compareOfLessAndEq]
  rcases Int.lt_trichotomy m n with h | h | h
  · have h1 : ¬ n ≤ m := by omega
    have h2 : m ≤ n := by omega
    have h3 : ¬ m = n := by omega
    simp [h, h1, h2, h3]
  · subst h; simp
  · have h0 : ¬ m < n := by omega
    have h1 : n ≤ m := by omega
    have h2 : ¬ m ≤ n := by omega
    have h3 : ¬ m = n := by omega
    simp [h0, h1, h2, h3]
theorem pTrunc_is {b : Nat} {n : Int} {H : Heap} (h : Is b n) : pTrunc [.val (.float .f64 b)] H = some ⟨.val (.float .f64 b), H, [], some []⟩ := by
  have h1 := h.integral
  unfold pTrunc
  simp only
  split
  · rename_i s t hd; rw [hd] at h1; simp [Ieee.Datum.isNaN] at h1
  · rw [h1.1]
theorem trunc_is {b : Nat} {n : Int} (h : Is b n) : ans (env P) 103 [.val (.float .f64 b)] = some (.val (.float .f64 b)) := by
  refine ans_V rfl rfl ?_
  simp [c103, VA_prim (E := env P) (g := 136) (p := pTrunc) rfl, pTrunc_is h]
theorem wholeTo_is {x lo hi : Nat} {m l h : Int} (hx : Is x m) (hl : Is lo l) (hh : Is hi h) : ans (env P) 67 [.val (.float .f64 x), .val (.float .f64 lo), .val (.float .f64 hi)] = some (.val (.bool (decide (l ≤ m) && decide (m ≤ h)))) := by
  refine ans_V rfl rfl ?_
  by_cases h1 : l ≤ m
  · by_cases h2 : m ≤ h
    · simp [c67, (evBin_ford hx hl).1, (evBin_ford hx hh).2.1, (evBin_ford hx hx).2.2, h1, h2, trunc_is hx]
    · simp [c67, (evBin_ford hx hl).1, (evBin_ford hx hh).2.1, h1, h2]
  · simp [c67, (evBin_ford hx hl).1, h1]
theorem is_const {n : Int} {b : Nat} (h : FloatKind.f64.nearest n = b) (hn : n.natAbs < 2 ^ 53) : Is b n := h ▸ Is.nearest hn
theorem is0 : Is 0 0 := is_const (n := 0) (by decide +kernel) (by decide)
theorem isM1000 : Is 13875379345695965184 (-1000) := is_const (n := -1000) (by decide +kernel) (by decide)
theorem is1000 : Is 4652007308841189376 1000 := is_const (n := 1000) (by decide +kernel) (by decide)
theorem is2000 : Is 4656510908468559872 2000 := is_const (n := 2000) (by decide +kernel) (by decide)
theorem is2M : Is 4701340746312056832 2000000 := is_const (n := 2000000) (by decide +kernel) (by decide)
theorem isM2M : Is 13924712783166832640 (-2000000) := is_const (n := -2000000) (by decide +kernel) (by decide)
def near (m : Int) : Bool := decide (-1000 ≤ m) && decide (m ≤ 1000)
theorem whole_is {a b : Nat} {m n : Int} (ha : Is a m) (hb : Is b n) : ans (env P) 29 [.val (.complex .f64 a b)] = some (.val (.bool (near m && near n))) := by
  refine ans_V rfl rfl ?_
  have h1' := wholeTo_is (P := P) ha isM1000 is1000
  have h2' := wholeTo_is (P := P) hb isM1000 is1000
  rw [← near] at h1' h2'
  cases h1 : near m <;> simp [c29, h1', h2', h1]
end Go.Evl.Zone

namespace Go.Evl.Zone
open Go Go.Evl Go.RowKit
theorem compare_ok {P : Program} {Inv : G → Prop} {f : FuncId} (hE : Go.Proofs.Enters P f) (hC : ∀ (a b : ByteArray) (w : World), Calls P f #[.string a, .string b] w fun e w' => e = .returned (.int .i64 (Lib.compareBytes a.data.toList b.data.toList)) ∧ w' = w) : PSound P Inv f pCompare := by
  intro args H r h g vs R hW hI hH ha hR
  unfold pCompare at h
  split at h
  · rename_i a b
    simp at h; subst h
    obtain ⟨v, u, rfl, h1, h2⟩ := cs_two ha
    obtain rfl := h1.inv_val
    obtain rfl := h2.inv_val
    refine goes_val hE (hC a b g.w) hW hH ?_ hR
    rintro e w' ⟨rfl, rfl⟩
    exact ⟨rfl, Below.refl _ _⟩
  · simp at h
def cloneC (t : TypeId) (k : Nat) : CF := ⟨
 (.seq
 (.reg false [
   ⟨(some 2), (.mv (.c (.im [] true))), none⟩] [])
 (.seq
 (.seq
 (.reg false [
   ⟨(some 3), (.mv (.t 0)), none⟩,
   ⟨(some 4), (.bin .eql t false true (.t 3) (.c (.im [] true))), none⟩] [])
 (.cond (.t 4)
  (.seq
  (.reg false [
    ⟨(some 2), (.mv (.c (.im [] true))), none⟩] [])
  .ret)
  .skip))
 (.seq
 (.reg false [
   ⟨(some 5), (.bsl k 0 [] []), none⟩,
   ⟨(some 6), (.mv (.t 0)), none⟩,
   ⟨(some 7), (.app k (.t 5) (.t 6)), none⟩,
   ⟨(some 2), (.mv (.t 7)), none⟩] [])
 .ret))),
 [.tmp 2]⟩
def E0 (P : Program) (h : How) (f : FuncId) (c : CF) : Env := ⟨P, fun _ _ => h, fun n => if n = f then some c else none, fun _ _ => none⟩
theorem E0_P {P : Program} {h : How} {f : FuncId} {c : CF} : (E0 P h f c).P = P := rfl
section
variable {P : Program} {h : How} {f : FuncId} {t : TypeId} {k : Nat}
theorem bn_val {el : TypeId} (ht : P.underlying t = some (.slice el)) {ad : Option Addr} {n c : Nat} : evBin P .eql t false true (.val (.slice ad n c)) (.im [] true) = some (.val (.bool ad.isNone)) := by
  simp [evBin, toV, snil, ht]
theorem bn_im {el : TypeId} (ht : P.underlying t = some (.slice el)) {y : List PV} {ys : List (List PV)} {fl : Bool} : evBin P .eql t false true (.im (y :: ys) fl) (.im [] true) = some (.val (.bool false)) := by
  simp [evBin, toV, snil, ht]
theorem bn_sl {el : TypeId} (ht : P.underlying t = some (.slice el)) {r k g o n : Nat} : evBin P .eql t false true (.sl r k g o (n + 1)) (.im [] true) = some (.val (.bool false)) := by
  simp [evBin, toV, snil, ht]
theorem clone_full {x : PV} {ys : List (List PV)} {is : List Nat} {H : Heap} (hb : evBin P .eql t false true x (.im [] true) = some (.val (.bool false))) (he : elems (H.grow 1) k x = some (ys, is)) (h0 : ys ≠ []) (hm : ys.length ≤ most) :
    V (E0 P h f (cloneC t k)) f (cloneC t k).body ⟨start [x], H, []⟩ [] fun _ st => st.h = (H.grow 1).put H.n (.row k ys true) ∧ resV st (cloneC t k).res = some (.sl H.n k ys.length 0 ys.length) := by
  have hf : ∀ H, freeze H [] = H := fun _ => rfl
  simp [cloneC, E0_P, hb, hf, he, appendP, h0, hm, chunks, allLen, nAlloc, allocs, start]
theorem clone_nil {el : TypeId} (ht : P.underlying t = some (.slice el)) {c : Nat} {H : Heap} :
    V (E0 P h f (cloneC t k)) f (cloneC t k).body ⟨start [.val (.slice none 0 c)], H, []⟩ [] fun _ st => st.h = H.grow 0 ∧ resV st (cloneC t k).res = some (.im [] true) := by
  simp [cloneC, E0_P, bn_val ht, start]
theorem clone_none {el : TypeId} (ht : P.underlying t = some (.slice el)) {ad : Addr} {c : Nat} {H : Heap} :
    V (E0 P h f (cloneC t k)) f (cloneC t k).body ⟨start [.val (.slice (some ad) 0 c)], H, []⟩ [] fun _ st => st.h = H.grow 1 ∧ resV st (cloneC t k).res = some (.im [] true) := by
  have hf : ∀ H, freeze H [] = H := fun _ => rfl
  simp [cloneC, E0_P, bn_val ht, hf, elems, appendP, chunks, allLen, nAlloc, allocs, start]
theorem elems_at {H H' : Heap} (h : H'.at_ = H.at_) {k : Nat} {x : PV} : elems H' k x = elems H k x := by
  unfold elems
  rw [h]
theorem clone_ok {Inv : G → Prop} {el : TypeId} (hI : InvOK Inv) (ht : P.underlying t = some (.slice el)) (hc : (E0 P .keep f (cloneC t k)).code f = some (cloneC t k)) : PSound P Inv f (pClone k) := by
  intro args H r h g vs R hW hinv hH ha hR
  have hT : TabOK (E0 P .keep f (cloneC t k)) := by
    intro f' cf q
    simp only [E0] at q
    split at q
    · rename_i e
      subst e
      simp only [Option.some.injEq] at q
      subst q
      exact hc
    · cases q
  have hF : PrimFr (E0 P .keep f (cloneC t k)) := ⟨fun c f p q => by (cases q), fun c f p q => by (cases q)⟩
  have hD : PrimDd (E0 P .keep f (cloneC t k)) := ⟨fun c f p q => by (cases q)⟩
  have hP : PrimOK (E0 P .keep f (cloneC t k)) Inv := ⟨fun c f p q => by (cases q)⟩
  subst hH
  unfold pClone at h
  split at h
  · rename_i x
    split at h
    · cases h
    · rename_i hstr
      split at h
      · rename_i ys is he
        split at h
        · rename_i h0
          have hys : ys = [] := List.length_eq_zero_iff.1 h0
          subst hys
          simp only [Option.some.injEq] at h; subst h
          obtain ⟨v, rfl, hv⟩ := cs_one ha
          have hval : ∃ ad c, v = .slice ad 0 c := by
            unfold elems at he
            split at he
            · rename_i xs fl
              split at he
              · simp at he
                obtain ⟨rfl, rfl⟩ := he
                obtain ⟨ad, cap, rfl, _⟩ := hv.inv_im
                exact ⟨_, _, rfl⟩
              · cases he
            · rename_i r0 k0 g0 off len
              split at he
              · split at he
                · rename_i hcnd
                  obtain ⟨_, _, _, hle⟩ := hcnd
                  simp only [Option.some.injEq, Prod.mk.injEq] at he
                  have hl := congrArg List.length he.1
                  simp at hl
                  cases hv with
                  | sl ad _ _ _ _ _ cap hlc hg hh =>
                    have : len = 0 := by omega
                    subst this
                    exact ⟨_, _, rfl⟩
                · cases he
              · cases he
            · rename_i s
              simp [isStr] at hstr
            · have := hv.inv_val
              exact ⟨_, _, this⟩
            · cases he
          obtain ⟨ad, c, rfl⟩ := hval
          have ha' : Cs g [.slice ad 0 c] [.val (.slice ad 0 c)] := Cs.cons (.val _) (Cs.nil _)
          cases ad with
          | none =>
            obtain ⟨n, e, st, hev, h1, h2⟩ := clone_nil (P := P) (h := .keep) (f := f) (t := t) (k := k) ht (c := c) (H := g.H)
            refine evl_goes (E := E0 P .keep f (cloneC t k)) hI hT hF hD hP hc hW hinv ha' hev h2 fun g' v he hw hh hv => ?_
            exact hR (g'.room 1) v (by show g'.H.grow 1 = _; rw [hh, h1]; exact Heap.ext' rfl fun i => by simp) (wr_room hw 1) (he.trans (ext_room hw 1)) (hv.mono hw (ext_room hw 1))
          | some ad =>
            obtain ⟨n, e, st, hev, h1, h2⟩ := clone_none (P := P) (h := .keep) (f := f) (t := t) (k := k) ht (ad := ad) (c := c) (H := g.H)
            exact evl_goes (E := E0 P .keep f (cloneC t k)) hI hT hF hD hP hc hW hinv ha' hev h2 fun g' v he hw hh hv => hR g' v (by rw [hh, h1]) hw he hv
        · rename_i h0
          split at h
          · rename_i hm
            simp only [Option.some.injEq] at h; subst h
            have h0' : ys ≠ [] := fun q => h0 (by rw [q]; rfl)
            have he' : elems (g.H.grow 1) k x = some (ys, is) := by rw [elems_at (room_at hW 1)]; exact he
            have hb : evBin P .eql t false true x (.im [] true) = some (.val (.bool false)) := by
              unfold elems at he
              split at he
              · rename_i xs fl
                split at he
                · simp at he
                  obtain ⟨rfl, rfl⟩ := he
                  cases xs with
                  | nil => exact (h0' rfl).elim
                  | cons y ys => exact bn_im ht
                · cases he
              · rename_i r k' g0 off len
                split at he
                · split at he
                  · simp only [Option.some.injEq, Prod.mk.injEq] at he
                    cases len with
                    | zero => simp at he; exact (h0' he.1).elim
                    | succ n => exact bn_sl ht
                  · cases he
                · cases he
              · simp [isStr] at hstr
              · simp at he
                exact (h0' he.1).elim
              · cases he
            obtain ⟨n, e, st, hev, h1, h2⟩ := clone_full (P := P) (h := .keep) (f := f) (t := t) (k := k) (H := g.H) hb he' h0' hm
            exact evl_goes (E := E0 P .keep f (cloneC t k)) hI hT hF hD hP hc hW hinv ha hev h2 fun g' v he hw hh hv => hR g' v (by rw [hh, h1]) hw he hv
          · cases h
      · cases h
  · cases h
end
end Go.Evl.Zone

namespace Go.Evl.Zone
open Go Go.Evl Go.RowKit
theorem im_nil {g : G} {v : Value} (h : VR g v (.im [] true)) : ∃ a, v = .slice a 0 0 := by
  obtain ⟨ad, cap, rfl, h1, h2, h3⟩ := h.inv_im
  have := h1 rfl
  simp at this
  subst this
  exact ⟨ad, rfl⟩
theorem grow_ok {P : Program} {Inv : G → Prop} {f : FuncId} {k : Nat} (hk : 0 < k) (hE : Go.Proofs.Enters P f)
    (hR : ∀ (a : Option Addr) (w : World), Calls P f #[.slice a 0 0, .int .i64 0] w fun e w' => e = .returned (.slice a 0 0) ∧ w' = w)
    (hG : ∀ (a : Option Addr) (n : Nat) (w : World), 0 < n → n ≤ most → Calls P f #[.slice a 0 0, .int .i64 (n : Int)] w fun e w' => ∃ (cap : Nat) (c : Array Value) (t : TypeId), e = .returned (.slice (some ⟨w.heap.size, 0, none⟩) 0 cap) ∧ w' = w.drew.alloc (.cells c t (0, 0)) ∧ c.size = cap * k) : PSound P Inv f (pGrow k) := by
  intro args H r h g vs R hW hI hH ha hRR
  subst hH
  unfold pGrow at h
  split at h
  · rename_i n
    obtain ⟨v, u, rfl, h1, h2⟩ := cs_two ha
    obtain ⟨a, rfl⟩ := im_nil h1
    obtain rfl := h2.inv_val
    split at h
    · rename_i h0
      subst h0
      simp only [Option.some.injEq] at h; subst h
      refine goes_calls hE (hR a g.w) ?_
      rintro e w' ⟨rfl, rfl⟩
      exact ⟨_, rfl, hRR (g.room 1) _ rfl (wr_room hW 1) (ext_room hW 1) (.imE a 0 true fun _ => rfl)⟩
    · split at h
      · rename_i hn
        obtain ⟨m, rfl⟩ : ∃ m : Nat, n = (m : Int) := ⟨n.toNat, by omega⟩
        simp only [Option.some.injEq] at h; subst h
        refine goes_calls hE (hG a m g.w (by omega) (by omega)) ?_
        rintro e w' ⟨cap, c, t, rfl, rfl, hc⟩
        have hW1 : WR (g.room 1).drew := wr_drew (wr_room hW 1)
        have hE1 : Ext g (g.room 1).drew := (ext_room hW 1).trans (ext_drew _)
        have hd : (g.room 1).drew.H.at_ g.H.n = .dead := by
          show (g.H.grow 1).at_ g.H.n = .dead
          rw [room_at hW 1]
          exact hW.dead _ (Nat.le_refl _)
        have hs : g.H.n < (g.room 1).drew.H.n := Nat.lt_succ_self _
        have hf : Fits (g.room 1).drew c (.row k [] true) := ⟨rfl, hk, by simp, by simp, by simp⟩
        have hE2 := ext_alloc (g := (g.room 1).drew) hd c t (.row k [] true)
        refine ⟨_, rfl, hRR ((g.room 1).drew.allocd g.H.n c t (.row k [] true)) _ rfl (wr_alloc hW1 hd hs hf) (hE1.trans hE2) ?_⟩
        refine .sl _ _ _ _ _ _ cap (Nat.zero_le _) ⟨0, by show rowLen (((g.H.grow 1).put g.H.n (.row k [] true)).at_ g.H.n) = _; simp [rowLen], Nat.le_refl _⟩ ?_
        rintro b ⟨hb, _, _⟩
        have hb' : some g.w.drew.heap.size = some b := by
          have : (if g.H.n = g.H.n then some g.w.drew.heap.size else g.ι g.H.n) = some b := hb
          rwa [if_pos rfl] at this
        obtain rfl := (Option.some.inj hb').symm
        refine ⟨by simp, c, t, (0, 0), ?_, by simpa using hc⟩
        exact heap_alloc_new _ _
      · cases h
  · cases h
theorem inv_im_val {g : G} {v : Value} {xs : List (List PV)} {fl : Bool} (h : VR g v (.im xs fl)) : ∃ ad cap, v = .slice ad xs.length cap := by
  obtain ⟨ad, cap, rfl, _⟩ := h.inv_im
  exact ⟨ad, cap, rfl⟩
section
variable {P : Program} {f : FuncId} {t : TypeId} {k : Nat}
theorem cloneF_pok {Inv : G → Prop} {el : TypeId} (hI : InvOK Inv) (ht : P.underlying t = some (.slice el)) (hc : (E0 P .own f (cloneC t k)).code f = some (cloneC t k)) : PSound P Inv f (pCloneF k) := by
  intro args H r h g vs R hW hinv hH ha hR
  have hT : TabOK (E0 P .own f (cloneC t k)) := by
    intro f' cf q
    simp only [E0] at q
    split at q
    · rename_i e
      subst e
      simp only [Option.some.injEq] at q
      subst q
      exact hc
    · cases q
  have hF : PrimFr (E0 P .own f (cloneC t k)) := ⟨fun c f p q => by (cases q), fun c f p q => by (cases q)⟩
  have hD : PrimDd (E0 P .own f (cloneC t k)) := ⟨fun c f p q => by (cases q)⟩
  have hP : PrimOK (E0 P .own f (cloneC t k)) Inv := ⟨fun c f p q => by (cases q)⟩
  subst hH
  unfold pCloneF at h
  split at h
  · rename_i xs fl
    split at h
    · rename_i hx
      obtain ⟨hlen, hm⟩ := hx
      split at h
      · rename_i ys hys
        simp only [Option.some.injEq] at h; subst h
        obtain ⟨v, rfl, hv⟩ := cs_one ha
        have hev := fun N => (ev_sound hI hT hF hD hP N).1
        have hcs : ∀ g' v, g'.H = g.H → WR g' → Ext g g' → VR g' v (.im ys false) → R v g'.w := fun g' v a b c d => hR g' v a b c d
        by_cases h0 : xs = []
        · subst h0
          simp [plainss] at hys
          subst hys
          obtain ⟨ad, c, rfl⟩ := inv_im_val hv
          have ha' : Cs g [.slice ad 0 c] [.val (.slice ad 0 c)] := Cs.cons (.val _) (Cs.nil _)
          have hx : expAs g.H [.val (.slice ad 0 c)] = some ([.val (.slice ad 0 c)], []) := rfl
          cases ad with
          | none =>
            obtain ⟨n, e, st, h, h1, h2⟩ := clone_nil (P := P) (h := .own) (f := f) (t := t) (k := k) ht (c := c) (H := Heap.empty)
            exact call_own (E := E0 P .own f (cloneC t k)) hI (hev n) hc hW hinv ha' hx h h2 (is' := []) (q := .im [] false) rfl (fun _ => hcs) (fun q => (q rfl).elim)
          | some ad =>
            obtain ⟨n, e, st, h, h1, h2⟩ := clone_none (P := P) (h := .own) (f := f) (t := t) (k := k) ht (ad := ad) (c := c) (H := Heap.empty)
            exact call_own (E := E0 P .own f (cloneC t k)) hI (hev n) hc hW hinv ha' hx h h2 (is' := []) (q := .im [] false) rfl (fun _ => hcs) (fun q => (q rfl).elim)
        · have hx : expAs g.H [.im xs fl] = some ([.im xs false], []) := rfl
          have hb : evBin P .eql t false true (.im xs false) (.im [] true) = some (.val (.bool false)) := by
            cases xs with
            | nil => exact (h0 rfl).elim
            | cons y ys => exact bn_im ht
          have he : elems (Heap.empty.grow 1) k (.im xs false) = some (xs, []) := by unfold elems; simp only [hlen, if_true]
          obtain ⟨n, e, st, h, h1, h2⟩ := clone_full (P := P) (h := .own) (f := f) (t := t) (k := k) (H := Heap.empty) hb he h0 hm
          have hq : expV st.h (.sl Heap.empty.n k xs.length 0 xs.length) = some (.im ys false, [Heap.empty.n]) := by
            rw [h1]
            simp [expV, expA, expC, hys]
          exact call_own (E := E0 P .own f (cloneC t k)) hI (hev n) hc hW hinv ha hx h h2 hq (fun _ => hcs) (fun _ => hcs)
      · cases h
    · cases h
  · cases h
end
end Go.Evl.Zone

namespace Go.Evl.Zone
open Go Go.Evl
set_option maxRecDepth 100000
theorem ok4 : (env Proofs.Tryz.prog).code 4 = some c4 := by kernel_rfl
theorem ok8 : (env Proofs.Tryz.prog).code 8 = some c8 := by kernel_rfl
theorem ok9 : (env Proofs.Tryz.prog).code 9 = some c9 := by kernel_rfl
theorem ok17 : (env Proofs.Tryz.prog).code 17 = some c17 := by kernel_rfl
theorem ok19 : (env Proofs.Tryz.prog).code 19 = some c19 := by kernel_rfl
theorem ok20 : (env Proofs.Tryz.prog).code 20 = some c20 := by kernel_rfl
theorem ok24 : (env Proofs.Tryz.prog).code 24 = some c24 := by kernel_rfl
theorem ok29 : (env Proofs.Tryz.prog).code 29 = some c29 := by kernel_rfl
theorem ok30 : (env Proofs.Tryz.prog).code 30 = some c30 := by kernel_rfl
theorem ok37 : (env Proofs.Tryz.prog).code 37 = some c37 := by kernel_rfl
theorem ok46 : (env Proofs.Tryz.prog).code 46 = some c46 := by kernel_rfl
theorem ok49 : (env Proofs.Tryz.prog).code 49 = some c49 := by kernel_rfl
theorem ok55 : (env Proofs.Tryz.prog).code 55 = some c55 := by kernel_rfl
theorem ok62 : (env Proofs.Tryz.prog).code 62 = some c62 := by kernel_rfl
theorem ok81 : (env Proofs.Tryz.prog).code 81 = some c81 := by kernel_rfl
theorem ok83 : (env Proofs.Tryz.prog).code 83 = some c83 := by kernel_rfl
theorem ok88 : (env Proofs.Tryz.prog).code 88 = some c88 := by kernel_rfl
theorem ok96 : (env Proofs.Tryz.prog).code 96 = some c96 := by kernel_rfl
theorem ok103 : (env Proofs.Tryz.prog).code 103 = some c103 := by kernel_rfl
theorem ok112 : (env Proofs.Tryz.prog).code 112 = some c112 := by kernel_rfl
theorem ok137 : (env Proofs.Tryz.prog).code 137 = some c137 := by kernel_rfl
theorem ok140 : (env Proofs.Tryz.prog).code 140 = some c140 := by kernel_rfl
theorem ok159 : (env Proofs.Tryz.prog).code 159 = some c159 := by kernel_rfl
theorem ok169 : (env Proofs.Tryz.prog).code 169 = some c169 := by kernel_rfl
end Go.Evl.Zone

namespace Go.Evl.Zone
open Go Go.Evl
set_option maxRecDepth 100000
theorem ok13 : (env Proofs.Tryz.prog).code 13 = some c13 := by kernel_rfl
theorem ok23 : (env Proofs.Tryz.prog).code 23 = some c23 := by kernel_rfl
theorem ok28 : (env Proofs.Tryz.prog).code 28 = some c28 := by kernel_rfl
theorem ok35 : (env Proofs.Tryz.prog).code 35 = some c35 := by kernel_rfl
theorem ok36 : (env Proofs.Tryz.prog).code 36 = some c36 := by kernel_rfl
theorem ok38 : (env Proofs.Tryz.prog).code 38 = some c38 := by kernel_rfl
theorem ok43 : (env Proofs.Tryz.prog).code 43 = some c43 := by kernel_rfl
theorem ok44 : (env Proofs.Tryz.prog).code 44 = some c44 := by kernel_rfl
theorem ok51 : (env Proofs.Tryz.prog).code 51 = some c51 := by kernel_rfl
theorem ok57 : (env Proofs.Tryz.prog).code 57 = some c57 := by kernel_rfl
theorem ok64 : (env Proofs.Tryz.prog).code 64 = some c64 := by kernel_rfl
theorem ok65 : (env Proofs.Tryz.prog).code 65 = some c65 := by kernel_rfl
theorem ok69 : (env Proofs.Tryz.prog).code 69 = some c69 := by kernel_rfl
theorem ok87 : (env Proofs.Tryz.prog).code 87 = some c87 := by kernel_rfl
theorem ok89 : (env Proofs.Tryz.prog).code 89 = some c89 := by kernel_rfl
theorem ok102 : (env Proofs.Tryz.prog).code 102 = some c102 := by kernel_rfl
theorem ok110 : (env Proofs.Tryz.prog).code 110 = some c110 := by kernel_rfl
theorem ok113 : (env Proofs.Tryz.prog).code 113 = some c113 := by kernel_rfl
theorem ok121 : (env Proofs.Tryz.prog).code 121 = some c121 := by kernel_rfl
theorem ok126 : (env Proofs.Tryz.prog).code 126 = some c126 := by kernel_rfl
theorem ok127 : (env Proofs.Tryz.prog).code 127 = some c127 := by kernel_rfl
theorem ok145 : (env Proofs.Tryz.prog).code 145 = some c145 := by kernel_rfl
theorem ok153 : (env Proofs.Tryz.prog).code 153 = some c153 := by kernel_rfl
theorem ok160 : (env Proofs.Tryz.prog).code 160 = some c160 := by kernel_rfl
end Go.Evl.Zone

namespace Go.Evl.Zone
open Go Go.Evl
set_option maxRecDepth 100000
theorem ok10 : (env Proofs.Tryz.prog).code 10 = some c10 := by kernel_rfl
theorem ok12 : (env Proofs.Tryz.prog).code 12 = some c12 := by kernel_rfl
theorem ok16 : (env Proofs.Tryz.prog).code 16 = some c16 := by kernel_rfl
theorem ok26 : (env Proofs.Tryz.prog).code 26 = some c26 := by kernel_rfl
theorem ok27 : (env Proofs.Tryz.prog).code 27 = some c27 := by kernel_rfl
theorem ok48 : (env Proofs.Tryz.prog).code 48 = some c48 := by kernel_rfl
theorem ok53 : (env Proofs.Tryz.prog).code 53 = some c53 := by kernel_rfl
theorem ok59 : (env Proofs.Tryz.prog).code 59 = some c59 := by kernel_rfl
theorem ok70 : (env Proofs.Tryz.prog).code 70 = some c70 := by kernel_rfl
theorem ok71 : (env Proofs.Tryz.prog).code 71 = some c71 := by kernel_rfl
theorem ok78 : (env Proofs.Tryz.prog).code 78 = some c78 := by kernel_rfl
theorem ok91 : (env Proofs.Tryz.prog).code 91 = some c91 := by kernel_rfl
theorem ok94 : (env Proofs.Tryz.prog).code 94 = some c94 := by kernel_rfl
theorem ok95 : (env Proofs.Tryz.prog).code 95 = some c95 := by kernel_rfl
theorem ok100 : (env Proofs.Tryz.prog).code 100 = some c100 := by kernel_rfl
theorem ok104 : (env Proofs.Tryz.prog).code 104 = some c104 := by kernel_rfl
theorem ok117 : (env Proofs.Tryz.prog).code 117 = some c117 := by kernel_rfl
theorem ok124 : (env Proofs.Tryz.prog).code 124 = some c124 := by kernel_rfl
theorem ok128 : (env Proofs.Tryz.prog).code 128 = some c128 := by kernel_rfl
theorem ok129 : (env Proofs.Tryz.prog).code 129 = some c129 := by kernel_rfl
theorem ok144 : (env Proofs.Tryz.prog).code 144 = some c144 := by kernel_rfl
theorem ok146 : (env Proofs.Tryz.prog).code 146 = some c146 := by kernel_rfl
theorem ok147 : (env Proofs.Tryz.prog).code 147 = some c147 := by kernel_rfl
theorem ok161 : (env Proofs.Tryz.prog).code 161 = some c161 := by kernel_rfl
theorem ok186 : (env Proofs.Tryz.prog).code 186 = some c186 := by kernel_rfl
end Go.Evl.Zone

namespace Go.Evl.Zone
open Go Go.Evl
set_option maxRecDepth 100000
theorem ok5 : (env Proofs.Tryz.prog).code 5 = some c5 := by kernel_rfl
theorem ok7 : (env Proofs.Tryz.prog).code 7 = some c7 := by kernel_rfl
theorem ok15 : (env Proofs.Tryz.prog).code 15 = some c15 := by kernel_rfl
theorem ok21 : (env Proofs.Tryz.prog).code 21 = some c21 := by kernel_rfl
theorem ok22 : (env Proofs.Tryz.prog).code 22 = some c22 := by kernel_rfl
theorem ok40 : (env Proofs.Tryz.prog).code 40 = some c40 := by kernel_rfl
theorem ok50 : (env Proofs.Tryz.prog).code 50 = some c50 := by kernel_rfl
theorem ok54 : (env Proofs.Tryz.prog).code 54 = some c54 := by kernel_rfl
theorem ok63 : (env Proofs.Tryz.prog).code 63 = some c63 := by kernel_rfl
theorem ok67 : (env Proofs.Tryz.prog).code 67 = some c67 := by kernel_rfl
theorem ok72 : (env Proofs.Tryz.prog).code 72 = some c72 := by kernel_rfl
theorem ok73 : (env Proofs.Tryz.prog).code 73 = some c73 := by kernel_rfl
theorem ok74 : (env Proofs.Tryz.prog).code 74 = some c74 := by kernel_rfl
theorem ok97 : (env Proofs.Tryz.prog).code 97 = some c97 := by kernel_rfl
theorem ok107 : (env Proofs.Tryz.prog).code 107 = some c107 := by kernel_rfl
theorem ok111 : (env Proofs.Tryz.prog).code 111 = some c111 := by kernel_rfl
theorem ok114 : (env Proofs.Tryz.prog).code 114 = some c114 := by kernel_rfl
theorem ok138 : (env Proofs.Tryz.prog).code 138 = some c138 := by kernel_rfl
theorem ok139 : (env Proofs.Tryz.prog).code 139 = some c139 := by kernel_rfl
theorem ok150 : (env Proofs.Tryz.prog).code 150 = some c150 := by kernel_rfl
theorem ok154 : (env Proofs.Tryz.prog).code 154 = some c154 := by kernel_rfl
theorem ok158 : (env Proofs.Tryz.prog).code 158 = some c158 := by kernel_rfl
theorem ok164 : (env Proofs.Tryz.prog).code 164 = some c164 := by kernel_rfl
theorem ok178 : (env Proofs.Tryz.prog).code 178 = some c178 := by kernel_rfl
theorem ok192 : (env Proofs.Tryz.prog).code 192 = some c192 := by kernel_rfl
end Go.Evl.Zone

namespace Go.Evl.Zone
open Go Go.Evl
set_option maxRecDepth 100000
theorem ok14 : (env Proofs.Tryz.prog).code 14 = some c14 := by kernel_rfl
theorem ok18 : (env Proofs.Tryz.prog).code 18 = some c18 := by kernel_rfl
theorem ok25 : (env Proofs.Tryz.prog).code 25 = some c25 := by kernel_rfl
theorem ok32 : (env Proofs.Tryz.prog).code 32 = some c32 := by kernel_rfl
theorem ok41 : (env Proofs.Tryz.prog).code 41 = some c41 := by kernel_rfl
theorem ok58 : (env Proofs.Tryz.prog).code 58 = some c58 := by kernel_rfl
theorem ok60 : (env Proofs.Tryz.prog).code 60 = some c60 := by kernel_rfl
theorem ok80 : (env Proofs.Tryz.prog).code 80 = some c80 := by kernel_rfl
theorem ok86 : (env Proofs.Tryz.prog).code 86 = some c86 := by kernel_rfl
theorem ok92 : (env Proofs.Tryz.prog).code 92 = some c92 := by kernel_rfl
theorem ok98 : (env Proofs.Tryz.prog).code 98 = some c98 := by kernel_rfl
theorem ok99 : (env Proofs.Tryz.prog).code 99 = some c99 := by kernel_rfl
theorem ok101 : (env Proofs.Tryz.prog).code 101 = some c101 := by kernel_rfl
theorem ok115 : (env Proofs.Tryz.prog).code 115 = some c115 := by kernel_rfl
theorem ok118 : (env Proofs.Tryz.prog).code 118 = some c118 := by kernel_rfl
theorem ok122 : (env Proofs.Tryz.prog).code 122 = some c122 := by kernel_rfl
theorem ok123 : (env Proofs.Tryz.prog).code 123 = some c123 := by kernel_rfl
theorem ok125 : (env Proofs.Tryz.prog).code 125 = some c125 := by kernel_rfl
theorem ok130 : (env Proofs.Tryz.prog).code 130 = some c130 := by kernel_rfl
theorem ok131 : (env Proofs.Tryz.prog).code 131 = some c131 := by kernel_rfl
theorem ok135 : (env Proofs.Tryz.prog).code 135 = some c135 := by kernel_rfl
theorem ok157 : (env Proofs.Tryz.prog).code 157 = some c157 := by kernel_rfl
theorem ok163 : (env Proofs.Tryz.prog).code 163 = some c163 := by kernel_rfl
theorem ok170 : (env Proofs.Tryz.prog).code 170 = some c170 := by kernel_rfl
theorem ok183 : (env Proofs.Tryz.prog).code 183 = some c183 := by kernel_rfl
end Go.Evl.Zone

namespace Go.Evl.Zone
open Go Go.Evl
set_option maxRecDepth 100000
theorem ok6 : (env Proofs.Tryz.prog).code 6 = some c6 := by kernel_rfl
theorem ok11 : (env Proofs.Tryz.prog).code 11 = some c11 := by kernel_rfl
theorem ok31 : (env Proofs.Tryz.prog).code 31 = some c31 := by kernel_rfl
theorem ok33 : (env Proofs.Tryz.prog).code 33 = some c33 := by kernel_rfl
theorem ok34 : (env Proofs.Tryz.prog).code 34 = some c34 := by kernel_rfl
theorem ok39 : (env Proofs.Tryz.prog).code 39 = some c39 := by kernel_rfl
theorem ok42 : (env Proofs.Tryz.prog).code 42 = some c42 := by kernel_rfl
theorem ok45 : (env Proofs.Tryz.prog).code 45 = some c45 := by kernel_rfl
theorem ok52 : (env Proofs.Tryz.prog).code 52 = some c52 := by kernel_rfl
theorem ok56 : (env Proofs.Tryz.prog).code 56 = some c56 := by kernel_rfl
theorem ok61 : (env Proofs.Tryz.prog).code 61 = some c61 := by kernel_rfl
theorem ok66 : (env Proofs.Tryz.prog).code 66 = some c66 := by kernel_rfl
theorem ok68 : (env Proofs.Tryz.prog).code 68 = some c68 := by kernel_rfl
theorem ok79 : (env Proofs.Tryz.prog).code 79 = some c79 := by kernel_rfl
theorem ok82 : (env Proofs.Tryz.prog).code 82 = some c82 := by kernel_rfl
theorem ok84 : (env Proofs.Tryz.prog).code 84 = some c84 := by kernel_rfl
theorem ok85 : (env Proofs.Tryz.prog).code 85 = some c85 := by kernel_rfl
theorem ok90 : (env Proofs.Tryz.prog).code 90 = some c90 := by kernel_rfl
theorem ok93 : (env Proofs.Tryz.prog).code 93 = some c93 := by kernel_rfl
theorem ok108 : (env Proofs.Tryz.prog).code 108 = some c108 := by kernel_rfl
theorem ok109 : (env Proofs.Tryz.prog).code 109 = some c109 := by kernel_rfl
theorem ok132 : (env Proofs.Tryz.prog).code 132 = some c132 := by kernel_rfl
theorem ok143 : (env Proofs.Tryz.prog).code 143 = some c143 := by kernel_rfl
theorem ok149 : (env Proofs.Tryz.prog).code 149 = some c149 := by kernel_rfl
theorem ok179 : (env Proofs.Tryz.prog).code 179 = some c179 := by kernel_rfl
end Go.Evl.Zone

namespace Go.Evl.Zone
open Go Go.Evl
set_option maxRecDepth 100000
theorem br {b : Bool} {x y : Option CF} {v : CF} {Q : Prop} (hx : x = some v → Q) (hy : y = some v → Q) : cond b x y = some v → Q := by
  cases b
  · exact hy
  · exact hx
theorem lf {E : Env} {f n : Nat} {c v : CF} (h : E.code n = some c) : cond (Nat.beq f n) (some c) none = some v → E.code f = some v := by
  intro q
  cases hb : Nat.beq f n
  · rw [hb] at q; cases q
  · rw [hb] at q
    obtain rfl := Nat.eq_of_beq_eq_true hb
    rw [h]; exact q
theorem tab_ok : TabOK (env Proofs.Tryz.prog) := by
  intro f cf h
  change tab f = some cf at h
  unfold tab at h
  exact (br (br (br (br (br (br (br (lf ok4)
 (lf ok5))
 (br (lf ok6)
 (lf ok7)))
 (br (br (lf ok8)
 (lf ok9))
 (br (lf ok10)
 (br (lf ok11)
 (lf ok12)))))
 (br (br (br (lf ok13)
 (lf ok14))
 (br (lf ok15)
 (lf ok16)))
 (br (br (lf ok17)
 (lf ok18))
 (br (lf ok19)
 (br (lf ok20)
 (lf ok21))))))
 (br (br (br (br (lf ok22)
 (lf ok23))
 (br (lf ok24)
 (lf ok25)))
 (br (br (lf ok26)
 (lf ok27))
 (br (lf ok28)
 (br (lf ok29)
 (lf ok30)))))
 (br (br (br (lf ok31)
 (lf ok32))
 (br (lf ok33)
 (br (lf ok34)
 (lf ok35))))
 (br (br (lf ok36)
 (lf ok37))
 (br (lf ok38)
 (br (lf ok39)
 (lf ok40)))))))
 (br (br (br (br (br (lf ok41)
 (lf ok42))
 (br (lf ok43)
 (lf ok44)))
 (br (br (lf ok45)
 (lf ok46))
 (br (lf ok48)
 (br (lf ok49)
 (lf ok50)))))
 (br (br (br (lf ok51)
 (lf ok52))
 (br (lf ok53)
 (lf ok54)))
 (br (br (lf ok55)
 (lf ok56))
 (br (lf ok57)
 (br (lf ok58)
 (lf ok59))))))
 (br (br (br (br (lf ok60)
 (lf ok61))
 (br (lf ok62)
 (lf ok63)))
 (br (br (lf ok64)
 (lf ok65))
 (br (lf ok66)
 (br (lf ok67)
 (lf ok68)))))
 (br (br (br (lf ok69)
 (lf ok70))
 (br (lf ok71)
 (br (lf ok72)
 (lf ok73))))
 (br (br (lf ok74)
 (lf ok78))
 (br (lf ok79)
 (br (lf ok80)
 (lf ok81))))))))
 (br (br (br (br (br (br (lf ok82)
 (lf ok83))
 (br (lf ok84)
 (lf ok85)))
 (br (br (lf ok86)
 (lf ok87))
 (br (lf ok88)
 (br (lf ok89)
 (lf ok90)))))
 (br (br (br (lf ok91)
 (lf ok92))
 (br (lf ok93)
 (lf ok94)))
 (br (br (lf ok95)
 (lf ok96))
 (br (lf ok97)
 (br (lf ok98)
 (lf ok99))))))
 (br (br (br (br (lf ok100)
 (lf ok101))
 (br (lf ok102)
 (lf ok103)))
 (br (br (lf ok104)
 (lf ok107))
 (br (lf ok108)
 (br (lf ok109)
 (lf ok110)))))
 (br (br (br (lf ok111)
 (lf ok112))
 (br (lf ok113)
 (br (lf ok114)
 (lf ok115))))
 (br (br (lf ok117)
 (lf ok118))
 (br (lf ok121)
 (br (lf ok122)
 (lf ok123)))))))
 (br (br (br (br (br (lf ok124)
 (lf ok125))
 (br (lf ok126)
 (lf ok127)))
 (br (br (lf ok128)
 (lf ok129))
 (br (lf ok130)
 (br (lf ok131)
 (lf ok132)))))
 (br (br (br (lf ok135)
 (lf ok137))
 (br (lf ok138)
 (lf ok139)))
 (br (br (lf ok140)
 (lf ok143))
 (br (lf ok144)
 (br (lf ok145)
 (lf ok146))))))
 (br (br (br (br (lf ok147)
 (lf ok149))
 (br (lf ok150)
 (lf ok153)))
 (br (br (lf ok154)
 (lf ok157))
 (br (lf ok158)
 (br (lf ok159)
 (lf ok160)))))
 (br (br (br (lf ok161)
 (lf ok163))
 (br (lf ok164)
 (br (lf ok169)
 (lf ok170))))
 (br (br (lf ok178)
 (lf ok179))
 (br (lf ok183)
 (br (lf ok186)
 (lf ok192))))))))) h
end Go.Evl.Zone

namespace Go.Evl.Zone
open Go Go.Evl Go.Proofs Go.RowKit Go.ChangeShapes Go.WideShapes Go.ChangeAt
set_option maxRecDepth 100000
noncomputable abbrev P0 : Program := Tryz.prog
def InvW (g : G) : Prop := True
theorem invW_ok : InvOK InvW where
  mono := fun g g' hW e h => trivial
  same := fun g g' hw hz h => trivial
def Still (p : List PV → Heap → Option ORes) : Prop := ∀ args, (∀ H, p args H = none) ∨ ∃ v, ∀ H, p args H = some ⟨v, H, [], some []⟩
theorem still_trunc : Still pTrunc := by
  intro args
  unfold pTrunc
  split
  · split
    · exact .inl fun _ => rfl
    · exact .inr ⟨_, fun _ => rfl⟩
  · exact .inl fun _ => rfl
theorem Still.out {p : List PV → Heap → Option ORes} (hs : Still p) {args : List PV} {H : Heap} {r : ORes} (h : p args H = some r) : r.h = H ∧ r.wr = [] ∧ ∀ H', p args H' = some ⟨r.v, H'.patch r.h r.wr, r.wr, r.rd⟩ := by
  rcases hs args with q | ⟨v, q⟩
  · rw [q] at h; cases h
  · rw [q] at h
    simp only [Option.some.injEq] at h
    subst h
    exact ⟨rfl, rfl, fun H' => by rw [patch_nil]; exact q H'⟩
theorem still_compare : Still pCompare := by
  intro args
  unfold pCompare
  split
  · exact .inr ⟨_, fun _ => rfl⟩
  · exact .inl fun _ => rfl
theorem still_cloneF {k : Nat} : Still (pCloneF k) := by
  intro args
  unfold pCloneF
  split
  · split
    · split
      · exact .inr ⟨_, fun _ => rfl⟩
      · exact .inl fun _ => rfl
    · exact .inl fun _ => rfl
  · exact .inl fun _ => rfl
def Quiet (p : List PV → Heap → Option ORes) : Prop := ∀ args H r, p args H = some r → r.h = H ∧ r.wr = [] ∧ ∀ H', Agree H' H r.rd → p args H' = some ⟨r.v, H'.patch r.h r.wr, r.wr, r.rd⟩
theorem Still.quiet {p : List PV → Heap → Option ORes} (hs : Still p) : Quiet p := fun args H r h => let ⟨a, b, c⟩ := hs.out h; ⟨a, b, fun H' _ => c H'⟩
structure Lays1 (p : List PV → Heap → Option ORes) : Prop where
  fr : ∀ args H r, p args H = some r → Fr H r.h r.wr
  n : ∀ args H r, p args H = some r → r.h.n ≠ H.n
  dd : ∀ args H r, p args H = some r → Dd H r.h
theorem lays_of {p : List PV → Heap → Option ORes} (h : ∀ args H r, p args H = some r → r.h.n = H.n + 1 ∧ ∀ i, i < H.n → r.h.at_ i = H.at_ i) : Lays1 p where
  fr := fun args H r q => let ⟨a, b⟩ := h _ _ _ q; ⟨by omega, fun i hi _ => b i hi⟩
  n := fun args H r q => let ⟨a, b⟩ := h _ _ _ q; by omega
  dd := fun args H r q => let ⟨a, b⟩ := h _ _ _ q; fun i hi hd => by rw [b i hi]; exact hd
theorem row_kept {H : Heap} {b : Blk} (i : Nat) (hi : i < H.n) : ((H.grow 1).put H.n b).at_ i = H.at_ i := by
  show (if i = H.n then _ else (if i < H.n then _ else _)) = _
  rw [if_neg (by omega), if_pos hi]
theorem clone_out {k : Nat} {args : List PV} {H : Heap} {r : ORes} (h : pClone k args H = some r) : r.h.n = H.n + 1 ∧ ∀ i, i < H.n → r.h.at_ i = H.at_ i := by
  unfold pClone at h
  split at h
  · split at h
    · cases h
    · split at h
      · split at h
        · simp only [Option.some.injEq] at h; subst h
          exact ⟨rfl, fun i hi => if_pos hi⟩
        · split at h
          · simp only [Option.some.injEq] at h; subst h
            exact ⟨rfl, row_kept⟩
          · cases h
      · cases h
  · cases h
theorem grow_out {k : Nat} {args : List PV} {H : Heap} {r : ORes} (h : pGrow k args H = some r) : r.h.n = H.n + 1 ∧ ∀ i, i < H.n → r.h.at_ i = H.at_ i := by
  unfold pGrow at h
  split at h
  · split at h
    · simp only [Option.some.injEq] at h; subst h
      exact ⟨rfl, fun i hi => if_pos hi⟩
    · split at h
      · simp only [Option.some.injEq] at h; subst h
        exact ⟨rfl, row_kept⟩
      · cases h
  · cases h
theorem clone_lays {k : Nat} : Lays1 (pClone k) := lays_of fun _ _ _ => clone_out
theorem grow_lays {k : Nat} : Lays1 (pGrow k) := lays_of fun _ _ _ => grow_out
theorem cond_some {α : Type} {b : Bool} {x y p : α} (h : cond b (some x) (some y) = some p) : (b = true ∧ p = x) ∨ (b = false ∧ p = y) := by
  cases b
  · exact .inr ⟨rfl, (Option.some.inj h).symm⟩
  · exact .inl ⟨rfl, (Option.some.inj h).symm⟩
theorem prim_kind {c f : FuncId} {p : List PV → Heap → Option ORes} (hp : prim c f = some p) : Quiet p ∨ Lays1 p := by
  unfold prim at hp
  split at hp
  all_goals first
    | (cases hp; exact .inl still_trunc.quiet)
    | (cases hp; exact .inl still_compare.quiet)
    | (cases hp; exact .inr clone_lays)
    | (cases hp; exact .inr grow_lays)
    | cases hp
    | (rcases cond_some hp with ⟨_, rfl⟩ | ⟨_, rfl⟩
       · exact .inl still_cloneF.quiet
       · exact .inr clone_lays)
theorem prim_fr : PrimFr (env P0) where
  fr := fun c f p hp args H r h => by
    rcases prim_kind hp with q | q
    · obtain ⟨h1, h2, _⟩ := q _ _ _ h
      rw [h1, h2]; exact Fr.refl _ _
    · exact q.fr _ _ _ h
  loc := fun c f p hp args H r h hn => by
    rcases prim_kind hp with q | q
    · obtain ⟨h1, h2, h3⟩ := q _ _ _ h
      exact ⟨fun i _ => by rw [h1], h3⟩
    · exact (q.n _ _ _ h hn).elim
theorem prim_dd : PrimDd (env P0) where
  dd := fun c f p hp args H r h => by
    rcases prim_kind hp with q | q
    · obtain ⟨h1, _, _⟩ := q _ _ _ h
      rw [h1]; exact fun _ _ h => h
    · exact q.dd _ _ _ h
end Go.Evl.Zone

namespace Go.Evl.Zone
open Go Go.Evl Go.Proofs Go.RowKit Go.ChangeShapes Go.WideShapes Go.ChangeAt
set_option maxRecDepth 100000
theorem ent55 : Proofs.Enters P0 151 := enters_of Tryz.func151 (by kernel_rfl) rfl
theorem entG : Proofs.Enters P0 168 := enters_of Tryz.func168 (by kernel_rfl) rfl
theorem entH : Proofs.Enters P0 148 := enters_of Tryz.func148 (by kernel_rfl) rfl
theorem find56n : (Extern.findNext Tryz.f136).isNone = true := by kernel_rfl
theorem find56 : Extern.find Tryz.f136 = some (Extern.MathFloor.toIntegral "math.archTrunc" .zero) := by kernel_rfl
theorem name56 : (Tryz.f136.name == "runtime.NumGoroutine") = false := by kernel_rfl
theorem body56 : Tryz.f136.body.isNone = true := by kernel_rfl
theorem run56 (w : World) (args : Array Value) : (callFunc 136 args).run P0 w = (do return Next.value (← Extern.MathFloor.toIntegral "math.archTrunc" .zero args) : Sem Next).run P0 w := by
  have h1 : Extern.findNext Tryz.f136 = none := by simpa using find56n
  have h0 : Tryz.prog.funcs[136]? = some Tryz.f136 := Tryz.func136
  unfold callFunc
  simp only [Sem.run_bind]
  rw [show (program : Sem Program).run P0 w = .ok P0 w from rfl]
  simp only [Result.andThen_ok, h0, name56, body56, h1, find56]
  simp [mark]
  rfl
theorem truncOK : PSound P0 InvW 136 pTrunc := trunc_ok (P := P0) (f := 136) fun x w args => run56 w args
theorem compareOK : PSound P0 InvW 151 pCompare := compare_ok (P := P0) (f := 151) ent55 fun a b w => Tryz.strings_Compare a b w
theorem cOK {f : FuncId} {t el : TypeId} {k : Nat} (hu : P0.underlying t = some (.slice el)) (hc : (E0 P0 .keep f (cloneC t k)).code f = some (cloneC t k)) : PSound P0 InvW f (pClone k) := clone_ok invW_ok hu hc
theorem cFOK {f : FuncId} {t el : TypeId} {k : Nat} (hu : P0.underlying t = some (.slice el)) (hc : (E0 P0 .own f (cloneC t k)).code f = some (cloneC t k)) : PSound P0 InvW f (pCloneF k) := cloneF_pok invW_ok hu hc
theorem uZ : P0.underlying 31 = some (.slice 122) := by kernel_rfl
theorem uV : P0.underlying 27 = some (.slice 156) := by kernel_rfl
theorem uS : P0.underlying 29 = some (.slice 91) := by kernel_rfl
theorem uI : P0.underlying 32 = some (.slice 23) := by kernel_rfl
theorem uK : P0.underlying 25 = some (.slice 100) := by kernel_rfl
theorem uM : P0.underlying 34 = some (.slice 170) := by kernel_rfl
theorem uN : P0.underlying 59 = some (.slice 3) := by kernel_rfl
theorem growOK {f : FuncId} (hE : Proofs.Enters P0 f) {ρ : Go.Shelf.Ren} (L : Lays8.n4 P0 ρ) (hf : ρ.f 4 = f) {i0 : TypeInfo} {z : Value} (hi0 : P0.info? (ρ.t 25) = some i0) (hz0 : i0.zero = some z) (hs0 : i0.size = 1) (hzs : z.cells.size = 1) (hb : i0.bytes ≤ 16) : PSound P0 InvW f (pGrow 1) := by
  subst hf
  refine grow_ok (by decide) hE (fun a w => Any8.slices_Grow_room L a 0 0 0 w (by omega) (by omega) (by omega) (by omega)) fun a n w h1 h2 => ?_
  have hm : n ≤ 68719476736 := h2
  refine (Any8.slices_Grow_grow L i0 z hi0 hz0 (by omega) a 0 0 n [] w (by omega) (by omega) ?_ (by omega) (by simp) (fun _ => rfl) (fun _ _ j v hj => by simp at hj)).mono ?_
  · have : (0 + n) * i0.bytes ≤ (0 + n) * 16 := Nat.mul_le_mul_left _ hb
    omega
  · rintro e w' ⟨rfl, rfl⟩
    refine ⟨_, _, _, rfl, rfl, ?_⟩
    have hg := grownCap_ge w (0 + n) 0 (ρ.t 25)
    obtain ⟨G, hG⟩ : ∃ G, G = grownCap w (0 + n) 0 (ρ.t 25) := ⟨_, rfl⟩
    rw [← hG] at hg ⊢
    simp only [Array.size_append, size_zeroCells, hzs]
    simp
    omega
end Go.Evl.Zone

namespace Go.Evl.Zone
open Go Go.Evl Go.Proofs Go.RowKit Go.ChangeShapes Go.WideShapes Go.ChangeAt Go.Proofs.YtcphhjlnfckoiaaGreat
set_option maxRecDepth 100000
theorem cell1 {t : TypeId} (h : ((P0.info? t).bind fun i => i.zero.map fun z => i.size == 1 && z.cells.size == 1 && decide (i.bytes ≤ 16)) = some true) : ∃ i z, P0.info? t = some i ∧ i.zero = some z ∧ i.size = 1 ∧ z.cells.size = 1 ∧ i.bytes ≤ 16 := by
  simp only [Option.bind_eq_some_iff, Option.map_eq_some_iff] at h
  obtain ⟨i, h1, z, h2, h3⟩ := h
  simp only [Bool.and_eq_true, beq_iff_eq, decide_eq_true_eq] at h3
  exact ⟨i, z, h1, h2, h3.1.1, h3.1.2, h3.2⟩
theorem iS : ∃ i z, P0.info? 23 = some i ∧ i.zero = some z ∧ i.size = 1 ∧ z.cells.size = 1 ∧ i.bytes ≤ 16 := cell1 (by kernel_rfl)
theorem iN : ∃ i z, P0.info? 3 = some i ∧ i.zero = some z ∧ i.size = 1 ∧ z.cells.size = 1 ∧ i.bytes ≤ 16 := cell1 (by kernel_rfl)
theorem growI : PSound P0 InvW 148 (pGrow 1) := let ⟨_, _, a, b, c, d, e⟩ := iS; growOK entH Tryz.grow148 rfl a b c d e
theorem growN : PSound P0 InvW 168 (pGrow 1) := let ⟨_, _, a, b, c, d, e⟩ := iN; growOK entG Tryz.grow168 rfl a b c d e
theorem prim_ok : PrimOK (env P0) InvW where
  ok := by
    intro c f p hp
    change prim c f = some p at hp
    unfold prim at hp
    split at hp
    · cases hp; exact truncOK
    · cases hp; exact compareOK
    · rcases cond_some hp with ⟨_, rfl⟩ | ⟨_, rfl⟩
      · exact cFOK uZ (by kernel_rfl)
      · exact cOK uZ (by kernel_rfl)
    · rcases cond_some hp with ⟨_, rfl⟩ | ⟨_, rfl⟩
      · exact cFOK uV (by kernel_rfl)
      · exact cOK uV (by kernel_rfl)
    · rcases cond_some hp with ⟨_, rfl⟩ | ⟨_, rfl⟩
      · exact cFOK uS (by kernel_rfl)
      · exact cOK uS (by kernel_rfl)
    · rcases cond_some hp with ⟨_, rfl⟩ | ⟨_, rfl⟩
      · exact cFOK uI (by kernel_rfl)
      · exact cOK uI (by kernel_rfl)
    · cases hp; exact cOK uK (by kernel_rfl)
    · cases hp; exact cOK uM (by kernel_rfl)
    · rcases cond_some hp with ⟨_, rfl⟩ | ⟨_, rfl⟩
      · exact cFOK uN (by kernel_rfl)
      · exact cOK uN (by kernel_rfl)
    · cases hp; exact growI
    · cases hp; exact growN
    · cases hp
theorem zone_calls {W : World} {f : FuncId} {vs : List Value} {aa : List PV} {v : Value} (ha : Cs (g0 W) vs aa) (h : ans (env P0) f aa = some (.val v)) :
    Calls P0 f vs.toArray W fun e W' => e = .returned v ∧ Below W.heap.size W W' :=
  door_calls (E := env P0) invW_ok tab_ok prim_fr prim_dd prim_ok trivial ha h
theorem own : ownKnob P0.godebug = none := by kernel_rfl
theorem laidOut : laidOutB P0 = true := by kernel_rfl
def LawOK (k : FuncId) (ts : List TypeId) : Prop := ∀ aa, FitAll P0 12 ts aa → ans (env P0) k aa = some (.val (.bool true))
noncomputable def theWorld (os : Os) : World := World.holding P0 os ⟨#[], #[], []⟩
theorem lift {H : Type} {enc : TypeId × Value → H} {os : Os} (started : os.Started) {k : FuncId} {fn : Func} {s : ChangeSpec} {F : Stop.Interp} (hfn : P0.funcs[k]? = some fn) (noInit : P0.inits.idxOf? k = none) (hvars : s.vars = [])
    (hspec : ∀ ds : List (DataW H), ds.length = fn.params.toList.length → s.fn H ds = { results := [.lit (.bool true)], args := ds }) (hres : fn.resultTypes = #[4])
    (hrd : (fn.params.toList.all fun t => rdB P0 12 t && P0.readableRec t && decide (t < P0.types.size)) = true) (hlaw : LawOK k fn.params.toList) (wargs : Array Value)
    (hok : Input.okWideB P0 ((theWorld os).forCall (fun _ _ => 0) ⟨#[], wargs, []⟩) k ⟨#[], wargs, []⟩ = true)
    (hvr : ((theWorld os).forCall (fun _ _ => 0) ⟨#[], wargs, []⟩).variablesRefB P0 = true)
    (hhp : ((((theWorld os).forCall (fun _ _ => 0) ⟨#[], wargs, []⟩).heap.toList.drop P0.globals.size).take ((begin P0 (fun _ _ => 0) default).world.heap.size - P0.globals.size) = (begin P0 (fun _ _ => 0) default).world.heap.toList.drop P0.globals.size))
    (hrow : (OpenSpec.ofChange s).preRow enc P0 fn [] false [] ((theWorld os).forCall (fun _ _ => 0) ⟨#[], wargs, []⟩).memory wargs) :
    ReturnsInHanded {} Tryz.checked os k .any ((OpenSpec.ofChange s).preRow enc P0 fn [] false []) (((OpenSpec.ofChange s).at F).post enc P0 fn false true false false) := by
  refine returnsInHanded_of_row (C := Tryz.checked) (s := OpenSpec.ofChange s) own started noInit hfn (witness_row_atRef (enc := enc) (C := Tryz.checked) false (theWorld os) wargs rfl hvr hhp hok hrow) ?_
  intro W base args ds gs before hval hW _ _ _ hL hS _
  have hrd' : ∀ t ∈ fn.params.toList, rdB P0 12 t = true ∧ P0.readableRec t = true ∧ t < P0.types.size := fun t ht => by
    have := List.all_eq_true.1 hrd t ht
    simp only [Bool.and_eq_true, decide_eq_true_eq] at this
    exact ⟨this.1.1, this.1.2, this.2⟩
  have hW0 : DataW.Whole enc P0 fn.params.toList s.vars false W args.toList ds gs before := hW
  have hW1 := hW0
  obtain ⟨p, q, hA, hV, _, _, _⟩ := hW1
  rw [hvars] at hV
  obtain ⟨rfl, _⟩ := trodVars_none hV
  obtain ⟨aa, hc, hfit⟩ := args_read (fun t ht => (hrd' t ht).1) (fun j t v a b => hval j t v (by simpa using a) (by simpa using b)) hA
  have hlen : ∀ {ts : List TypeId} {vs : List Value} {ds : List (DataW H)} {ps : List MemPlace}, DataW.TrodAll enc P0 W 0 (fun _ => true) true ts vs ds ps → ds.length = ts.length := by
    intro ts
    induction ts with
    | nil => intro vs ds ps h; match vs, ds, h with | [], [], _ => rfl
    | cons t ts ih => intro vs ds ps h; match vs, ds, h with | _ :: _, _ :: _, ⟨_, _, _, h2, _⟩ => simp [ih h2]
  have hcall := zone_calls (f := k) (vs := args.toList) hc (hlaw aa hfit)
  rw [Array.toArray_toList] at hcall
  refine hcall.mono ?_
  rintro e W' ⟨rfl, hb⟩
  refine ⟨_, rfl, ?_⟩
  exact law_post (s := s) (tb := 4) laidOut hW0 hvars (by rw [List.append_nil]; exact hspec ds (hlen hA)) hres Tryz.underlying4 (fun t ht => ⟨(hrd' t ht).2.1, (hrd' t ht).2.2⟩) hb
end Go.Evl.Zone

namespace Go.Evl.Zone
open Go Go.Evl Go.Evl.Fl
attribute [local simp] VB_ite VG_ite
variable {P : Program}
def spotN (x : Int) : Int := x % 18446744073709551616 % 2001 - 1000
theorem spotN_near (x : Int) : near (spotN x) = true := by
  unfold near spotN
  rw [Bool.and_eq_true, decide_eq_true_eq, decide_eq_true_eq]; omega
def placeV (x y : Int) : PV := .agg [.val (.int .i64 x), .val (.int .i64 y)]
theorem wrap64_id {n : Int} (h : -9223372036854775808 ≤ n ∧ n ≤ 9223372036854775807) : IntKind.i64.wrap n = n := by rw [IntKind.wrap_i64]; omega
theorem wrapU64 {n : Int} : IntKind.u64.wrap n = n % 18446744073709551616 := rfl
theorem tmod_pos {a b : Int} (ha : 0 ≤ a) (hb : 0 ≤ b) : a.tmod b = a % b := Int.tmod_eq_emod_of_nonneg ha
theorem refSpot_ans (T : Typed P) {x y : Int} : ans (env P) 9 [placeV x y] = some (placeV (spotN x) (spotN y)) := by
  refine ans_V rfl rfl ?_
  have e3 : ∀ n : Int, scal P (Go.convert 3 40 (.int .i64 n)) = some (.val (.int .u64 (n % 18446744073709551616))) := fun n => by
    rw [cv_ii (k := .u64) (by show (P.underlying 3).isSome = true; rw [T.t3]; rfl) T.t53, wrapU64]
  have e4 : ∀ n : Int, scal P (Go.convert 40 3 (.int .u64 (n % 18446744073709551616 % 2001))) = some (.val (.int .i64 (n % 18446744073709551616 % 2001))) := fun n => by
    rw [cv_ii (k := .i64) (by show (P.underlying 40).isSome = true; rw [T.t53]; rfl) T.t3, wrap64_id (by omega)]
  have e5 : ∀ n : Int, (n % 18446744073709551616).tmod 2001 = n % 18446744073709551616 % 2001 := fun n => tmod_pos (by omega) (by omega)
  have e6 : ∀ n : Int, IntKind.i64.wrap (n % 18446744073709551616 % 2001 - 1000) = spotN n := fun n => wrap64_id (by omega)
  simp [c9, placeV, e3, e4, e5, e6]
theorem spot_ans (T : Typed P) {x y : Int} : ans (env P) 8 [placeV x y] = some (.val (.complex .f64 (FloatKind.f64.nearest x) (FloatKind.f64.nearest y))) := by
  refine ans_V rfl rfl ?_
  have e3 : ∀ n : Int, scal P (Go.convert 3 97 (.int .i64 n)) = some (.val (.float .f64 (FloatKind.f64.nearest n))) := fun n => cv_if (by show (P.underlying 3).isSome = true; rw [T.t3]; rfl) T.t41
  simp [c8, placeV, e3]
def stepV (op : Int) (re im sz : Nat) : PV := .agg [.val (.int .i64 op), .val (.complex .f64 re im), .val (.float .f64 sz)]
def needsN (op : Int) : Int := if op = 4 then 1 else if op = 5 ∨ op = 6 then 2 else 0
theorem needs_ans {op : Int} {re im sz : Nat} : ans (env P) 68 [stepV op re im sz] = some (.val (.int .i64 (needsN op))) := by
  refine ans_V rfl rfl ?_
  by_cases h4 : op = 4
  · simp [c68, stepV, needsN, h4]
  · by_cases h5 : op = 5
    · simp [c68, stepV, needsN, h5]
    · by_cases h6 : op = 6
      · simp [c68, stepV, needsN, h6]
      · simp [c68, stepV, needsN, h4, h5, h6]
def rightB (op x y s : Int) : Bool :=
  if op = 2 then near x && near y && (decide (0 ≤ s) && decide (s ≤ 2000))
  else if op = 3 then near x && near y && (decide (-2000000 ≤ s) && decide (s ≤ 2000000))
  else if op = 1 ∨ op = 4 ∨ op = 5 ∨ op = 6 then decide (x = 0) && decide (y = 0) && decide (s = 0)
  else false
theorem ceql0 {a b : Nat} {x y : Int} (ha : Is a x) (hb : Is b y) {t : TypeId} {cx cy : Bool} :
    evBin P .eql t cx cy (.val (.complex .f64 a b)) (.val (.complex .f64 0 0)) = some (.val (.bool (decide (x = 0) && decide (y = 0)))) := by
  have h1 : FloatKind.f64.format.order a 0 = some (compare x 0) := ha.order is0
  have h2 : FloatKind.f64.format.order b 0 = some (compare y 0) := hb.order is0
  rw [evBin_ceql, h1, h2]
  have key : ∀ z : Int, (some (compare z 0) == some Ordering.eq) = decide (z = 0) := fun z => by
    simp only [compare, compareOfLessAndEq]
    rcases Int.lt_trichotomy z 0 with h | h | h
    · have : ¬ z = 0 := by omega
      simp [h, this]
    · simp [h]
    · have h0 : ¬ z < 0 := by omega
      have : ¬ z = 0 := by omega
      simp [h0, this]
  rw [key, key]
theorem right_is {op : Int} {re im sz : Nat} {x y s : Int} (hx : Is re x) (hy : Is im y) (hs : Is sz s) : ans (env P) 92 [stepV op re im sz] = some (.val (.bool (rightB op x y s))) := by
  refine ans_V rfl rfl ?_
  have hw := whole_is (P := P) hx hy
  have h0 := ceql0 (P := P) hx hy (t := 50) (cx := false) (cy := true)
  have hs0 := (evBin_ford (P := P) hs is0 (t := 97) (cx := false) (cy := true)).2.2
  by_cases h2 : op = 2
  · subst h2
    cases hn : (near x && near y) <;> simp [c92, stepV, hw, hn, wholeTo_is hs is0 is2000, rightB]
  · by_cases h3 : op = 3
    · subst h3
      cases hn : (near x && near y) <;> simp [c92, stepV, hw, hn, wholeTo_is hs isM2M is2M, rightB]
    · by_cases h1 : op = 1
      · subst h1
        cases hn : (decide (x = 0) && decide (y = 0)) <;> simp [c92, stepV, h0, hs0, hn, rightB]
      · by_cases h4 : op = 4
        · subst h4
          cases hn : (decide (x = 0) && decide (y = 0)) <;> simp [c92, stepV, h0, hs0, hn, rightB]
        · by_cases h5 : op = 5
          · subst h5
            cases hn : (decide (x = 0) && decide (y = 0)) <;> simp [c92, stepV, h0, hs0, hn, rightB]
          · by_cases h6 : op = 6
            · subst h6
              cases hn : (decide (x = 0) && decide (y = 0)) <;> simp [c92, stepV, h0, hs0, hn, rightB]
            · simp [c92, stepV, h1, h2, h3, h4, h5, h6, rightB]
end Go.Evl.Zone

namespace Go.Evl.Zone
open Go Go.Evl Go.Evl.Fl
attribute [local simp] VB_ite VG_ite
variable {P : Program}
theorem arith_ok {op : BinOp} {a b r : Nat} (h : (match op with
    | .add => FloatKind.f64.format.add a b
    | .sub => FloatKind.f64.format.sub a b
    | .mul => FloatKind.f64.format.mul a b
    | _ => none) = some r) : Op.Complex.arith op .f64 a b = pure r := by
  unfold Op.Complex.arith Op.floatArith
  cases op <;> simp at h <;> simp [h]
theorem csub_ok {t : TypeId} {cx cy : Bool} {a b c d e f : Nat} (h1 : FloatKind.f64.format.sub a c = some e) (h2 : FloatKind.f64.format.sub b d = some f) :
    evBin P .sub t cx cy (.val (.complex .f64 a b)) (.val (.complex .f64 c d)) = some (.val (.complex .f64 e f)) := by
  have e1 := arith_ok (op := .sub) h1
  have e2 := arith_ok (op := .sub) h2
  have : binOp .sub t (.complex .f64 a b) (.complex .f64 c d) = (pure (.complex .f64 e f) : Sem Value) := by
    simp [binOp, Op.complexOp, e1, e2]
  simp only [evBin, toV, this]; rfl
theorem cmul_ok {t : TypeId} {cx cy : Bool} {a b c d ac bd ad bc e f : Nat} (h1 : FloatKind.f64.format.mul a c = some ac) (h2 : FloatKind.f64.format.mul b d = some bd) (h3 : FloatKind.f64.format.mul a d = some ad) (h4 : FloatKind.f64.format.mul b c = some bc)
    (h5 : FloatKind.f64.format.sub ac bd = some e) (h6 : FloatKind.f64.format.add ad bc = some f) :
    evBin P .mul t cx cy (.val (.complex .f64 a b)) (.val (.complex .f64 c d)) = some (.val (.complex .f64 e f)) := by
  have e1 := arith_ok (op := .mul) h1
  have e2 := arith_ok (op := .mul) h2
  have e3 := arith_ok (op := .mul) h3
  have e4 := arith_ok (op := .mul) h4
  have e5 := arith_ok (op := .sub) h5
  have e6 := arith_ok (op := .add) h6
  have : binOp .mul t (.complex .f64 a b) (.complex .f64 c d) = (pure (.complex .f64 e f) : Sem Value) := by
    simp [binOp, Op.complexOp, Op.Complex.conv, Op.Complex.product, Op.Complex.mul, Op.Complex.sub, Op.Complex.add, e1, e2, e3, e4, e5, e6]
  simp only [evBin, toV, this]; rfl
def sm (n : Int) : Prop := -3000 ≤ n ∧ n ≤ 3000
theorem abs_lt53 {n : Int} (h : -100000000 ≤ n ∧ n ≤ 100000000) : n.natAbs < 2 ^ 53 := by
  simp only [Nat.reducePow]; omega
theorem mul_le {a b : Int} (ha : sm a) (hb : sm b) : -9000000 ≤ a * b ∧ a * b ≤ 9000000 := by
  unfold sm at ha hb
  have h1 : 0 ≤ (3000 - a) * (3000 + b) := Int.mul_nonneg (by omega) (by omega)
  have h2 : 0 ≤ (3000 + a) * (3000 - b) := Int.mul_nonneg (by omega) (by omega)
  have h3 : 0 ≤ (3000 - a) * (3000 - b) := Int.mul_nonneg (by omega) (by omega)
  have h4 : 0 ≤ (3000 + a) * (3000 + b) := Int.mul_nonneg (by omega) (by omega)
  rw [Int.sub_mul, Int.mul_add, Int.mul_add] at h1
  rw [Int.add_mul, Int.mul_sub, Int.mul_sub] at h2
  rw [Int.sub_mul, Int.mul_sub, Int.mul_sub] at h3
  rw [Int.add_mul, Int.mul_add, Int.mul_add] at h4
  generalize a * b = ab at *
  omega
theorem cmul_is {t : TypeId} {cx cy : Bool} {a b c d : Nat} {m n p q : Int} (ha : Is a m) (hb : Is b n) (hc : Is c p) (hd : Is d q) (sm1 : sm m) (sm2 : sm n) (sm3 : sm p) (sm4 : sm q) :
    ∃ e f, evBin P .mul t cx cy (.val (.complex .f64 a b)) (.val (.complex .f64 c d)) = some (.val (.complex .f64 e f)) ∧ Is e (m * p - n * q) ∧ Is f (m * q + n * p) := by
  have b1 := mul_le sm1 sm3
  have b2 := mul_le sm2 sm4
  have b3 := mul_le sm1 sm4
  have b4 := mul_le sm2 sm3
  obtain ⟨ac, h1, i1⟩ := ha.mul hc (abs_lt53 (by omega))
  obtain ⟨bd, h2, i2⟩ := hb.mul hd (abs_lt53 (by omega))
  obtain ⟨ad, h3, i3⟩ := ha.mul hd (abs_lt53 (by omega))
  obtain ⟨bc, h4, i4⟩ := hb.mul hc (abs_lt53 (by omega))
  obtain ⟨e, h5, i5⟩ := i1.sub i2 (abs_lt53 (by omega))
  obtain ⟨f, h6, i6⟩ := i3.add i4 (abs_lt53 (by omega))
  exact ⟨e, f, cmul_ok h1 h2 h3 h4 h5 h6, i5, i6⟩
theorem csub_is {t : TypeId} {cx cy : Bool} {a b c d : Nat} {m n p q : Int} (ha : Is a m) (hb : Is b n) (hc : Is c p) (hd : Is d q) (sm1 : sm m) (sm2 : sm n) (sm3 : sm p) (sm4 : sm q) :
    ∃ e f, evBin P .sub t cx cy (.val (.complex .f64 a b)) (.val (.complex .f64 c d)) = some (.val (.complex .f64 e f)) ∧ Is e (m - p) ∧ Is f (n - q) := by
  unfold sm at *
  obtain ⟨e, h5, i5⟩ := ha.sub hc (abs_lt53 (by omega))
  obtain ⟨f, h6, i6⟩ := hb.sub hd (abs_lt53 (by omega))
  exact ⟨e, f, csub_ok h5 h6, i5, i6⟩
theorem conj_ans {a b : Nat} : ans (env P) 138 [.val (.complex .f64 a b)] = some (.val (.complex .f64 a (Op.negFloat .f64 b))) := by
  refine ans_V rfl rfl ?_
  simp [c138]
theorem along_is {a b c d : Nat} {m n p q : Int} (ha : Is a m) (hb : Is b n) (hc : Is c p) (hd : Is d q) (sm1 : sm m) (sm2 : sm n) (sm3 : sm p) (sm4 : sm q) :
    ∃ e, ans (env P) 104 [.val (.complex .f64 a b), .val (.complex .f64 c d)] = some (.val (.float .f64 e)) ∧ Is e (m * p + n * q) := by
  obtain ⟨e, f, h1, h2, h3⟩ := cmul_is (P := P) (t := 50) (cx := false) (cy := false) ha hb hc hd.neg sm1 sm2 sm3 (by unfold sm at *; omega)
  refine ⟨e, ans_V rfl rfl ?_, ?_⟩
  · simp [c104, conj_ans, h1]
  · rw [Int.mul_neg, Int.sub_neg] at h2; exact h2
def truthB (op x y s px py : Int) (t : List Bool) : Bool :=
  if op = 2 then decide ((px - x) * (px - x) + (py - y) * (py - y) ≤ s * s)
  else if op = 3 then decide (s ≤ px * x + py * y)
  else if op = 4 then !(t.getD 0 false)
  else if op = 5 then t.getD 0 false && t.getD 1 false
  else if op = 6 then t.getD 0 false || t.getD 1 false
  else true
def boolsV (t : List Bool) : List (List PV) := t.map fun b => [.val (.bool b)]
theorem evBin_fmul {t : TypeId} {cx cy : Bool} {a b c : Nat} (h : FloatKind.f64.format.mul a b = some c) : evBin P .mul t cx cy (.val (.float .f64 a)) (.val (.float .f64 b)) = some (.val (.float .f64 c)) := by
  have : binOp .mul t (.float .f64 a) (.float .f64 b) = (pure (.float .f64 c) : Sem Value) := by simp [binOp, Op.floatArith, h]
  simp only [evBin, toV, this]; rfl
theorem truth_is {op : Int} {re im sz a b : Nat} {x y s px py : Int} {t : List Bool} {full : Bool} (hx : Is re x) (hy : Is im y) (hs : Is sz s) (ha : Is a px) (hb : Is b py) (n1 : near x = true) (n2 : near y = true) (n3 : near px = true) (n4 : near py = true)
    (hz : op = 2 → 0 ≤ s ∧ s ≤ 2000) (hl : (t.length : Int) = needsN op) : ans (env P) 69 [stepV op re im sz, .val (.complex .f64 a b), .im (boolsV t) full] = some (.val (.bool (truthB op x y s px py t))) := by
  simp only [near, Bool.and_eq_true, decide_eq_true_eq] at n1 n2 n3 n4
  refine ans_V rfl rfl ?_
  by_cases h2 : op = 2
  · subst h2
    have hz := hz rfl
    obtain ⟨e, f, h1, i1, i2⟩ := csub_is (P := P) (t := 50) (cx := false) (cy := false) ha hb hx hy (by unfold sm; omega) (by unfold sm; omega) (by unfold sm; omega) (by unfold sm; omega)
    obtain ⟨g, h3, i3⟩ := along_is (P := P) i1 i2 i1 i2 (by unfold sm; omega) (by unfold sm; omega) (by unfold sm; omega) (by unfold sm; omega)
    have bs := mul_le (a := s) (b := s) (by unfold sm; omega) (by unfold sm; omega)
    obtain ⟨h, h4, i4⟩ := hs.mul hs (abs_lt53 (by omega))
    have h5 := (evBin_ford (P := P) (t := 97) (cx := false) (cy := false) i3 i4).2.1
    simp [c69, stepV, h1, h3, evBin_fmul h4, h5, truthB]
  · by_cases h3 : op = 3
    · subst h3
      obtain ⟨g, h3, i3⟩ := along_is (P := P) ha hb hx hy (by unfold sm; omega) (by unfold sm; omega) (by unfold sm; omega) (by unfold sm; omega)
      have h5 := (evBin_ford (P := P) (t := 97) (cx := false) (cy := false) i3 hs).1
      simp [c69, stepV, h3, h5, truthB]
    · by_cases h4 : op = 4
      · subst h4
        match t, hl with
        | [b0], _ => simp [c69, stepV, truthB, boolsV, allLen]
      · by_cases h5 : op = 5
        · subst h5
          match t, hl with
          | [b0, b1], _ => cases b0 <;> simp [c69, stepV, truthB, boolsV, allLen]
        · by_cases h6 : op = 6
          · subst h6
            match t, hl with
            | [b0, b1], _ => cases b0 <;> simp [c69, stepV, truthB, boolsV, allLen]
          · simp [c69, stepV, h2, h3, h4, h5, h6, truthB]
end Go.Evl.Zone

namespace Go.Evl.Zone
open Go Go.Evl Go.Evl.Fl
attribute [local simp] VB_ite VG_ite
variable {P : Program}
theorem V_loop {E : Env} {f : FuncId} {b : CC} {st : St} {ks : List Fr'} {K : Ex → St → Prop} : V E f (.loop b) st ks K ↔ V E f b st (.seq (.loop b) :: ks) K := W_loop
structure SI where
  op : Int
  x : Int
  y : Int
  s : Int
  re : Nat
  im : Nat
  sz : Nat
def SI.ok (q : SI) : Prop := Is q.re q.x ∧ Is q.im q.y ∧ Is q.sz q.s
def SI.cells (q : SI) : List PV := [.val (.int .i64 q.op), .val (.complex .f64 q.re q.im), .val (.float .f64 q.sz)]
def stepsV (l : List SI) : List (List PV) := l.map SI.cells
@[simp] theorem stepsV_length (l : List SI) : (stepsV l).length = l.length := by simp [stepsV]
@[simp] theorem stepsV_len : ∀ (l : List SI), allLen 3 (stepsV l) = true
  | [] => rfl
  | q :: l => by simp only [stepsV, List.map_cons, allLen, SI.cells]; rw [show (List.map SI.cells l) = stepsV l from rfl, stepsV_len l]; rfl
theorem stepsV_get {l : List SI} {i : Nat} {q : SI} (h : l[i]? = some q) : (stepsV l)[i]? = some q.cells := by simp [stepsV, h]
def SI.right (q : SI) : Bool := rightB q.op q.x q.y q.s
def foldR : List SI → Int → Option Int
  | [], n => some n
  | q :: l, n => if q.right = false ∨ n < needsN q.op then none else foldR l (n + (1 - needsN q.op))
theorem needsN_le (op : Int) : 0 ≤ needsN op ∧ needsN op ≤ 2 := by
  unfold needsN
  split
  · omega
  · split <;> omega
theorem loop14 {L : List SI} (hok : ∀ q ∈ L, q.ok) {ks : List Fr'} {K : Ex → St → Prop} (hL : L.length ≤ 32) : ∀ (rest : List SI) (i : Nat) (n : Int) (st : St), L.drop i = rest → 0 ≤ n ∧ n ≤ i → st.σ 9 = .im (stepsV L) false → st.σ 10 = .val (.int .i64 L.length) → st.σ 11 = .val (.int .i64 i) → st.σ 3 = .val (.int .i64 n) →
    (∀ st', foldR rest n = none → st'.σ 2 = .val (.bool false) → K .ret st') → (∀ st' m, foldR rest n = some m → st'.σ 3 = .val (.int .i64 m) → VN (env P) 46 st' ks K) → V (env P) 46 (.loop L46_0) st (.blk 0 :: ks) K
  | [], i, n, st, hr, hn, h9, h10, h11, h3, hret, hend => by
    have hi : L.length ≤ i := by
      have := congrArg List.length hr; simp at this; omega
    have hlt : ¬ i < L.length := by omega
    rw [V_loop]
    simp [L46_0, h10, h11, hlt]
    refine hend _ n rfl ?_
    simp [h3]
  | q :: rest, i, n, st, hr, hn, h9, h10, h11, h3, hret, hend => by
    have hq : L[i]? = some q := by
      have : (L.drop i)[0]? = some q := by rw [hr]; rfl
      simpa using this
    have hlt : i < L.length := (List.getElem?_eq_some_iff.1 hq).1
    have hr' : L.drop (i + 1) = rest := by rw [← List.drop_drop, hr]; rfl
    have hqo := hok q (List.mem_of_getElem? hq)
    have hc : ∀ h, (stepsV L)[i]'h = q.cells := fun h => (List.getElem?_eq_some_iff.1 (stepsV_get hq)).2
    have hri := right_is (P := P) (op := q.op) hqo.1 hqo.2.1 hqo.2.2
    have hne := needs_ans (P := P) (op := q.op) (re := q.re) (im := q.im) (sz := q.sz)
    rw [stepV] at hri hne
    have hb := needsN_le q.op
    have hw : IntKind.i64.wrap (1 - needsN q.op) = 1 - needsN q.op := wrap64_id (by omega)
    have hw2 : IntKind.i64.wrap (n + (1 - needsN q.op)) = n + (1 - needsN q.op) := wrap64_id (by omega)
    have hw3 : IntKind.i64.wrap ((i : Int) + 1) = ((i + 1 : Nat) : Int) := by rw [wrap64_id (by omega)]; rfl
    rw [V_loop]
    cases hqr : q.right with
    | false =>
      have hqr' : rightB q.op q.x q.y q.s = false := hqr
      simp [L46_0, h9, h10, h11, h3, hlt, hc, SI.cells, hri, hqr']
      refine hret _ (by simp [foldR, hqr]) ?_
      simp
    | true =>
      have hqr' : rightB q.op q.x q.y q.s = true := hqr
      by_cases hnn : n < needsN q.op
      · simp [L46_0, h9, h10, h11, h3, hlt, hc, SI.cells, hri, hqr', hne, hnn]
        refine hret _ (by simp [foldR, hnn]) ?_
        simp
      · simp [L46_0, h9, h10, h11, h3, hlt, hc, SI.cells, hri, hqr', hne, hnn, hw, hw2, hw3]
        refine loop14 hok hL rest (i + 1) (n + (1 - needsN q.op)) _ hr' (by omega) ?_ ?_ ?_ ?_ ?_ ?_
        · simp [h9]
        · simp [h10]
        · simp
        · simp
        · intro st' hf hs; exact hret st' (by simp [foldR, hqr, hnn, hf]) hs
        · intro st' m hf hs; exact hend st' m (by simp [foldR, hqr, hnn, hf]) hs
def zoneRight (l : List SI) : Bool := decide (l.length ≤ 32) && decide (foldR l 0 = some 1)
theorem zoneRight_ans {l : List SI} (hok : ∀ q ∈ l, q.ok) : ans (env P) 46 [.im (stepsV l) false] = some (.val (.bool (zoneRight l))) := by
  refine ans_V rfl rfl ?_
  by_cases h : l.length ≤ 32
  · have h' : ¬ ((32 : Int) < (l.length : Int)) := by omega
    simp [c46, h']
    refine loop14 hok h l 0 0 _ rfl (by omega) ?_ ?_ ?_ ?_ ?_ ?_
    · simp
    · simp
    · simp
    · simp
    · intro st' hf hs; simp [hs, zoneRight, hf]
    · intro st' m hf hs
      simp [hs, zoneRight, hf, h]
  · have h' : (32 : Int) < (l.length : Int) := by omega
    simp [c46, h', zoneRight, h]
end Go.Evl.Zone

namespace Go.Evl.Zone
open Go Go.Evl Go.Evl.Fl
attribute [local simp] VB_ite VG_ite
variable {P : Program}
def SI.truth (q : SI) (px py : Int) (t : List Bool) : Bool := truthB q.op q.x q.y q.s px py t
def stepT (q : SI) (px py : Int) (t : List Bool) : List Bool := t.take (t.length - (needsN q.op).toNat) ++ [q.truth px py (t.drop (t.length - (needsN q.op).toNat))]
def runT (px py : Int) : List SI → List Bool → List Bool
  | [], t => t
  | q :: l, t => runT px py l (stepT q px py t)
theorem right_near {op x y s : Int} (h : rightB op x y s = true) : near x = true ∧ near y = true ∧ (op = 2 → 0 ≤ s ∧ s ≤ 2000) := by
  unfold rightB at h
  split at h
  · simp only [Bool.and_eq_true, decide_eq_true_eq] at h
    exact ⟨h.1.1, h.1.2, fun _ => h.2⟩
  · rename_i h2
    split at h
    · simp only [Bool.and_eq_true, decide_eq_true_eq] at h
      exact ⟨h.1.1, h.1.2, fun q => (h2 q).elim⟩
    · split at h
      · simp only [Bool.and_eq_true, decide_eq_true_eq] at h
        obtain ⟨⟨rfl, rfl⟩, _⟩ := h
        exact ⟨by decide, by decide, fun q => (h2 q).elim⟩
      · simp at h
theorem boolsV_length (t : List Bool) : (boolsV t).length = t.length := by simp [boolsV]
theorem boolsV_drop (t : List Bool) (k : Nat) : (boolsV t).drop k = boolsV (t.drop k) := by simp [boolsV]
theorem boolsV_take (t : List Bool) (k : Nat) : (boolsV t).take k = boolsV (t.take k) := by simp [boolsV, List.map_take]
theorem plainss_bools : ∀ t : List Bool, plainss (boolsV t) = some (boolsV t)
  | [] => rfl
  | b :: t => by
    have := plainss_bools t
    simp only [boolsV, List.map_cons, plainss, plains, plain] at *
    rw [this]; rfl
structure Stack (st : St) (t : List Bool) (r g : Nat) (xs : List (List PV)) : Prop where
  v : st.σ 5 = .sl r 1 g 0 t.length
  b : st.h.at_ r = .row 1 xs true
  g : g = xs.length
  le : t.length ≤ xs.length
  eq : xs.take t.length = boolsV t
  lt : r < st.h.n
theorem slice_lo {H : Heap} {r g len k : Nat} {xs : List (List PV)} {own : Bool} (hat : H.at_ r = .row 1 xs own) (hg : g = xs.length) (hk : k ≤ len) (hl : len ≤ xs.length) : sliceP H 1 (.sl r 1 g 0 len) none (some k) none = some (.sl r 1 g 0 k, [r]) := by
  unfold sliceP
  simp only [hat]
  rw [if_pos ⟨by decide, trivial, trivial, hg, by simp, by simp; omega⟩]
  simp
theorem slice_hi {H : Heap} {r g len k : Nat} {xs : List (List PV)} {own : Bool} (hat : H.at_ r = .row 1 xs own) (hg : g = xs.length) (hk : k ≤ len) (hl : len ≤ xs.length) : sliceP H 1 (.sl r 1 g 0 len) (some k) none none = some (if k = len ∧ 0 < k then .im [] false else .sl r 1 g k (len - k), [r]) := by
  unfold sliceP
  simp only [hat]
  rw [if_pos ⟨by decide, trivial, trivial, hg, by simp; omega, by simp; omega⟩]
  simp only [Option.getD_some, Option.getD_none, Nat.zero_add]
  split <;> rfl
def over (xs : List (List PV)) (k : Nat) (y : List PV) : List (List PV) := if k + 1 ≤ xs.length then setL xs k [y] else xs.take k ++ [y]
theorem app_one {H : Heap} {slot r k : Nat} {xs : List (List PV)} {y : List PV} (hat : H.at_ r = .row 1 xs true) (hk : k ≤ xs.length) (hm : k + 1 ≤ most) :
    appendP H slot 1 (.sl r 1 xs.length 0 k) [y] = some (.sl r 1 (over xs k y).length 0 (k + 1), H.put r (.row 1 (over xs k y) true), [r], [r]) := by
  unfold appendP over
  simp only [hat]
  rw [if_neg (by simp), if_pos ⟨trivial, trivial, trivial, by omega⟩]
  by_cases h : k + 1 ≤ xs.length
  · rw [if_pos h, if_pos (by simp; omega)]
    have : (setL xs k [y]).length = xs.length := by unfold setL; simp; omega
    rw [this, Nat.zero_add]; rfl
  · rw [if_neg h, if_neg (by simp; omega), if_pos ⟨trivial, by simpa using hm⟩]
    have : (xs.take k ++ [y]).length = k + 1 := by simp; omega
    rw [this]; rfl
theorem over_len {xs : List (List PV)} {k : Nat} {y : List PV} (hk : k ≤ xs.length) : k + 1 ≤ (over xs k y).length := by
  unfold over
  split
  · unfold setL; simp; omega
  · simp; omega
theorem over_take {xs : List (List PV)} {k : Nat} {y : List PV} (hk : k ≤ xs.length) : (over xs k y).take (k + 1) = xs.take k ++ [y] := by
  unfold over
  split
  · unfold setL
    rw [List.take_append_of_le_length (by simp; omega)]
    exact List.take_of_length_le (by simp; omega)
  · exact List.take_of_length_le (by simp; omega)
end Go.Evl.Zone

namespace Go.Evl.Zone
open Go Go.Evl Go.Evl.Fl
attribute [local simp] VB_ite VG_ite
variable {P : Program}
@[simp] theorem freeze_nil (H : Heap) : freeze H [] = H := rfl
theorem loop15 {L : List SI} (hok : ∀ q ∈ L, q.ok) {ks : List Fr'} {K : Ex → St → Prop} (hL : L.length ≤ 32) {a b : Nat} {px py : Int} (ha : Is a px) (hb : Is b py) (n3 : near px = true) (n4 : near py = true) (m : Int) :
    ∀ (rest : List SI) (i : Nat) (t : List Bool) (st : St), L.drop i = rest → foldR rest t.length = some m → t.length ≤ i → (∃ r g xs, Stack st t r g xs) →
    st.σ 17 = .im (stepsV L) false → st.σ 18 = .val (.int .i64 L.length) → st.σ 19 = .val (.int .i64 i) → st.σ 1 = .val (.complex .f64 a b) →
    (∀ st', (∃ r g xs, Stack st' (runT px py rest t) r g xs) → VN (env P) 30 st' ks K) → V (env P) 30 (.loop L30_0) st (.blk 0 :: ks) K
  | [], i, t, st, hr, hf, hti, ⟨r, g, xs, hs⟩, h17, h18, h19, h1, hend => by
    have hi : L.length ≤ i := by
      have := congrArg List.length hr; simp at this; omega
    have hlt : ¬ i < L.length := by omega
    rw [V_loop]
    simp [L30_0, h18, h19, hlt]
    refine hend _ ⟨r, g, xs, ⟨by simp [hs.v, runT], ?_, hs.g, hs.le, hs.eq, ?_⟩⟩
    · simp [hs.b, hs.lt]
    · simp; exact hs.lt
  | q :: rest, i, t, st, hr, hf, hti, ⟨r, g, xs, hs⟩, h17, h18, h19, h1, hend => by
    have hq : L[i]? = some q := by
      have : (L.drop i)[0]? = some q := by rw [hr]; rfl
      simpa using this
    have hlt : i < L.length := (List.getElem?_eq_some_iff.1 hq).1
    have hr' : L.drop (i + 1) = rest := by rw [← List.drop_drop, hr]; rfl
    have hqo := hok q (List.mem_of_getElem? hq)
    have hc : ∀ h, (stepsV L)[i]'h = q.cells := fun h => (List.getElem?_eq_some_iff.1 (stepsV_get hq)).2
    have hb2 := needsN_le q.op
    unfold foldR at hf
    split at hf
    · simp at hf
    · rename_i hno
      simp only [not_or, Bool.not_eq_false, Int.not_lt] at hno
      obtain ⟨hqr, hnn⟩ := hno
      obtain ⟨nx, ny, nz⟩ := right_near hqr
      obtain ⟨k, hk⟩ : ∃ k : Nat, (k : Int) = t.length - needsN q.op := ⟨(t.length - needsN q.op).toNat, by omega⟩
      have hkle : k ≤ t.length := by omega
      have hkk : t.length - (needsN q.op).toNat = k := by omega
      have hne := needs_ans (P := P) (op := q.op) (re := q.re) (im := q.im) (sz := q.sz)
      rw [stepV] at hne
      have hw : IntKind.i64.wrap ((t.length : Int) - needsN q.op) = (k : Int) := by rw [← hk]; exact wrap64_id (by omega)
      have hw3 : IntKind.i64.wrap ((i : Int) + 1) = ((i + 1 : Nat) : Int) := by rw [wrap64_id (by omega)]; rfl
      have hrn : ¬ r = st.h.n := by have := hs.lt; omega
      have hrl : r < st.h.n + 1 := by have := hs.lt; omega
      have htr := truth_is (P := P) (op := q.op) (t := t.drop k) (full := false) hqo.1 hqo.2.1 hqo.2.2 ha hb nx ny n3 n4 nz (by simp; omega)
      rw [stepV] at htr
      obtain ⟨hv, hbk, hg, hle, heq, hrlt⟩ := hs
      subst hg
      have hsl : ∀ H : Heap, H.at_ r = .row 1 xs true → sliceP H 1 (.sl r 1 xs.length 0 t.length) none (some k) none = some (.sl r 1 xs.length 0 k, [r]) := fun H h => slice_lo h rfl hkle hle
      have hpp : plainss ((xs.drop k).take (t.length - k)) = some (boolsV (t.drop k)) := by
        rw [← plainss_bools, ← boolsV_drop, ← heq, List.drop_take]
      have happ : ∀ (H : Heap) (slot : Nat), H.at_ r = .row 1 xs true → appendP H slot 1 (.sl r 1 xs.length 0 k) [[.val (.bool (truthB q.op q.x q.y q.s px py (t.drop k)))]] = some (.sl r 1 (over xs k [.val (.bool (truthB q.op q.x q.y q.s px py (t.drop k)))]).length 0 (k + 1), H.put r (.row 1 (over xs k [.val (.bool (truthB q.op q.x q.y q.s px py (t.drop k)))]) true), [r], [r]) :=
        fun H slot h => app_one h (by omega) (by unfold most; simp only [Nat.reducePow]; omega)
      have hfin : ∀ st', st'.σ 5 = .sl r 1 (over xs k [.val (.bool (truthB q.op q.x q.y q.s px py (t.drop k)))]).length 0 (k + 1) → st'.h.at_ r = .row 1 (over xs k [.val (.bool (truthB q.op q.x q.y q.s px py (t.drop k)))]) true → r < st'.h.n →
          ∃ r g xs, Stack st' (stepT q px py t) r g xs := by
        intro st' e1 e2 e3
        have hlen : (stepT q px py t).length = k + 1 := by unfold stepT; rw [hkk]; simp; omega
        refine ⟨r, _, _, ⟨by rw [e1, hlen], e2, rfl, by rw [hlen]; exact over_len (by omega), ?_, e3⟩⟩
        rw [hlen, over_take (by omega)]
        unfold stepT SI.truth
        rw [hkk]
        have : xs.take k = boolsV (t.take k) := by rw [← boolsV_take, ← heq, List.take_take, Nat.min_eq_left hkle]
        rw [this]; simp [boolsV]
      have hlenT : (stepT q px py t).length = k + 1 := by unfold stepT; rw [hkk]; simp; omega
      have hfT : foldR rest (stepT q px py t).length = some m := by
        rw [hlenT, ← hf]; congr 1; omega
      by_cases hcase : k = t.length ∧ 0 < k
      · have hsh : ∀ H : Heap, H.at_ r = .row 1 xs true → sliceP H 1 (.sl r 1 xs.length 0 t.length) (some k) none none = some (.im [] false, [r]) := fun H h => by
          rw [slice_hi h rfl hkle hle, if_pos hcase]
        have hd : t.drop k = [] := by rw [hcase.1]; exact List.drop_length
        rw [hd, show boolsV [] = [] from rfl] at htr
        rw [hd] at happ hfin
        rw [V_loop]
        simp [L30_0, hv, h17, h18, h19, h1, hlt, hc, SI.cells, hne, hw, hw3, hsl, hsh, hrn, hrl, hrlt, hbk, htr, happ, elems, allLen, chunks]
        refine loop15 hok hL ha hb n3 n4 m rest (i + 1) (stepT q px py t) _ hr' hfT (by omega) (hfin _ ?_ ?_ ?_) ?_ ?_ ?_ ?_ hend
        · simp
        · simp [hrn]; omega
        · simp; omega
        · simp [h17]
        · simp [h18]
        · simp
        · simp [h1]
      · have hsh : ∀ H : Heap, H.at_ r = .row 1 xs true → sliceP H 1 (.sl r 1 xs.length 0 t.length) (some k) none none = some (.sl r 1 xs.length k (t.length - k), [r]) := fun H h => by
          rw [slice_hi h rfl hkle hle, if_neg hcase]
        have hkx : k + (t.length - k) ≤ xs.length := by omega
        rw [V_loop]
        simp [L30_0, hv, h17, h18, h19, h1, hlt, hc, SI.cells, hne, hw, hw3, hsl, hsh, hrn, hrl, hrlt, hbk, htr, happ, elems, allLen, chunks, hpp, hkx]
        refine loop15 hok hL ha hb n3 n4 m rest (i + 1) (stepT q px py t) _ hr' hfT (by omega) (hfin _ ?_ ?_ ?_) ?_ ?_ ?_ ?_ hend
        · simp
        · simp [hrn]; omega
        · simp; omega
        · simp [h17]
        · simp [h18]
        · simp
        · simp [h1]
theorem loop15_first {L : List SI} (hok : ∀ q ∈ L, q.ok) {ks : List Fr'} {K : Ex → St → Prop} (hL : L.length ≤ 32) {a b : Nat} {px py : Int} (ha : Is a px) (hb : Is b py) (n3 : near px = true) (n4 : near py = true) (m : Int) (hL0 : L ≠ [])
    (st : St) (hf : foldR L 0 = some m) (h5 : st.σ 5 = .im [] true)
    (h17 : st.σ 17 = .im (stepsV L) false) (h18 : st.σ 18 = .val (.int .i64 L.length)) (h19 : st.σ 19 = .val (.int .i64 0)) (h1 : st.σ 1 = .val (.complex .f64 a b))
    (hend : ∀ st', (∃ r g xs, Stack st' (runT px py L []) r g xs) → VN (env P) 30 st' ks K) : V (env P) 30 (.loop L30_0) st (.blk 0 :: ks) K := by
  obtain ⟨q, rest, rfl⟩ : ∃ q rest, L = q :: rest := by cases L with
    | nil => exact (hL0 rfl).elim
    | cons q rest => exact ⟨q, rest, rfl⟩
  have hqo := hok q (by simp)
  have hb2 := needsN_le q.op
  have hf0 := hf
  unfold foldR at hf
  split at hf
  · simp at hf
  · rename_i hno
    simp only [not_or, Bool.not_eq_false, Int.not_lt] at hno
    obtain ⟨hqr, hnn⟩ := hno
    obtain ⟨nx, ny, nz⟩ := right_near hqr
    have h0 : needsN q.op = 0 := by omega
    have hne := needs_ans (P := P) (op := q.op) (re := q.re) (im := q.im) (sz := q.sz)
    rw [stepV, h0] at hne
    have hw3 : IntKind.i64.wrap (1 : Int) = 1 := wrap64_id (by omega)
    have hw0 : IntKind.i64.wrap (0 : Int) = 0 := wrap64_id (by omega)
    have hlen : ((0 : Int) < (rest.length : Int) + 1) := by omega
    have htr := truth_is (P := P) (op := q.op) (t := []) (full := false) hqo.1 hqo.2.1 hqo.2.2 ha hb nx ny n3 n4 nz (by simp [h0])
    rw [stepV, show boolsV [] = [] from rfl] at htr
    have hst : stepT q px py [] = [truthB q.op q.x q.y q.s px py []] := by unfold stepT SI.truth; simp
    have hcell : ∀ h, (stepsV (q :: rest))[0]'h = q.cells := fun h => rfl
    rw [V_loop]
    simp [L30_0, h5, h17, h18, h19, h1, hlen, hcell, SI.cells, hne, hw0, hw3, htr, sliceP, appendP, elems, allLen, chunks, most]
    refine loop15 hok hL ha hb n3 n4 m rest 1 (stepT q px py []) _ rfl ?_ (by simp [hst]) ⟨st.h.n + 1, 1, [[.val (.bool (truthB q.op q.x q.y q.s px py []))]], ?_⟩ ?_ ?_ ?_ ?_ hend
    · rw [hst, ← hf]; simp [h0]
    · constructor
      · simp [hst]
      · simp
      · rfl
      · simp [hst]
      · simp [hst, boolsV]
      · simp
    · simp [h17]
    · simp [h18]
    · simp
    · simp [h1]
end Go.Evl.Zone

namespace Go.Evl.Zone
open Go Go.Evl Go.Evl.Fl
attribute [local simp] VB_ite VG_ite
variable {P : Program}
theorem runT_length (px py : Int) : ∀ (l : List SI) (t : List Bool) (m : Int), foldR l t.length = some m → ((runT px py l t).length : Int) = m
  | [], t, m, h => by simpa [foldR, runT] using h
  | q :: l, t, m, h => by
    unfold foldR at h
    split at h
    · simp at h
    · rename_i hno
      simp only [not_or, Bool.not_eq_false, Int.not_lt] at hno
      have hb := needsN_le q.op
      have hl : ((stepT q px py t).length : Int) = t.length + (1 - needsN q.op) := by unfold stepT; simp; omega
      rw [runT]
      exact runT_length px py l _ m (by rw [hl]; exact h)
def zoneHas (l : List SI) (px py : Int) : Bool := zoneRight l && (near px && near py) && (runT px py l []).getD 0 false
theorem zoneHas_ans {l : List SI} (hok : ∀ q ∈ l, q.ok) {a b : Nat} {px py : Int} (ha : Is a px) (hb : Is b py) : ans (env P) 30 [.im (stepsV l) false, .val (.complex .f64 a b)] = some (.val (.bool (zoneHas l px py))) := by
  refine ans_V rfl rfl ?_
  have hr := zoneRight_ans (P := P) hok
  have hw := whole_is (P := P) ha hb
  cases h1 : zoneRight l with
  | false => simp [c30, hr, h1, zoneHas]
  | true =>
    cases h2 : (near px && near py) with
    | false => simp [c30, hr, h1, hw, h2, zoneHas]
    | true =>
      simp only [zoneRight, Bool.and_eq_true, decide_eq_true_eq] at h1
      obtain ⟨hL, hf⟩ := h1
      have hL0 : l ≠ [] := fun q => by subst q; simp [foldR] at hf
      have h1 : zoneRight l = true := by simp [zoneRight, hL, hf]
      simp only [Bool.and_eq_true] at h2
      simp [c30, hr, h1, hw, h2]
      refine loop15_first hok hL ha hb h2.1 h2.2 1 hL0 _ hf ?_ ?_ ?_ ?_ ?_ ?_
      · simp
      · simp
      · simp
      · simp
      · simp
      · rintro st' ⟨r, g, xs, hs⟩
        have hlen := runT_length px py l [] 1 hf
        obtain ⟨b0, hb0⟩ : ∃ b0, runT px py l [] = [b0] := by
          match hh : runT px py l [] with
          | [] => rw [hh] at hlen; simp at hlen
          | [b0] => exact ⟨b0, rfl⟩
          | _ :: _ :: _ => rw [hh] at hlen; simp at hlen; omega
        obtain ⟨hv, hbk, hg, hle, heq, hrlt⟩ := hs
        rw [hb0] at hv hle heq
        simp at hv hle
        have hx : xs[0]? = some [.val (.bool b0)] := by
          match xs, heq with
          | x :: xs, heq => simp [boolsV] at heq; rw [heq]; rfl
        subst hg
        have hx0 : ∀ h, xs[0]'h = [.val (.bool b0)] := fun h => (List.getElem?_eq_some_iff.1 hx).2
        simp [hv, hbk, hrlt, loadR_row, hx, hle, zoneHas, h1, h2, hb0]
end Go.Evl.Zone

namespace Go.Evl.Zone
open Go Go.Evl Go.Evl.Fl
attribute [local simp] VB_ite VG_ite
variable {P : Program}
structure RS where
  op : Int
  x : Int
  y : Int
  s : Int
  deriving DecidableEq
def RS.cells (q : RS) : List PV := [.val (.int .i64 q.op), .val (.int .i64 q.x), .val (.int .i64 q.y), .val (.int .i64 q.s)]
def rsV (l : List RS) : List (List PV) := l.map RS.cells
noncomputable def RS.si (q : RS) : SI := ⟨q.op, q.x, q.y, q.s, FloatKind.f64.nearest q.x, FloatKind.f64.nearest q.y, FloatKind.f64.nearest q.s⟩
noncomputable def toSI (l : List RS) : List SI := l.map RS.si
@[simp] theorem rsV_length (l : List RS) : (rsV l).length = l.length := by simp [rsV]
@[simp] theorem rsV_len : ∀ (l : List RS), allLen 4 (rsV l) = true
  | [] => rfl
  | q :: l => by simp only [rsV, List.map_cons, allLen, RS.cells]; rw [show (List.map RS.cells l) = rsV l from rfl, rsV_len l]; rfl
theorem rsV_at {l : List RS} {i : Nat} {q : RS} (h : l[i]? = some q) (h' : i < (rsV l).length) : (rsV l)[i] = q.cells := by
  have : l[i]? = some q := h
  simp only [rsV, List.getElem_map]
  rw [(List.getElem?_eq_some_iff.1 h).2]
theorem plainss_rs (l : List RS) : plainss (rsV l) = some (rsV l) := plainss_ok (by intro y hy; simp [rsV] at hy; obtain ⟨q, _, rfl⟩ := hy; rfl)
theorem plainss_si (l : List SI) : plainss (stepsV l) = some (stepsV l) := plainss_ok (by intro y hy; simp [stepsV] at hy; obtain ⟨q, _, rfl⟩ := hy; rfl)
theorem drop_cons {α : Type} {l : List α} {i : Nat} {q : α} {rest : List α} (h : l.drop i = q :: rest) : l[i]? = some q ∧ i < l.length ∧ l.drop (i + 1) = rest ∧ l.take (i + 1) = l.take i ++ [q] := by
  have hq : l[i]? = some q := by
    have : (l.drop i)[0]? = some q := by rw [h]; rfl
    simpa using this
  have hlt := (List.getElem?_eq_some_iff.1 hq).1
  refine ⟨hq, hlt, by rw [← List.drop_drop, h]; rfl, ?_⟩
  rw [List.take_add_one, hq]; rfl
theorem drop_nil {α : Type} {l : List α} {i : Nat} (h : l.drop i = []) (hi : i ≤ l.length) : i = l.length ∧ ¬ i < l.length ∧ l.take i = l := by
  have := congrArg List.length h
  simp at this
  have e : i = l.length := by omega
  exact ⟨e, by omega, by rw [e]; exact List.take_length⟩
theorem wrapS {i : Nat} (h : i < 9223372036854775807) : IntKind.i64.wrap ((i : Int) + 1) = ((i + 1 : Nat) : Int) := by rw [wrap64_id (by omega)]; rfl
theorem loop13 (T : Typed P) {L : List RS} {ks : List Fr'} {K : Ex → St → Prop} (hL : L.length ≤ most) : ∀ (rest : List RS) (i : Nat) (st : St) (v : PV), L.drop i = rest → i ≤ L.length → st.σ 0 = .im (rsV L) false → st.σ 4 = .val (.int .i64 i) → st.σ 3 = v → Lst st.h 3 v (stepsV (toSI (L.take i))) →
    (∀ st' v, st'.σ 3 = v → Lst st'.h 3 v (stepsV (toSI L)) → VN (env P) 19 st' ks K) → V (env P) 19 (.loop L19_0) st (.blk 0 :: ks) K
  | [], i, st, v, hr, hi, h0, h4, h3, hl, hend => by
    obtain ⟨_, hlt, ht⟩ := drop_nil hr hi
    rw [ht] at hl
    rw [V_loop]
    simp [L19_0, h0, h4, hlt]
    exact hend _ v (by simp [h3]) (by simpa using hl.grow)
  | q :: rest, i, st, v, hr, hi, h0, h4, h3, hl, hend => by
    obtain ⟨hq, hlt, hr', ht⟩ := drop_cons hr
    have hc := fun h => rsV_at hq h
    have e6 : ∀ n : Int, scal P (Go.convert 3 97 (.int .i64 n)) = some (.val (.float .f64 (FloatKind.f64.nearest n))) := fun n => cv_if (by rw [T.t3]; rfl) T.t41
    have s2 : ∀ x y : Int, ans (env P) 8 [.agg [.val (.int .i64 x), .val (.int .i64 y)]] = some (.val (.complex .f64 (FloatKind.f64.nearest x) (FloatKind.f64.nearest y))) := fun x y => spot_ans T
    have hw3 := wrapS (i := i) (by unfold most at hL; omega)
    rw [V_loop]
    simp [L19_0, h0, h4, h3, hlt, hc, RS.cells, s2, e6, chunks, elems, allLen]
    obtain ⟨v', H', wr, rd, e1, e2, e3, _⟩ := (hl.grow (m := 1)).app (slot := st.h.n) (zs := [q.si.cells]) (by simp) (by simp) rfl (by simp [toSI]; omega)
    simp only [RS.si, SI.cells] at e1
    simp [e1, hw3, e3, h0, h4]
    refine loop13 T hL rest (i + 1) _ v' hr' (by omega) ?_ ?_ ?_ ?_ hend
    · simp [h0]
    · simp
    · simp
    · rw [ht, show stepsV (toSI (L.take i ++ [q])) = stepsV (toSI (L.take i)) ++ [q.si.cells] by simp [stepsV, toSI]]
      exact e2.grow
theorem to_ans (T : Typed P) {l : List RS} (hl : l.length ≤ most) : ans (env P) 19 [.im (rsV l) false] = some (.im (stepsV (toSI l)) false) := by
  refine ans_V rfl rfl ?_
  simp [c19]
  refine loop13 T hl l 0 _ _ rfl (by omega) (by simp) (by simp) rfl ?_ ?_
  · simp; exact Lst.nil
  · intro st' v h3 hl'
    simp [h3]
    obtain ⟨is, hi⟩ := (hl'.grow (m := 0)).expV (plainss_si _)
    exact ⟨is, by simpa using hi⟩
end Go.Evl.Zone

namespace Go.Evl.Zone
open Go Go.Evl Go.Evl.Fl
attribute [local simp] VB_ite VG_ite
variable {P : Program}
theorem near_ans {x n : Int} (hn : -9223372036854775807 ≤ n ∧ n ≤ 9223372036854775807) : ans (env P) 93 [.val (.int .i64 x), .val (.int .i64 n)] = some (.val (.bool (decide (-n ≤ x) && decide (x ≤ n)))) := by
  refine ans_V rfl rfl ?_
  have hw : IntKind.i64.wrap (-n) = -n := wrap64_id (by omega)
  by_cases h : -n ≤ x <;> simp [c93, hw, h]
theorem refWhole_ans {x y : Int} : ans (env P) 49 [.agg [.val (.int .i64 x), .val (.int .i64 y)]] = some (.val (.bool (near x && near y))) := by
  refine ans_V rfl rfl ?_
  have h1 : ans (env P) 93 [.val (.int .i64 x), .val (.int .i64 1000)] = some (.val (.bool (near x))) := near_ans (by omega)
  have h2 : ans (env P) 93 [.val (.int .i64 y), .val (.int .i64 1000)] = some (.val (.bool (near y))) := near_ans (by omega)
  cases hx : near x <;> simp [c49, h1, h2, hx]
theorem place_ans (T : Typed P) (T33 : P.underlying 50 = some (.complex .f64)) {a b : Nat} {x y : Int} (ha : Is a x) (hb : Is b y) (hx : -9223372036854775808 ≤ x ∧ x ≤ 9223372036854775807) (hy : -9223372036854775808 ≤ y ∧ y ≤ 9223372036854775807) :
    ans (env P) 98 [.val (.complex .f64 a b)] = some (placeV x y) := by
  refine ans_V rfl rfl ?_
  have c1 : scal P (Go.convert 97 3 (.float .f64 a)) = some (.val (.int .i64 x)) := cv_fi (by rw [T.t41]; rfl) T.t3 ha.toInt hx
  have c2 : scal P (Go.convert 97 3 (.float .f64 b)) = some (.val (.int .i64 y)) := cv_fi (by rw [T.t41]; rfl) T.t3 hb.toInt hy
  simp [c98, c1, c2, placeV]
theorem loop21 (T : Typed P) (T33 : P.underlying 50 = some (.complex .f64)) {L : List SI} (hok : ∀ q ∈ L, q.ok) (hin : ∀ q ∈ L, ∀ z ∈ [q.x, q.y, q.s], -9223372036854775808 ≤ z ∧ z ≤ 9223372036854775807) {ks : List Fr'} {K : Ex → St → Prop} (hL : L.length ≤ most) :
    ∀ (rest : List SI) (i : Nat) (st : St) (v : PV), L.drop i = rest → i ≤ L.length → st.σ 0 = .im (stepsV L) false → st.σ 4 = .val (.int .i64 i) → st.σ 3 = v → Lst st.h 4 v (rsV ((L.take i).map fun q => ⟨q.op, q.x, q.y, q.s⟩)) →
    (∀ st' v, st'.σ 3 = v → Lst st'.h 4 v (rsV (L.map fun q => ⟨q.op, q.x, q.y, q.s⟩)) → VN (env P) 61 st' ks K) → V (env P) 61 (.loop L61_0) st (.blk 0 :: ks) K
  | [], i, st, v, hr, hi, h0, h4, h3, hl, hend => by
    obtain ⟨_, hlt, ht⟩ := drop_nil hr hi
    rw [ht] at hl
    rw [V_loop]
    simp [L61_0, h0, h4, hlt]
    exact hend _ v (by simp [h3]) (by simpa using hl.grow)
  | q :: rest, i, st, v, hr, hi, h0, h4, h3, hl, hend => by
    obtain ⟨hq, hlt, hr', ht⟩ := drop_cons hr
    have hc : ∀ h, (stepsV L)[i]'h = q.cells := fun h => (List.getElem?_eq_some_iff.1 (stepsV_get hq)).2
    obtain ⟨q1, q2, q3⟩ := hok q (List.mem_of_getElem? hq)
    have hz := hin q (List.mem_of_getElem? hq)
    have c1 : scal P (Go.convert 97 3 (.float .f64 q.sz)) = some (.val (.int .i64 q.s)) := cv_fi (by rw [T.t41]; rfl) T.t3 q3.toInt (hz q.s (by simp))
    have s2 := place_ans (P := P) T T33 q1 q2 (hz q.x (by simp)) (hz q.y (by simp))
    rw [placeV] at s2
    have hw3 := wrapS (i := i) (by unfold most at hL; omega)
    rw [V_loop]
    simp [L61_0, h0, h4, h3, hlt, hc, SI.cells, s2, c1, chunks, elems, allLen]
    refine VP_app (ys := rsV ((L.take i).map fun q => ⟨q.op, q.x, q.y, q.s⟩)) (by repeat (first | exact hl | refine Lst.grow ?_ | refine Lst.putN ?_ (by simp))) (by simp) (by simp) rfl (by simp; omega) fun v' H' wr rd e2 e3 _ => ?_
    simp [h0, h4, hw3, e3]
    refine loop21 T T33 hok hin hL rest (i + 1) _ v' hr' (by omega) ?_ ?_ ?_ ?_ hend
    · simp [h0]
    · simp
    · simp
    · rw [ht, show ∀ A B : List SI, rsV ((A ++ B).map fun q => (⟨q.op, q.x, q.y, q.s⟩ : RS)) = rsV (A.map fun q => ⟨q.op, q.x, q.y, q.s⟩) ++ rsV (B.map fun q => ⟨q.op, q.x, q.y, q.s⟩) from fun A B => by simp [rsV]]
      exact e2.grow
theorem from_ans (T : Typed P) (T33 : P.underlying 50 = some (.complex .f64)) {l : List SI} (hok : ∀ q ∈ l, q.ok) (hin : ∀ q ∈ l, ∀ z ∈ [q.x, q.y, q.s], -9223372036854775808 ≤ z ∧ z ≤ 9223372036854775807) (hl : l.length ≤ most) : ans (env P) 61 [.im (stepsV l) false] = some (.im (rsV (l.map fun q => ⟨q.op, q.x, q.y, q.s⟩)) false) := by
  refine ans_V rfl rfl ?_
  simp [c61]
  refine loop21 T T33 hok hin hl l 0 _ _ rfl (by omega) (by simp) (by simp) rfl ?_ ?_
  · simp; exact Lst.nil
  · intro st' v h3 hl'
    simp [h3]
    exact (hl'.grow (m := 0)).expV (plainss_rs _)
structure Typed2 (P : Program) : Prop extends Typed P where
  t33 : P.underlying 50 = some (.complex .f64)
  t59 : ∃ fs : Array Field, P.underlying 105 = some (.struct fs) ∧ fs.toList.map (fun f => (f.type, f.offset)) = [(3, 0), (3, 1), (3, 2), (3, 3)] ∧ (fs.toList.all fun f => f.name != "_") = true
  h59 : P.stoodInHeld 105 = false
  g59 : P.eqGuardType P.depth 105 = false
theorem fields4 {fs : List Field} {a b c d : TypeId × Nat} (h : fs.map (fun f => (f.type, f.offset)) = [a, b, c, d]) (hn : (fs.all fun f => f.name != "_") = true) : ∃ f0 f1 f2 f3 : Field, fs = [f0, f1, f2, f3] ∧ ((f0.type, f0.offset) = a ∧ (f0.name == "_") = false) ∧ ((f1.type, f1.offset) = b ∧ (f1.name == "_") = false) ∧ ((f2.type, f2.offset) = c ∧ (f2.name == "_") = false) ∧ ((f3.type, f3.offset) = d ∧ (f3.name == "_") = false) := by
  match fs, h, hn with
  | [f0, f1, f2, f3], h, hn =>
    simp only [List.map_cons, List.map_nil, List.cons.injEq, and_true] at h
    simp only [List.all_cons, List.all_nil, Bool.and_true, Bool.and_eq_true, bne, Bool.not_eq_true'] at hn
    exact ⟨f0, f1, f2, f3, rfl, ⟨h.1, hn.1⟩, ⟨h.2.1, hn.2.1⟩, ⟨h.2.2.1, hn.2.2.1⟩, ⟨h.2.2.2, hn.2.2.2⟩⟩
theorem rs_neq (T : Typed2 P) {cx cy : Bool} (a b : RS) : evBin P .neq 105 cx cy (.agg a.cells) (.agg b.cells) = some (.val (.bool (decide (a ≠ b)))) := by
  obtain ⟨fs, ht, hf, hn⟩ := T.t59
  obtain ⟨f0, f1, f2, f3, hfs, ⟨e0, n0⟩, ⟨e1, n1⟩, ⟨e2, n2⟩, ⟨e3, n3⟩⟩ := fields4 hf hn
  simp only [Prod.mk.injEq] at e0 e1 e2 e3
  have hT := T.t3
  have h3 : ∀ {cs : Array Value} {o : Nat} {v : Value}, cs[o]? = some v → pureRun P (part 3 cs o) = some v := fun hx => pureRun_part hT rfl hx
  have key : pureRun P (Op.eqFields 9999 #[.int .i64 a.op, .int .i64 a.x, .int .i64 a.y, .int .i64 a.s] #[.int .i64 b.op, .int .i64 b.x, .int .i64 b.y, .int .i64 b.s] fs.toList) = some ((a.op == b.op) && ((a.x == b.x) && ((a.y == b.y) && ((a.s == b.s) && true)))) := by
    rw [hfs]
    refine pureRun_eqCons n0 (by rw [e0.1, e0.2]; exact h3 rfl) (by rw [e0.1, e0.2]; exact h3 rfl) (by rw [e0.1]; exact pureRun_equal_int hT) ?_
    refine pureRun_eqCons n1 (by rw [e1.1, e1.2]; exact h3 rfl) (by rw [e1.1, e1.2]; exact h3 rfl) (by rw [e1.1]; exact pureRun_equal_int hT) ?_
    refine pureRun_eqCons n2 (by rw [e2.1, e2.2]; exact h3 rfl) (by rw [e2.1, e2.2]; exact h3 rfl) (by rw [e2.1]; exact pureRun_equal_int hT) ?_
    exact pureRun_eqCons n3 (by rw [e3.1, e3.2]; exact h3 rfl) (by rw [e3.1, e3.2]; exact h3 rfl) (by rw [e3.1]; exact pureRun_equal_int hT) pureRun_eqNil
  rw [(evBin_struct_eql (vs := [.int .i64 a.op, .int .i64 a.x, .int .i64 a.y, .int .i64 a.s]) (us := [.int .i64 b.op, .int .i64 b.x, .int .i64 b.y, .int .i64 b.s]) ht T.h59 T.g59 rfl rfl key).2]
  congr 3
  obtain ⟨a1, a2, a3, a4⟩ := a
  obtain ⟨b1, b2, b3, b4⟩ := b
  rw [Bool.eq_iff_iff]
  simp
theorem loop20 (T : Typed2 P) {L M : List RS} {ks : List Fr'} {K : Ex → St → Prop} (hlen : L.length = M.length) (hL : L.length ≤ most) : ∀ (rest : List RS) (i : Nat) (st : St), L.drop i = rest → i ≤ L.length → L.take i = M.take i → st.σ 0 = .im (rsV L) false → st.σ 1 = .im (rsV M) false → st.σ 5 = .val (.int .i64 i) →
    (∀ st', L ≠ M → st'.σ 4 = .val (.bool false) → K .ret st') → (∀ st', L = M → VN (env P) 56 st' ks K) → V (env P) 56 (.loop L56_0) st (.blk 0 :: ks) K
  | [], i, st, hr, hi, hp, h0, h1, h5, hret, hend => by
    obtain ⟨he, hlt, ht⟩ := drop_nil hr hi
    rw [V_loop]
    simp [L56_0, h0, h5, hlt]
    refine hend _ ?_
    rw [ht, he, hlen, List.take_length] at hp
    exact hp
  | q :: rest, i, st, hr, hi, hp, h0, h1, h5, hret, hend => by
    obtain ⟨hq, hlt, hr', ht⟩ := drop_cons hr
    have hc := fun h => rsV_at hq h
    have hm : M[i]? = some (M[i]'(by omega)) := List.getElem?_eq_getElem (by omega)
    generalize M[i]'(by omega) = m at hm
    have hd := fun h => rsV_at hm h
    have hltM : i < M.length := by omega
    have hn := rs_neq T (cx := false) (cy := false) q m
    have hw3 := wrapS (i := i) (by unfold most at hL; omega)
    rw [V_loop]
    by_cases hqm : q = m
    · subst hqm
      simp [L56_0, h0, h1, h5, hlt, hltM, hc, hd, hn, hw3, RS.cells]
      simp [RS.cells] at hn
      simp [hn, hw3, h5]
      refine loop20 T hlen hL rest (i + 1) _ hr' (by omega) ?_ ?_ ?_ ?_ hret hend
      · rw [ht, List.take_add_one, hm, hp]; rfl
      · simp [h0]
      · simp [h1]
      · simp
    · simp [L56_0, h0, h1, h5, hlt, hltM, hc, hd, hn, hw3, hqm, RS.cells]
      simp [RS.cells, hqm] at hn
      simp [hn, hqm]
      refine hret _ ?_ (by simp)
      intro e
      rw [e] at hq
      rw [hq] at hm
      exact hqm (Option.some.inj hm)
theorem refSame_ans (T : Typed2 P) {l m : List RS} (hl : l.length ≤ most) : ans (env P) 56 [.im (rsV l) false, .im (rsV m) false] = some (.val (.bool (decide (l = m)))) := by
  refine ans_V rfl rfl ?_
  by_cases hlen : l.length = m.length
  · have hlen' : (l.length : Int) = (m.length : Int) := by omega
    simp [c56, hlen']
    refine loop20 T hlen hl l 0 _ rfl (by omega) rfl (by simp) (by simp) (by simp) ?_ ?_
    · intro st' hne h4; simp [h4, hne]
    · intro st' he; simp [he]
  · have hlen' : ¬ (l.length : Int) = (m.length : Int) := by omega
    have hne : l ≠ m := fun e => hlen (by rw [e])
    simp [c56, hlen', hne]
end Go.Evl.Zone

namespace Go.Evl.Zone
open Go Go.Evl Go.Evl.Fl
attribute [local simp] VB_ite VG_ite
variable {P : Program}
def u64 (n : Int) : Int := n % 18446744073709551616
def fixOp (q : RS) (n : Int) : Int := if (1 + u64 q.op % 6 = 4 ∧ n < 1) ∨ (4 < 1 + u64 q.op % 6 ∧ n < 2) then 2 else 1 + u64 q.op % 6
def fixStep (q : RS) (n : Int) : RS :=
  if fixOp q n = 2 then ⟨2, spotN q.x, spotN q.y, u64 q.s % 2001⟩
  else if fixOp q n = 3 then ⟨3, spotN q.x, spotN q.y, u64 q.s % 4000001 - 2000000⟩
  else ⟨fixOp q n, 0, 0, 0⟩
def fixN (q : RS) (n : Int) : Int := if fixOp q n ≤ 3 then n + 1 else if 4 < fixOp q n then n - 1 else n
def fixL : List RS → Int → List RS × Int
  | [], n => ([], n)
  | q :: l, n => (fixStep q n :: (fixL l (fixN q n)).1, (fixL l (fixN q n)).2)
def fix (l : List RS) : List RS := if (fixL (l.take 12) 0).2 = 0 then [⟨1, 0, 0, 0⟩] else (fixL (l.take 12) 0).1 ++ List.replicate ((fixL (l.take 12) 0).2 - 1).toNat ⟨6, 0, 0, 0⟩
theorem fixOp_le (q : RS) (n : Int) : 1 ≤ fixOp q n ∧ fixOp q n ≤ 6 := by
  unfold fixOp u64
  split <;> omega
theorem fixN_le {q : RS} {n : Int} (hn : 0 ≤ n) : 0 ≤ fixN q n ∧ fixN q n ≤ n + 1 := by
  have h1 := fixOp_le q n
  unfold fixN
  split
  · omega
  · split
    · rename_i h
      have : ¬ n < 2 := fun q2 => by
        unfold fixOp at h
        split at h
        · omega
        · rename_i h3; exact h3 (.inr ⟨by omega, q2⟩)
      omega
    · omega
theorem fixL_length : ∀ (l : List RS) (n : Int), (fixL l n).1.length = l.length
  | [], n => rfl
  | q :: l, n => by simp [fixL, fixL_length l]
theorem fixL_n : ∀ (l : List RS) (n : Int), 0 ≤ n → 0 ≤ (fixL l n).2 ∧ (fixL l n).2 ≤ n + l.length
  | [], n, h => by simp [fixL]; omega
  | q :: l, n, h => by
    have h1 := fixN_le (q := q) h
    have h2 := fixL_n l (fixN q n) h1.1
    simp only [fixL, List.length_cons]
    omega
theorem take_cons {α : Type} {l : List α} {i : Nat} {q : α} {rest : List α} (h : l.drop i = q :: rest) (hi : i < 12) : (l.take 12).drop i = q :: (l.take 12).drop (i + 1) := by
  have hq := (drop_cons h).1
  rw [List.drop_eq_getElem_cons (by simp; have := (drop_cons h).2.1; omega)]
  congr 1
  rw [List.getElem_take]
  exact (List.getElem?_eq_some_iff.1 hq).2
set_option maxRecDepth 20000 in
set_option maxHeartbeats 4000000 in
theorem loop10 (T : Typed P) {L : List RS} {ks : List Fr'} {K : Ex → St → Prop} : ∀ (m i : Nat) (n : Int) (st : St) (v : PV) (ys : List RS), i + m = 12 → 0 ≤ n ∧ n ≤ i → ys.length ≤ i → i ≤ L.length → st.σ 0 = .im (rsV L) false → st.σ 5 = .val (.int .i64 i) → st.σ 4 = .val (.int .i64 n) → st.σ 3 = v → Lst st.h 4 v (rsV ys) →
    (∀ st' v n' zs, st'.σ 3 = v → st'.σ 4 = .val (.int .i64 n') → (zs, n') = fixL ((L.take 12).drop i) n → Lst st'.h 4 v (rsV (ys ++ zs)) → VN (env P) 20 st' ks K) → V (env P) 20 (.loop L20_0) st (.blk 0 :: ks) K := by
  intro m
  induction m with
  | zero =>
    intro i n st v ys hm hn hys hi h0 h5 h4 h3 hl hend
    have hi12 : i = 12 := by omega
    subst hi12
    rw [V_loop]
    by_cases hlt : (12 : Int) < (L.length : Int)
    · simp [L20_0, h0, h5, hlt]
      refine hend _ v n [] (by simp [h3]) (by simp [h4]) ?_ (by simpa using hl.grow)
      rw [List.drop_eq_nil_of_le (by simp; omega)]; rfl
    · simp [L20_0, h0, h5, hlt]
      refine hend _ v n [] (by simp [h3]) (by simp [h4]) ?_ (by simpa using hl.grow)
      rw [List.drop_eq_nil_of_le (by simp; omega)]; rfl
  | succ m ih =>
    intro i n st v ys hm hn hys hi h0 h5 h4 h3 hl hend
    have hi12 : i < 12 := by omega
    have hi12' : (i : Int) < 12 := by omega
    rw [V_loop]
    cases hr : L.drop i with
    | nil =>
      obtain ⟨_, hlt, _⟩ := drop_nil hr hi
      simp [L20_0, h0, h5, hlt]
      refine hend _ v n [] (by simp [h3]) (by simp [h4]) ?_ (by simpa using hl.grow)
      rw [List.drop_eq_nil_of_le (by simp; omega)]; rfl
    | cons q rest =>
      obtain ⟨hq, hlt, _, _⟩ := drop_cons hr
      have hT := take_cons hr hi12
      have hc := fun h => rsV_at hq h
      have hw3 := wrapS (i := i) (by omega)
      have s1 : ans (env P) 9 [.agg [.val (.int .i64 q.x), .val (.int .i64 q.y)]] = some (.agg [.val (.int .i64 (spotN q.x)), .val (.int .i64 (spotN q.y))]) := refSpot_ans T
      have e3 : ∀ n : Int, scal P (Go.convert 3 40 (.int .i64 n)) = some (.val (.int .u64 (u64 n))) := fun n => by
        rw [cv_ii (k := .u64) (by rw [T.t3]; rfl) T.t53, wrapU64]; rfl
      have e4 : ∀ n : Int, 0 ≤ n → n < 18446744 → scal P (Go.convert 40 3 (.int .u64 n)) = some (.val (.int .i64 n)) := fun n h1 h2 => by
        rw [cv_ii (k := .i64) (by rw [T.t53]; rfl) T.t3, wrap64_id (by omega)]
      have u0 : ∀ n : Int, 0 ≤ u64 n := fun n => by unfold u64; omega
      have e5 : ∀ n k : Int, 0 ≤ k → (u64 n).tmod k = u64 n % k := fun n k hk => tmod_pos (u0 n) hk
      have m6 : (u64 q.op).tmod 6 = u64 q.op % 6 := e5 _ _ (by omega)
      have m2 : (u64 q.s).tmod 2001 = u64 q.s % 2001 := e5 _ _ (by omega)
      have m4 : (u64 q.s).tmod 4000001 = u64 q.s % 4000001 := e5 _ _ (by omega)
      have v6 := e4 (u64 q.op % 6) (by omega) (by omega)
      have v2 := e4 (u64 q.s % 2001) (by omega) (by omega)
      have v4 := e4 (u64 q.s % 4000001) (by omega) (by omega)
      have w6 : IntKind.i64.wrap (1 + u64 q.op % 6) = 1 + u64 q.op % 6 := wrap64_id (by omega)
      have w4 : IntKind.i64.wrap (u64 q.s % 4000001 - 2000000) = u64 q.s % 4000001 - 2000000 := wrap64_id (by omega)
      have wn : IntKind.i64.wrap (n + 1) = n + 1 := wrap64_id (by omega)
      have wm : IntKind.i64.wrap (n - 1) = n - 1 := wrap64_id (by omega)
      have hnn := fixN_le (q := q) hn.1
      have hfin : ∀ st' v', st'.σ 0 = .im (rsV L) false → st'.σ 5 = .val (.int .i64 (i + 1 : Nat)) → st'.σ 4 = .val (.int .i64 (fixN q n)) → st'.σ 3 = v' → Lst st'.h 4 v' (rsV ys ++ [(fixStep q n).cells]) → V (env P) 20 (.loop L20_0) st' (.blk 0 :: ks) K := by
        intro st' v' k0 k5 k4 k3 kl
        refine ih (i + 1) (fixN q n) st' v' (ys ++ [fixStep q n]) (by omega) ⟨hnn.1, by omega⟩ (by simp; omega) (by omega) k0 k5 k4 k3 (by rw [show rsV (ys ++ [fixStep q n]) = rsV ys ++ [(fixStep q n).cells] by simp [rsV]]; exact kl) ?_
        intro st2 v2 n2 zs j3 j4 jf jl
        refine hend st2 v2 n2 (fixStep q n :: zs) j3 j4 ?_ (by simpa using jl)
        rw [hT, fixL, ← jf]
      clear ih hend hT
      obtain ⟨o, ho⟩ : ∃ o, o = 1 + u64 q.op % 6 := ⟨_, rfl⟩
      have w6 := w6.trans ho.symm
      have hoc : o = 1 ∨ o = 2 ∨ o = 3 ∨ o = 4 ∨ o = 5 ∨ o = 6 := by omega
      have hmost : ys.length + 1 ≤ most := by unfold most; omega
      rcases hoc with h | h | h | h | h | h <;> subst h
      · simp [L20_0, h0, h5, h4, h3, hlt, hi12', hc, RS.cells, s1, e3, m6, v6, w6, chunks, elems, allLen, wn, wm]
        refine VP_app (ys := rsV ys) (by repeat (first | exact hl | refine Lst.grow ?_ | refine Lst.putN ?_ (by simp))) (by simp) (by simp) rfl (by simp; omega) fun v' H' wr rd k2 k3 _ => ?_
        simp [h0, h5, hw3, k3, wn, wm]
        refine hfin _ v' ?_ ?_ ?_ ?_ ?_
        · simp [h0]
        · simp
        · simp [fixN, fixOp, ← ho, h4]
        · simp
        · refine (show [(fixStep q n).cells] = _ from ?_) ▸ k2.grow
          simp [fixStep, fixOp, ← ho, RS.cells, ]
      · simp [L20_0, h0, h5, h4, h3, hlt, hi12', hc, RS.cells, s1, e3, m6, v6, w6, m2, v2, chunks, elems, allLen, wn, wm]
        refine VP_app (ys := rsV ys) (by repeat (first | exact hl | refine Lst.grow ?_ | refine Lst.putN ?_ (by simp))) (by simp) (by simp) rfl (by simp; omega) fun v' H' wr rd k2 k3 _ => ?_
        simp [h0, h5, hw3, k3, wn, wm]
        refine hfin _ v' ?_ ?_ ?_ ?_ ?_
        · simp [h0]
        · simp
        · simp [fixN, fixOp, ← ho, h4]
        · simp
        · refine (show [(fixStep q n).cells] = _ from ?_) ▸ k2.grow
          simp [fixStep, fixOp, ← ho, RS.cells, ]
      · simp [L20_0, h0, h5, h4, h3, hlt, hi12', hc, RS.cells, s1, e3, m6, v6, w6, m4, v4, w4, chunks, elems, allLen, wn, wm]
        refine VP_app (ys := rsV ys) (by repeat (first | exact hl | refine Lst.grow ?_ | refine Lst.putN ?_ (by simp))) (by simp) (by simp) rfl (by simp; omega) fun v' H' wr rd k2 k3 _ => ?_
        simp [h0, h5, hw3, k3, wn, wm]
        refine hfin _ v' ?_ ?_ ?_ ?_ ?_
        · simp [h0]
        · simp
        · simp [fixN, fixOp, ← ho, h4]
        · simp
        · refine (show [(fixStep q n).cells] = _ from ?_) ▸ k2.grow
          simp [fixStep, fixOp, ← ho, RS.cells, ]
      · by_cases hlow : n < 1
        · simp [L20_0, h0, h5, h4, h3, hlt, hi12', hc, RS.cells, s1, e3, m6, v6, w6, hlow, m2, v2, chunks, elems, allLen, wn, wm]
          refine VP_app (ys := rsV ys) (by repeat (first | exact hl | refine Lst.grow ?_ | refine Lst.putN ?_ (by simp))) (by simp) (by simp) rfl (by simp; omega) fun v' H' wr rd k2 k3 _ => ?_
          simp [h0, h5, hw3, k3, wn, wm]
          refine hfin _ v' ?_ ?_ ?_ ?_ ?_
          · simp [h0]
          · simp
          · simp [fixN, fixOp, ← ho, hlow, h4]
          · simp
          · refine (show [(fixStep q n).cells] = _ from ?_) ▸ k2.grow
            simp [fixStep, fixOp, ← ho, RS.cells, hlow, ]
        · simp [L20_0, h0, h5, h4, h3, hlt, hi12', hc, RS.cells, s1, e3, m6, v6, w6, hlow, chunks, elems, allLen, wn, wm]
          refine VP_app (ys := rsV ys) (by repeat (first | exact hl | refine Lst.grow ?_ | refine Lst.putN ?_ (by simp))) (by simp) (by simp) rfl (by simp; omega) fun v' H' wr rd k2 k3 _ => ?_
          simp [h0, h5, hw3, k3, wn, wm]
          refine hfin _ v' ?_ ?_ ?_ ?_ ?_
          · simp [h0]
          · simp
          · simp [fixN, fixOp, ← ho, hlow, h4]
          · simp
          · refine (show [(fixStep q n).cells] = _ from ?_) ▸ k2.grow
            simp [fixStep, fixOp, ← ho, RS.cells, hlow, ]
      · by_cases hlow : n < 2
        · simp [L20_0, h0, h5, h4, h3, hlt, hi12', hc, RS.cells, s1, e3, m6, v6, w6, hlow, m2, v2, chunks, elems, allLen, wn, wm]
          refine VP_app (ys := rsV ys) (by repeat (first | exact hl | refine Lst.grow ?_ | refine Lst.putN ?_ (by simp))) (by simp) (by simp) rfl (by simp; omega) fun v' H' wr rd k2 k3 _ => ?_
          simp [h0, h5, hw3, k3, wn, wm]
          refine hfin _ v' ?_ ?_ ?_ ?_ ?_
          · simp [h0]
          · simp
          · simp [fixN, fixOp, ← ho, hlow, h4]
          · simp
          · refine (show [(fixStep q n).cells] = _ from ?_) ▸ k2.grow
            simp [fixStep, fixOp, ← ho, RS.cells, hlow, ]
        · simp [L20_0, h0, h5, h4, h3, hlt, hi12', hc, RS.cells, s1, e3, m6, v6, w6, hlow, chunks, elems, allLen, wn, wm]
          refine VP_app (ys := rsV ys) (by repeat (first | exact hl | refine Lst.grow ?_ | refine Lst.putN ?_ (by simp))) (by simp) (by simp) rfl (by simp; omega) fun v' H' wr rd k2 k3 _ => ?_
          simp [h0, h5, hw3, k3, wn, wm]
          refine hfin _ v' ?_ ?_ ?_ ?_ ?_
          · simp [h0]
          · simp
          · simp [fixN, fixOp, ← ho, hlow, h4]
          · simp
          · refine (show [(fixStep q n).cells] = _ from ?_) ▸ k2.grow
            simp [fixStep, fixOp, ← ho, RS.cells, hlow, ]
      · by_cases hlow : n < 2
        · simp [L20_0, h0, h5, h4, h3, hlt, hi12', hc, RS.cells, s1, e3, m6, v6, w6, hlow, m2, v2, chunks, elems, allLen, wn, wm]
          refine VP_app (ys := rsV ys) (by repeat (first | exact hl | refine Lst.grow ?_ | refine Lst.putN ?_ (by simp))) (by simp) (by simp) rfl (by simp; omega) fun v' H' wr rd k2 k3 _ => ?_
          simp [h0, h5, hw3, k3, wn, wm]
          refine hfin _ v' ?_ ?_ ?_ ?_ ?_
          · simp [h0]
          · simp
          · simp [fixN, fixOp, ← ho, hlow, h4]
          · simp
          · refine (show [(fixStep q n).cells] = _ from ?_) ▸ k2.grow
            simp [fixStep, fixOp, ← ho, RS.cells, hlow, ]
        · simp [L20_0, h0, h5, h4, h3, hlt, hi12', hc, RS.cells, s1, e3, m6, v6, w6, hlow, chunks, elems, allLen, wn, wm]
          refine VP_app (ys := rsV ys) (by repeat (first | exact hl | refine Lst.grow ?_ | refine Lst.putN ?_ (by simp))) (by simp) (by simp) rfl (by simp; omega) fun v' H' wr rd k2 k3 _ => ?_
          simp [h0, h5, hw3, k3, wn, wm]
          refine hfin _ v' ?_ ?_ ?_ ?_ ?_
          · simp [h0]
          · simp
          · simp [fixN, fixOp, ← ho, hlow, h4]
          · simp
          · refine (show [(fixStep q n).cells] = _ from ?_) ▸ k2.grow
            simp [fixStep, fixOp, ← ho, RS.cells, hlow, ]
end Go.Evl.Zone

namespace Go.Evl.Zone
open Go Go.Evl Go.Evl.Fl
attribute [local simp] VB_ite VG_ite
variable {P : Program}
theorem loop10b {ks : List Fr'} {K : Ex → St → Prop} : ∀ (k : Nat) (n : Int) (st : St) (v : PV) (ys : List RS), n = k + 1 → n ≤ 100 → ys.length + k ≤ 1000 → st.σ 4 = .val (.int .i64 n) → st.σ 3 = v → Lst st.h 4 v (rsV ys) →
    (∀ st' v, st'.σ 3 = v → Lst st'.h 4 v (rsV (ys ++ List.replicate k ⟨6, 0, 0, 0⟩)) → VN (env P) 20 st' ks K) → V (env P) 20 (.loop L20_1) st (.blk 2 :: ks) K
  | 0, n, st, v, ys, hn, hb, hy, h4, h3, hl, hend => by
    have hn1 : n = 1 := by omega
    subst hn1
    rw [V_loop]
    simp [L20_1, h4]
    exact hend _ v (by simp [h3]) (by simpa using hl.grow)
  | k + 1, n, st, v, ys, hn, hb, hy, h4, h3, hl, hend => by
    have h1 : 1 < n := by omega
    have hw : IntKind.i64.wrap (n - 1) = n - 1 := wrap64_id (by omega)
    have hmost : ys.length + 1 ≤ most := by unfold most; omega
    rw [V_loop]
    simp [L20_1, h4, h3, h1, chunks, elems, allLen]
    refine VP_app (ys := rsV ys) (by repeat (first | exact hl | refine Lst.grow ?_ | refine Lst.putN ?_ (by simp))) (by simp) (by simp) rfl (by simp; omega) fun v' H' wr rd k2 k3 _ => ?_
    simp [h4, hw, k3]
    refine loop10b k (n - 1) _ v' (ys ++ [⟨6, 0, 0, 0⟩]) (by omega) (by omega) (by simp; omega) ?_ ?_ ?_ ?_
    · simp
    · simp
    · simpa [rsV, RS.cells] using k2.grow
    · intro st' v2 j3 jl
      refine hend st' v2 j3 ?_
      rw [List.replicate_succ]
      simpa using jl
theorem fix_ans (T : Typed P) {l : List RS} : ans (env P) 20 [.im (rsV l) false] = some (.im (rsV (fix l)) false) := by
  refine ans_V rfl rfl ?_
  simp [c20]
  refine loop10 T (L := l) 12 0 0 _ _ [] rfl (by omega) (by simp) (by omega) (by simp) (by simp) (by simp) rfl ?_ ?_
  · simp; exact Lst.nil
  · intro st' v n' zs h3 h4 hf hl'
    simp only [List.drop_zero] at hf
    have hlen := fixL_length (l.take 12) 0
    have hn := fixL_n (l.take 12) 0 (by omega)
    rw [← hf] at hlen hn
    simp only [List.length_take] at hlen hn
    have hf1 : (fixL (l.take 12) 0).1 = zs := by rw [← hf]
    have hf2 : (fixL (l.take 12) 0).2 = n' := by rw [← hf]
    by_cases h0 : n' = 0
    · simp [h4, h0, chunks, allLen]
      unfold fix
      rw [if_pos (by rw [hf2]; exact h0)]
      rfl
    · simp [h4, h0, h3]
      refine loop10b (n' - 1).toNat n' _ v zs (by omega) (by omega) (by omega) (by simp [h4]) (by simp [h3]) ?_ ?_
      · simpa using hl'.grow
      · intro st2 v2 j3 jl
        simp [j3]
        unfold fix
        rw [if_neg (by rw [hf2]; exact h0), hf1, hf2]
        exact (jl.grow (m := 0)).expV (plainss_rs _)
def RS.inB (q : RS) : Prop := near q.x = true ∧ near q.y = true ∧ -2000000 ≤ q.s ∧ q.s ≤ 2000000
theorem fixStep_right (q : RS) (n : Int) : (fixStep q n).si.right = true ∧ (fixStep q n).inB ∧ (fixStep q n).op = fixOp q n := by
  have h := fixOp_le q n
  have h1 := spotN_near q.x
  have h2 := spotN_near q.y
  have e1 : u64 q.s % 2001 ≤ 2000 ∧ 0 ≤ u64 q.s % 2001 := by unfold u64; omega
  have e2 : -2000000 ≤ u64 q.s % 4000001 - 2000000 ∧ u64 q.s % 4000001 - 2000000 ≤ 2000000 := by unfold u64; omega
  unfold fixStep
  by_cases c2 : fixOp q n = 2
  · simp [c2, RS.si, SI.right, rightB, RS.inB, h1, h2]; omega
  · by_cases ccenotaph_cenotaphlaw05_ZoneHas_ : fixOp q n = 3
    · simp [ccenotaph_cenotaphlaw05_ZoneHas_, RS.si, SI.right, rightB, RS.inB, h1, h2]; omega
    · have : fixOp q n = 1 ∨ fixOp q n = 4 ∨ fixOp q n = 5 ∨ fixOp q n = 6 := by omega
      simp [c2, ccenotaph_cenotaphlaw05_ZoneHas_, RS.si, SI.right, rightB, RS.inB, this]
      decide
theorem fixL_fold : ∀ (l : List RS) (n : Int), 0 ≤ n → foldR (toSI (fixL l n).1) n = some (fixL l n).2 ∧ (∀ q ∈ (fixL l n).1, q.inB)
  | [], n, _ => ⟨rfl, by simp [fixL]⟩
  | q :: l, n, hn => by
    obtain ⟨hr, hi, ho⟩ := fixStep_right q n
    have hN := fixN_le (q := q) hn
    obtain ⟨i1, i2⟩ := fixL_fold l (fixN q n) hN.1
    have hle := fixOp_le q n
    have hneed : n + (1 - needsN (fixStep q n).op) = fixN q n ∧ ¬ n < needsN (fixStep q n).op := by
      rw [ho]
      have key : (fixOp q n = 4 → ¬ n < 1) ∧ (4 < fixOp q n → ¬ n < 2) := by
        unfold fixOp
        split
        · omega
        · rename_i hno
          exact ⟨fun h q => hno (.inl ⟨h, q⟩), fun h q => hno (.inr ⟨h, q⟩)⟩
      unfold needsN fixN
      split
      · rename_i h; rw [h]; have := key.1 h; simp; omega
      · split
        · rename_i h; have := key.2 (by omega); rw [if_neg (by omega), if_pos (by omega)]; omega
        · rw [if_pos (by omega)]; omega
    refine ⟨?_, ?_⟩
    · rw [fixL]
      simp only [toSI, List.map_cons, foldR]
      rw [if_neg (by rw [hr]; simp only [RS.si, Bool.true_eq_false, false_or]; exact hneed.2)]
      show foldR (toSI (fixL l (fixN q n)).1) (n + (1 - needsN (fixStep q n).op)) = _
      rw [hneed.1, i1]
    · intro x hx
      rw [fixL] at hx
      rcases List.mem_cons.1 hx with rfl | hx
      · exact hi
      · exact i2 x hx
theorem foldR_append : ∀ (l m : List SI) (n : Int), foldR (l ++ m) n = (foldR l n).bind (foldR m)
  | [], m, n => rfl
  | q :: l, m, n => by
    rw [List.cons_append, foldR, foldR]
    split
    · rfl
    · exact foldR_append l m _
theorem foldR_ors : ∀ (k : Nat), foldR (toSI (List.replicate k ⟨6, 0, 0, 0⟩)) (k + 1) = some 1
  | 0 => rfl
  | k + 1 => by
    have h := foldR_ors k
    rw [List.replicate_succ]
    simp only [toSI, List.map_cons, foldR]
    rw [if_neg]
    · rw [show ((k + 1 : Nat) : Int) + 1 + (1 - needsN (RS.si ⟨6, 0, 0, 0⟩).op) = (k : Int) + 1 by show _ + (1 - 2) = _; omega]
      exact h
    · have : (RS.si ⟨6, 0, 0, 0⟩).right = true := by decide
      rw [this]
      show ¬ (true = false ∨ ((k + 1 : Nat) : Int) + 1 < 2)
      simp; omega
theorem fix_right (l : List RS) : zoneRight (toSI (fix l)) = true ∧ (∀ q ∈ fix l, q.inB) ∧ (fix l).length ≤ 23 := by
  obtain ⟨f1, f2⟩ := fixL_fold (l.take 12) 0 (by omega)
  have hn := fixL_n (l.take 12) 0 (by omega)
  have hlen := fixL_length (l.take 12) 0
  simp only [List.length_take] at hn hlen
  unfold fix
  split
  · exact ⟨by decide, by intro q hq; simp at hq; subst hq; exact ⟨by decide, by decide, by decide, by decide⟩, by simp⟩
  · rename_i h0
    refine ⟨?_, ?_, ?_⟩
    · unfold zoneRight
      rw [Bool.and_eq_true, decide_eq_true_eq, decide_eq_true_eq]
      refine ⟨by simp [toSI]; omega, ?_⟩
      rw [toSI, List.map_append, foldR_append]
      rw [show List.map RS.si (fixL (l.take 12) 0).1 = toSI (fixL (l.take 12) 0).1 from rfl, f1]
      have := foldR_ors ((fixL (l.take 12) 0).2 - 1).toNat
      rw [show ((((fixL (l.take 12) 0).2 - 1).toNat : Nat) : Int) + 1 = (fixL (l.take 12) 0).2 by omega] at this
      exact this
    · intro q hq
      rcases List.mem_append.1 hq with h | h
      · exact f2 q h
      · rw [List.mem_replicate] at h
        rw [h.2]
        exact ⟨by decide, by decide, by decide, by decide⟩
    · simp; omega
end Go.Evl.Zone

namespace Go.Evl.Zone
open Go Go.Evl Go.Evl.Fl
variable {P : Program}
set_option maxRecDepth 20000 in
set_option maxHeartbeats 4000000 in
theorem loop27 {L : List RS} {ks : List Fr'} {K : Ex → St → Prop} (hL : L.length ≤ 32) : ∀ (rest : List RS) (i : Nat) (n : Int) (st : St), L.drop i = rest → i ≤ L.length → 0 ≤ n ∧ n ≤ i → st.σ 0 = .im (rsV L) false → st.σ 4 = .val (.int .i64 i) → st.σ 3 = .val (.int .i64 n) →
    (∀ st', foldR (toSI rest) n = none → st'.σ 2 = .val (.bool false) → K .ret st') → (∀ st' m, foldR (toSI rest) n = some m → st'.σ 3 = .val (.int .i64 m) → VN (env P) 48 st' ks K) → V (env P) 48 (.loop L48_0) st (.blk 0 :: ks) K
  | [], i, n, st, hr, hi, hn, h0, h4, h3, hret, hend => by
    obtain ⟨_, hlt, _⟩ := drop_nil hr hi
    rw [V_loop]
    simp [L48_0, h0, h4, hlt]
    exact hend _ n rfl (by simp [h3])
  | q :: rest, i, n, st, hr, hi, hn, h0, h4, h3, hret, hend => by
    obtain ⟨hq, hlt, hr', ht⟩ := drop_cons hr
    have hc := fun h => rsV_at hq h
    have hw3 := wrapS (i := i) (by omega)
    have hwh := refWhole_ans (P := P) (x := q.x) (y := q.y)
    have hns : ans (env P) 93 [.val (.int .i64 q.s), .val (.int .i64 2000000)] = some (.val (.bool (decide (-2000000 ≤ q.s) && decide (q.s ≤ 2000000)))) := near_ans (by omega)
    have wn : IntKind.i64.wrap (n + 1) = n + 1 := wrap64_id (by omega)
    have wm : IntKind.i64.wrap (n - 1) = n - 1 := wrap64_id (by omega)
    have hfold : foldR (toSI (q :: rest)) n = if q.si.right = false ∨ n < needsN q.op then none else foldR (toSI rest) (n + (1 - needsN q.op)) := rfl
    have hgo : ∀ st', q.si.right = true → ¬ n < needsN q.op → st'.σ 0 = .im (rsV L) false → st'.σ 4 = .val (.int .i64 (i + 1 : Nat)) → st'.σ 3 = .val (.int .i64 (n + (1 - needsN q.op))) → V (env P) 48 (.loop L48_0) st' (.blk 0 :: ks) K := by
      intro st' c1 c2 k0 k4 k3
      have hb := needsN_le q.op
      rw [hfold, if_neg (by simp [c1, c2])] at hret hend
      exact loop27 hL rest (i + 1) _ st' hr' (by omega) (by omega) k0 k4 k3 hret hend
    have hno : ∀ st', (q.si.right = false ∨ n < needsN q.op) → st'.σ 2 = .val (.bool false) → K .ret st' := by
      intro st' c k
      exact hret st' (by rw [hfold, if_pos c]) k
    clear hret hend hfold
    rw [V_loop]
    by_cases c2 : q.op = 2
    · cases hw : (near q.x && near q.y) with
      | false =>
        simp [L48_0, h0, h4, h3, hlt, hc, RS.cells, c2, hwh, hw]
        exact hno _ (.inl (by simp only [SI.right, RS.si, rightB, c2, if_true, hw, Bool.false_and])) (by simp)
      | true =>
        have hri : q.si.right = (decide (0 ≤ q.s) && decide (q.s ≤ 2000)) := by simp only [SI.right, RS.si, rightB, c2, if_true, hw, Bool.true_and]
        by_cases s1 : q.s < 0
        · simp [L48_0, h0, h4, h3, hlt, hc, RS.cells, c2, hwh, hw, s1]
          exact hno _ (.inl (by rw [hri]; simp; omega)) (by simp)
        · by_cases s2 : 2000 < q.s
          · simp [L48_0, h0, h4, h3, hlt, hc, RS.cells, c2, hwh, hw, s1, s2]
            exact hno _ (.inl (by rw [hri]; simp; omega)) (by simp)
          · simp [L48_0, h0, h4, h3, hlt, hc, RS.cells, c2, hwh, hw, s1, s2, wn, hw3]
            refine hgo _ (by rw [hri]; simp; omega) (by simp [needsN, c2]; omega) ?_ ?_ ?_
            · simp [h0]
            · simp
            · simp [needsN, c2]
    · by_cases ccenotaph_cenotaphlaw05_ZoneHas_ : q.op = 3
      · cases hw : (near q.x && near q.y) with
        | false =>
          simp [L48_0, h0, h4, h3, hlt, hc, RS.cells, ccenotaph_cenotaphlaw05_ZoneHas_, hwh, hw]
          exact hno _ (.inl (by simp [SI.right, RS.si, rightB, ccenotaph_cenotaphlaw05_ZoneHas_]; intro h1 h2; simp [h1, h2] at hw)) (by simp)
        | true =>
          have hri : q.si.right = (decide (-2000000 ≤ q.s) && decide (q.s ≤ 2000000)) := by
            simp only [Bool.and_eq_true] at hw
            simp [SI.right, RS.si, rightB, ccenotaph_cenotaphlaw05_ZoneHas_, hw]
          cases hs : (decide (-2000000 ≤ q.s) && decide (q.s ≤ 2000000)) with
          | false =>
            rw [hs] at hns hri
            simp [L48_0, h0, h4, h3, hlt, hc, RS.cells, ccenotaph_cenotaphlaw05_ZoneHas_, hwh, hw, hns]
            exact hno _ (.inl hri) (by simp)
          | true =>
            rw [hs] at hns hri
            simp [L48_0, h0, h4, h3, hlt, hc, RS.cells, ccenotaph_cenotaphlaw05_ZoneHas_, hwh, hw, hns, wn, hw3]
            refine hgo _ hri (by simp [needsN, ccenotaph_cenotaphlaw05_ZoneHas_]; omega) ?_ ?_ ?_
            · simp [h0]
            · simp
            · simp [needsN, ccenotaph_cenotaphlaw05_ZoneHas_]
      · by_cases c : q.op = 1 ∨ q.op = 4 ∨ q.op = 5 ∨ q.op = 6
        · by_cases hz : q.x = 0 ∧ q.y = 0 ∧ q.s = 0
          · obtain ⟨z1, z2, z3⟩ := hz
            have hri : q.si.right = true := by
              rw [show q.si.right = rightB q.op q.x q.y q.s from rfl]
              unfold rightB
              rw [if_neg c2, if_neg ccenotaph_cenotaphlaw05_ZoneHas_, if_pos c, z1, z2, z3]; rfl
            rcases c with c | c | c | c
            · simp [L48_0, h0, h4, h3, hlt, hc, RS.cells, c, z1, z2, z3, wn, hw3]
              refine hgo _ hri (by simp [needsN, c]; omega) ?_ ?_ ?_
              · simp [h0]
              · simp
              · simp [needsN, c]
            · by_cases hlow : n < 1
              · simp [L48_0, h0, h4, h3, hlt, hc, RS.cells, c, z1, z2, z3, wn, hw3, hlow]
                exact hno _ (.inr (by simp [needsN, c]; omega)) (by simp)
              · simp [L48_0, h0, h4, h3, hlt, hc, RS.cells, c, z1, z2, z3, wn, hw3, hlow]
                refine hgo _ hri (by simp [needsN, c]; omega) ?_ ?_ ?_
                · simp [h0]
                · simp
                · simp [needsN, c, h3]
            · by_cases hlow : n < 2
              · simp [L48_0, h0, h4, h3, hlt, hc, RS.cells, c, z1, z2, z3, wn, wm, hw3, hlow]
                exact hno _ (.inr (by simp [needsN, c]; omega)) (by simp)
              · simp [L48_0, h0, h4, h3, hlt, hc, RS.cells, c, z1, z2, z3, wn, wm, hw3, hlow]
                refine hgo _ hri (by simp [needsN, c]; omega) ?_ ?_ ?_
                · simp [h0]
                · simp
                · simp [needsN, c]; omega
            · by_cases hlow : n < 2
              · simp [L48_0, h0, h4, h3, hlt, hc, RS.cells, c, z1, z2, z3, wn, wm, hw3, hlow]
                exact hno _ (.inr (by simp [needsN, c]; omega)) (by simp)
              · simp [L48_0, h0, h4, h3, hlt, hc, RS.cells, c, z1, z2, z3, wn, wm, hw3, hlow]
                refine hgo _ hri (by simp [needsN, c]; omega) ?_ ?_ ?_
                · simp [h0]
                · simp
                · simp [needsN, c]; omega
          · have hri : q.si.right = false := by
              rw [show q.si.right = rightB q.op q.x q.y q.s from rfl]
              unfold rightB
              rw [if_neg c2, if_neg ccenotaph_cenotaphlaw05_ZoneHas_, if_pos c]
              simp only [Bool.and_eq_false_iff, decide_eq_false_iff_not]
              omega
            have hz' : q.x ≠ 0 ∨ q.y ≠ 0 ∨ q.s ≠ 0 := by omega
            by_cases z1 : q.x = 0
            · by_cases z2 : q.y = 0
              · have z3 : ¬ q.s = 0 := by omega
                rcases c with c | c | c | c <;>
                  (simp [L48_0, h0, h4, h3, hlt, hc, RS.cells, c, z1, z2, z3]
                   exact hno _ (.inl hri) (by simp))
              · rcases c with c | c | c | c <;>
                  (simp [L48_0, h0, h4, h3, hlt, hc, RS.cells, c, z1, z2]
                   exact hno _ (.inl hri) (by simp))
            · rcases c with c | c | c | c <;>
                (simp [L48_0, h0, h4, h3, hlt, hc, RS.cells, c, z1]
                 exact hno _ (.inl hri) (by simp))
        · have hri : q.si.right = false := by
            rw [show q.si.right = rightB q.op q.x q.y q.s from rfl]
            unfold rightB
            rw [if_neg c2, if_neg ccenotaph_cenotaphlaw05_ZoneHas_, if_neg c]
          simp only [not_or] at c
          simp [L48_0, h0, h4, h3, hlt, hc, RS.cells, c2, ccenotaph_cenotaphlaw05_ZoneHas_, c]
          exact hno _ (.inl hri) (by simp)
theorem refRight_ans {l : List RS} : ans (env P) 48 [.im (rsV l) false] = some (.val (.bool (zoneRight (toSI l)))) := by
  refine ans_V rfl rfl ?_
  by_cases h1 : l.length < 1
  · have hl : l = [] := List.length_eq_zero_iff.1 (by omega)
    subst hl
    simp [c48]
    decide
  · have h1' : ¬ (l.length : Int) < 1 := by omega
    by_cases h32 : 32 < l.length
    · have h2 : (32 : Int) < (l.length : Int) := by omega
      have hz : zoneRight (toSI l) = false := by simp [zoneRight, toSI]; intro h; omega
      simp [c48, h1', h2, hz]
    · have h2 : ¬ (32 : Int) < (l.length : Int) := by omega
      simp [c48, h1', h2]
      refine loop27 (by omega) l 0 0 _ rfl (by omega) (by omega) (by simp) (by simp) (by simp) ?_ ?_
      · intro st' hf hs
        simp [hs, zoneRight, hf]
      · intro st' m hf hs
        simp [hs, zoneRight, hf]
        simp [toSI]; omega
end Go.Evl.Zone

namespace Go.Evl.Zone
open Go Go.Evl Go.Evl.Fl
variable {P : Program}
def Tr (H : Heap) (v : PV) (t : List Bool) : Prop := (v = .im [] true ∧ t = []) ∨ ∃ r xs, Rw H 1 v (boolsV t) r xs
theorem Tr.lst {H : Heap} {v : PV} {t : List Bool} (h : Tr H v t) : Lst H 1 v (boolsV t) := by
  rcases h with ⟨rfl, rfl⟩ | ⟨r, xs, h⟩
  · exact Lst.nil
  · exact h.lst
theorem Tr.len {H : Heap} {v : PV} {t : List Bool} (h : Tr H v t) : lenP false v = some t.length := by
  rw [h.lst.len, boolsV_length]
theorem bools_get {xs : List (List PV)} {t : List Bool} (he : xs.take (boolsV t).length = boolsV t) {i : Nat} {b : Bool} (hb : t[i]? = some b) : xs[i]? = some [.val (.bool b)] := by
  have hi : i < t.length := (List.getElem?_eq_some_iff.1 hb).1
  have : (xs.take (boolsV t).length)[i]? = some [.val (.bool b)] := by rw [he]; simp [boolsV, hb]
  rw [List.getElem?_take, boolsV_length, if_pos hi] at this
  exact this
theorem stepT_eq (q : RS) (px py : Int) (t u : List Bool) (k : Nat) (hk : (k : Int) = needsN q.op) (hu : u.length = k) (t0 : List Bool) (ht : t = t0 ++ u) : stepT q.si px py t = t0 ++ [truthB q.op q.x q.y q.s px py u] := by
  subst ht
  unfold stepT SI.truth
  have h1 : (needsN q.si.op).toNat = k := by show (needsN q.op).toNat = k; omega
  rw [h1, List.length_append, hu, Nat.add_sub_cancel]
  simp
  rfl
set_option maxRecDepth 20000 in
set_option maxHeartbeats 4000000 in
theorem loop17 {L : List RS} (hin : ∀ q ∈ L, q.si.right = true) {ks : List Fr'} {K : Ex → St → Prop} (hL : L.length ≤ 32) {px py : Int} (n3 : near px = true) (n4 : near py = true) (m : Int) (rp : Nat) :
    ∀ (rest : List RS) (i : Nat) (t : List Bool) (st : St) (v : PV), L.drop i = rest → i ≤ L.length → foldR (toSI rest) t.length = some m → t.length ≤ i → st.σ 0 = .im (rsV L) false → st.σ 6 = .val (.int .i64 i) → st.σ 3 = .ptr rp 0 → st.h.at_ rp = .box [.val (.int .i64 px), .val (.int .i64 py)] → rp < st.h.n → st.σ 5 = v → Tr st.h v t →
    (∀ st' v, st'.σ 5 = v → Tr st'.h v (runT px py (toSI rest) t) → VN (env P) 50 st' ks K) → V (env P) 50 (.loop L50_0) st (.blk 0 :: ks) K
  | [], i, t, st, v, hr, hi, hf, hti, h0, h6, h3, hb, hbn, h5, htr, hend => by
    obtain ⟨_, hlt, _⟩ := drop_nil hr hi
    rw [V_loop]
    simp [L50_0, h0, h6, hlt]
    refine hend _ v (by simp [h5]) ?_
    rcases htr with ⟨h, h'⟩ | ⟨r, xs, h⟩
    · exact .inl ⟨h, h'⟩
    · exact .inr ⟨r, xs, h.grow⟩
  | q :: rest, i, t, st, v, hr, hi, hf, hti, h0, h6, h3, hb, hbn, h5, htr, hend => by
    obtain ⟨hq, hlt, hr', ht⟩ := drop_cons hr
    have hc := fun h => rsV_at hq h
    have hw3 := wrapS (i := i) (by omega)
    have hri := hin q (List.mem_of_getElem? hq)
    have hnear : near q.x = true ∧ near q.y = true ∧ (q.op = 2 → 0 ≤ q.s ∧ q.s ≤ 2000) := right_near hri
    have hopr : q.op = 1 ∨ q.op = 2 ∨ q.op = 3 ∨ q.op = 4 ∨ q.op = 5 ∨ q.op = 6 := by
      have : rightB q.op q.x q.y q.s = true := hri
      unfold rightB at this
      by_cases a : q.op = 2
      · exact .inr (.inl a)
      · by_cases b : q.op = 3
        · exact .inr (.inr (.inl b))
        · rw [if_neg a, if_neg b] at this
          split at this
          · omega
          · cases this
    obtain ⟨nx, ny, nz⟩ := hnear
    simp only [near, Bool.and_eq_true, decide_eq_true_eq] at nx ny n3 n4
    have hfold : foldR (toSI (q :: rest)) t.length = if q.si.right = false ∨ (t.length : Int) < needsN q.op then none else foldR (toSI rest) (t.length + (1 - needsN q.op)) := rfl
    rw [hfold] at hf
    split at hf
    · cases hf
    · rename_i hno
      simp only [not_or, Int.not_lt] at hno
      have hnn := hno.2
      have hb2 := needsN_le q.op
      have hgo : ∀ st' v', st'.σ 0 = .im (rsV L) false → st'.σ 6 = .val (.int .i64 (i + 1 : Nat)) → st'.σ 3 = .ptr rp 0 → st'.h.at_ rp = .box [.val (.int .i64 px), .val (.int .i64 py)] → rp < st'.h.n → st'.σ 5 = v' → Tr st'.h v' (stepT q.si px py t) → V (env P) 50 (.loop L50_0) st' (.blk 0 :: ks) K := by
        intro st' v' k0 k6 k3 kb kn k5 ktr
        have hlenT : ((stepT q.si px py t).length : Int) = t.length + (1 - needsN q.op) := by
          unfold stepT; show ((t.take (t.length - (needsN q.op).toNat) ++ [_]).length : Int) = _; simp; omega
        exact loop17 hin hL (by simp [near, n3]) (by simp [near, n4]) m rp rest (i + 1) _ st' v' hr' (by omega) (by rw [hlenT]; exact hf) (by omega) k0 k6 k3 kb kn k5 ktr hend
      clear hend hfold hf
      have hlen := htr.len
      have hrn : rp ≠ st.h.n := by omega
      have hrn' : ¬ st.h.n = rp := by omega
      have hbn1 : rp < st.h.n + 1 := by omega
      rw [V_loop]
      rcases hopr with c | c | c | c | c | c
      · simp [L50_0, h0, h6, h3, h5, hb, hbn, hbn1, hrn, hlt, hc, RS.cells, c, hlen, chunks, elems, allLen, ]
        refine VP_appR (ys := boolsV t) (zs := [[.val (.bool (true))]]) (by repeat (first | exact htr.lst | refine Lst.grow ?_ | refine Lst.putN ?_ (by simp))) (by simp) (by simp) rfl (by simp) (by simp [boolsV]; unfold most; omega) fun v' H' wr rd r' xs' k2 k3 k4 => ?_
        simp [h0, h6, hw3, k3]
        refine hgo _ v' ?_ ?_ ?_ ?_ ?_ ?_ ?_
        · simp [h0]
        · simp
        · simp [h3]
        · have kb := k4 rp [.val (.int .i64 px), .val (.int .i64 py)] (by simp [hb, hrn, hrn', hbn, hbn1])
          simp [kb, k3]; omega
        · simp [k3]; omega
        · simp
        · exact .inr ⟨r', xs', (by have := k2.grow (m := 0); rw [stepT_eq q px py t [] 0 (by simp [needsN, c]) rfl t (by simp)]; simpa [boolsV, truthB, c] using this)⟩
      · obtain ⟨nz1, nz2⟩ := nz c
        have m3 := mul_le (a := px - q.x) (b := px - q.x) (by unfold sm; omega) (by unfold sm; omega)
        have m4 := mul_le (a := py - q.y) (b := py - q.y) (by unfold sm; omega) (by unfold sm; omega)
        have m5 := mul_le (a := q.s) (b := q.s) (by unfold sm; omega) (by unfold sm; omega)
        have w4 : IntKind.i64.wrap (px - q.x) = px - q.x := wrap64_id (by omega)
        have w5 : IntKind.i64.wrap (py - q.y) = py - q.y := wrap64_id (by omega)
        have w6 : IntKind.i64.wrap ((px - q.x) * (px - q.x)) = (px - q.x) * (px - q.x) := wrap64_id (by omega)
        have w7 : IntKind.i64.wrap ((py - q.y) * (py - q.y)) = (py - q.y) * (py - q.y) := wrap64_id (by omega)
        have w8 : IntKind.i64.wrap ((px - q.x) * (px - q.x) + (py - q.y) * (py - q.y)) = (px - q.x) * (px - q.x) + (py - q.y) * (py - q.y) := wrap64_id (by omega)
        have w9 : IntKind.i64.wrap (q.s * q.s) = q.s * q.s := wrap64_id (by omega)
        simp [L50_0, h0, h6, h3, h5, hb, hbn, hbn1, hrn, hlt, hc, RS.cells, c, hlen, chunks, elems, allLen, w4, w5, w6, w7, w8, w9]
        refine VP_appR (ys := boolsV t) (zs := [[.val (.bool (decide ((px - q.x) * (px - q.x) + (py - q.y) * (py - q.y) ≤ q.s * q.s)))]]) (by repeat (first | exact htr.lst | refine Lst.grow ?_ | refine Lst.putN ?_ (by simp))) (by simp) (by simp) rfl (by simp) (by simp [boolsV]; unfold most; omega) fun v' H' wr rd r' xs' k2 k3 k4 => ?_
        simp [h0, h6, hw3, k3]
        refine hgo _ v' ?_ ?_ ?_ ?_ ?_ ?_ ?_
        · simp [h0]
        · simp
        · simp [h3]
        · have kb := k4 rp [.val (.int .i64 px), .val (.int .i64 py)] (by simp [hb, hrn, hrn', hbn, hbn1])
          simp [kb, k3]; omega
        · simp [k3]; omega
        · simp
        · exact .inr ⟨r', xs', (by have := k2.grow (m := 0); rw [stepT_eq q px py t [] 0 (by simp [needsN, c]) rfl t (by simp)]; simpa [boolsV, truthB, c] using this)⟩
      · have m3 := mul_le (a := px) (b := q.x) (by unfold sm; omega) (by unfold sm; omega)
        have m4 := mul_le (a := py) (b := q.y) (by unfold sm; omega) (by unfold sm; omega)
        have w6 : IntKind.i64.wrap (px * q.x) = px * q.x := wrap64_id (by omega)
        have w7 : IntKind.i64.wrap (py * q.y) = py * q.y := wrap64_id (by omega)
        have w8 : IntKind.i64.wrap (px * q.x + py * q.y) = px * q.x + py * q.y := wrap64_id (by omega)
        simp [L50_0, h0, h6, h3, h5, hb, hbn, hbn1, hrn, hlt, hc, RS.cells, c, hlen, chunks, elems, allLen, w6, w7, w8]
        refine VP_appR (ys := boolsV t) (zs := [[.val (.bool (decide (q.s ≤ px * q.x + py * q.y)))]]) (by repeat (first | exact htr.lst | refine Lst.grow ?_ | refine Lst.putN ?_ (by simp))) (by simp) (by simp) rfl (by simp) (by simp [boolsV]; unfold most; omega) fun v' H' wr rd r' xs' k2 k3 k4 => ?_
        simp [h0, h6, hw3, k3]
        refine hgo _ v' ?_ ?_ ?_ ?_ ?_ ?_ ?_
        · simp [h0]
        · simp
        · simp [h3]
        · have kb := k4 rp [.val (.int .i64 px), .val (.int .i64 py)] (by simp [hb, hrn, hrn', hbn, hbn1])
          simp [kb, k3]; omega
        · simp [k3]; omega
        · simp
        · exact .inr ⟨r', xs', (by have := k2.grow (m := 0); rw [stepT_eq q px py t [] 0 (by simp [needsN, c]) rfl t (by simp)]; simpa [boolsV, truthB, c] using this)⟩
      · have hne : needsN q.op = 1 := by simp [needsN, c]
        obtain ⟨t0, b, rfl⟩ : ∃ t0 b, t = t0 ++ [b] := ⟨t.dropLast, t.getLast (by intro e; subst e; simp at hnn; omega), (List.dropLast_concat_getLast _).symm⟩
        rcases htr with ⟨_, h⟩ | ⟨r, xs, h⟩
        · simp at h
        · have hv := h.v
          have hrb := h.b
          have hrl := h.lt
          have hx := bools_get h.eq (i := t0.length) (b := b) (by simp)
          have hle := h.le
          simp [boolsV] at hv hle
          have hrr : ¬ r = st.h.n := by omega
          have hrl1 : r < st.h.n + 1 := by omega
          have hrp : ¬ rp = r := fun e => by rw [e, hrb] at hb; cases hb
          have w1 : IntKind.i64.wrap (t0.length : Int) = t0.length := wrap64_id (by simp at hti; omega)
          have hxl : t0.length < xs.length := by omega
          have hl1 : (t0.length : Int) < (t0.length : Int) + 1 := by omega
          have hx' : ∀ h, xs[t0.length]'h = [.val (.bool b)] := fun h => (List.getElem?_eq_some_iff.1 hx).2
          rw [hv] at h5
          simp [L50_0, h0, h6, h3, h5, hb, hbn, hbn1, hrn, hlt, hc, RS.cells, c, hlen, chunks, elems, allLen, hrb, hrl, hrl1, hrr, hrp, w1, loadR_row, storeR, hxl, hx', hw3, hl1]
          refine hgo _ v ?_ ?_ ?_ ?_ ?_ ?_ ?_
          · simp [h0]
          · simp
          · simp [h3]
          · simp [hrp, hrn, hb, hbn, hbn1]
          · simp; omega
          · simp [h5, hv]
          · rw [stepT_eq q px py (t0 ++ [b]) [b] 1 (by rw [hne]; rfl) rfl t0 rfl]
            refine .inr ⟨r, xs.set t0.length [.val (.bool (!b))], ?_⟩
            have h2 := (((((h.grow (m := 1)).putN (s := st.h.n) (b := .box [.val (.int .i64 0), .val (.int .i64 0), .val (.int .i64 0), .val (.int .i64 0)]) (by simp)).putN (s := st.h.n) (b := .box [.val (.int .i64 4), .val (.int .i64 q.x), .val (.int .i64 q.y), .val (.int .i64 q.s)]) (by simp)).grow (m := 0)).set (i := t0.length) (y := [.val (.bool (!b))]) rfl).grow (m := 0)
            have e : (boolsV (t0 ++ [b])).set t0.length [.val (.bool (!b))] = boolsV (t0 ++ [!b]) := by simp [boolsV]
            rw [e] at h2
            simpa [truthB, c] using h2
      · have hne : needsN q.op = 2 := by simp [needsN, c]
        obtain ⟨t1, b, rfl⟩ : ∃ t1 b, t = t1 ++ [b] := ⟨t.dropLast, t.getLast (by intro e; subst e; simp at hnn; omega), (List.dropLast_concat_getLast _).symm⟩
        obtain ⟨t0, a, rfl⟩ : ∃ t0 a, t1 = t0 ++ [a] := ⟨t1.dropLast, t1.getLast (by intro e; subst e; simp at hnn; omega), (List.dropLast_concat_getLast _).symm⟩
        rcases htr with ⟨_, h⟩ | ⟨r, xs, h⟩
        · simp at h
        · have hv := h.v
          have hrb := h.b
          have hrl := h.lt
          have hx := bools_get h.eq (i := t0.length) (b := a) (by simp)
          have hy := bools_get h.eq (i := t0.length + 1) (b := b) (by simp)
          have hle := h.le
          simp [boolsV] at hv hle
          have hrr : ¬ r = st.h.n := by omega
          have hrl1 : r < st.h.n + 1 := by omega
          have hrp : ¬ rp = r := fun e => by rw [e, hrb] at hb; cases hb
          have hti2 : t0.length < 32 := by simp at hti; omega
          have w0 : IntKind.i64.wrap (t0.length : Int) = t0.length := wrap64_id (by omega)
          have w1 : IntKind.i64.wrap ((t0.length : Int) + 1) = ((t0.length + 1 : Nat) : Int) := by rw [wrap64_id (by omega)]; rfl
          have w2 : IntKind.i64.wrap ((t0.length : Int) + 2 - 1) = ((t0.length + 1 : Nat) : Int) := by rw [wrap64_id (by omega)]; omega
          have w3 : IntKind.i64.wrap ((t0.length : Int) + 2 - 2) = t0.length := by rw [wrap64_id (by omega)]; omega
          have hxl : t0.length < xs.length := by omega
          have hyl : t0.length + 1 < xs.length := by omega
          have hx' : ∀ h, xs[t0.length]'h = [.val (.bool a)] := fun h => (List.getElem?_eq_some_iff.1 hx).2
          have hy' : ∀ h, xs[t0.length + 1]'h = [.val (.bool b)] := fun h => (List.getElem?_eq_some_iff.1 hy).2
          have hl1 : (t0.length : Int) < (t0.length : Int) + 2 := by omega
          have hl2 : (t0.length : Int) + 1 < (t0.length : Int) + 2 := by omega
          have hl3 : (0 : Int) ≤ (t0.length : Int) + 1 := by omega
          have hsl : ∀ H : Heap, H.at_ r = .row 1 xs true → sliceP H 1 (.sl r 1 xs.length 0 (t0.length + 2)) none (some t0.length) none = some (.sl r 1 xs.length 0 t0.length, [r]) := fun H e => slice_lo e rfl (by omega) (by omega)
          have hpt := h.part (m := t0.length) (by simp [boolsV])
          have hpb : (boolsV (t0 ++ [a] ++ [b])).take t0.length = boolsV t0 := by simp [boolsV]
          rw [hpb] at hpt
          rw [hv] at h5
          have hfin : stepT q.si px py (t0 ++ [a] ++ [b]) = t0 ++ [a && b] := by
            rw [stepT_eq q px py (t0 ++ [a] ++ [b]) [a, b] 2 (by rw [hne]; rfl) rfl t0 (by simp)]
            simp [truthB, c]
          cases a <;> (
            simp [L50_0, h0, h6, h3, h5, hb, hbn, hbn1, hrn, hlt, hc, RS.cells, c, hlen, chunks, elems, allLen, hrb, hrl, hrl1, hrr, hrp, w0, w1, w2, w3, loadR_row, hxl, hyl, hx', hy', hl1, hl2, hl3, hsl]
            refine VP_appR (ys := boolsV t0) (by repeat (first | exact hpt.lst | refine Lst.grow ?_ | refine Lst.putN ?_ (by simp))) (by simp) (by simp) rfl (by simp) (by simp [boolsV]; unfold most; omega) fun v' H' wr rd r' xs' k2 k3 k4 => ?_
            simp [h0, h6, hw3, k3]
            refine hgo _ v' ?_ ?_ ?_ ?_ ?_ ?_ ?_
            · simp [h0]
            · simp
            · simp [h3]
            · have kb := k4 rp [.val (.int .i64 px), .val (.int .i64 py)] (by simp [hb, hrn, hrn', hbn, hbn1])
              simp [kb, k3]; omega
            · simp [k3]; omega
            · simp
            · rw [hfin]
              refine .inr ⟨r', xs', ?_⟩
              have := k2.grow (m := 0)
              simpa [boolsV] using this)
      · have hne : needsN q.op = 2 := by simp [needsN, c]
        obtain ⟨t1, b, rfl⟩ : ∃ t1 b, t = t1 ++ [b] := ⟨t.dropLast, t.getLast (by intro e; subst e; simp at hnn; omega), (List.dropLast_concat_getLast _).symm⟩
        obtain ⟨t0, a, rfl⟩ : ∃ t0 a, t1 = t0 ++ [a] := ⟨t1.dropLast, t1.getLast (by intro e; subst e; simp at hnn; omega), (List.dropLast_concat_getLast _).symm⟩
        rcases htr with ⟨_, h⟩ | ⟨r, xs, h⟩
        · simp at h
        · have hv := h.v
          have hrb := h.b
          have hrl := h.lt
          have hx := bools_get h.eq (i := t0.length) (b := a) (by simp)
          have hy := bools_get h.eq (i := t0.length + 1) (b := b) (by simp)
          have hle := h.le
          simp [boolsV] at hv hle
          have hrr : ¬ r = st.h.n := by omega
          have hrl1 : r < st.h.n + 1 := by omega
          have hrp : ¬ rp = r := fun e => by rw [e, hrb] at hb; cases hb
          have hti2 : t0.length < 32 := by simp at hti; omega
          have w0 : IntKind.i64.wrap (t0.length : Int) = t0.length := wrap64_id (by omega)
          have w1 : IntKind.i64.wrap ((t0.length : Int) + 1) = ((t0.length + 1 : Nat) : Int) := by rw [wrap64_id (by omega)]; rfl
          have w2 : IntKind.i64.wrap ((t0.length : Int) + 2 - 1) = ((t0.length + 1 : Nat) : Int) := by rw [wrap64_id (by omega)]; omega
          have w3 : IntKind.i64.wrap ((t0.length : Int) + 2 - 2) = t0.length := by rw [wrap64_id (by omega)]; omega
          have hxl : t0.length < xs.length := by omega
          have hyl : t0.length + 1 < xs.length := by omega
          have hx' : ∀ h, xs[t0.length]'h = [.val (.bool a)] := fun h => (List.getElem?_eq_some_iff.1 hx).2
          have hy' : ∀ h, xs[t0.length + 1]'h = [.val (.bool b)] := fun h => (List.getElem?_eq_some_iff.1 hy).2
          have hl1 : (t0.length : Int) < (t0.length : Int) + 2 := by omega
          have hl2 : (t0.length : Int) + 1 < (t0.length : Int) + 2 := by omega
          have hl3 : (0 : Int) ≤ (t0.length : Int) + 1 := by omega
          have hsl : ∀ H : Heap, H.at_ r = .row 1 xs true → sliceP H 1 (.sl r 1 xs.length 0 (t0.length + 2)) none (some t0.length) none = some (.sl r 1 xs.length 0 t0.length, [r]) := fun H e => slice_lo e rfl (by omega) (by omega)
          have hpt := h.part (m := t0.length) (by simp [boolsV])
          have hpb : (boolsV (t0 ++ [a] ++ [b])).take t0.length = boolsV t0 := by simp [boolsV]
          rw [hpb] at hpt
          rw [hv] at h5
          have hfin : stepT q.si px py (t0 ++ [a] ++ [b]) = t0 ++ [a || b] := by
            rw [stepT_eq q px py (t0 ++ [a] ++ [b]) [a, b] 2 (by rw [hne]; rfl) rfl t0 (by simp)]
            simp [truthB, c]
          cases a <;> (
            simp [L50_0, h0, h6, h3, h5, hb, hbn, hbn1, hrn, hlt, hc, RS.cells, c, hlen, chunks, elems, allLen, hrb, hrl, hrl1, hrr, hrp, w0, w1, w2, w3, loadR_row, hxl, hyl, hx', hy', hl1, hl2, hl3, hsl]
            refine VP_appR (ys := boolsV t0) (by repeat (first | exact hpt.lst | refine Lst.grow ?_ | refine Lst.putN ?_ (by simp))) (by simp) (by simp) rfl (by simp) (by simp [boolsV]; unfold most; omega) fun v' H' wr rd r' xs' k2 k3 k4 => ?_
            simp [h0, h6, hw3, k3]
            refine hgo _ v' ?_ ?_ ?_ ?_ ?_ ?_ ?_
            · simp [h0]
            · simp
            · simp [h3]
            · have kb := k4 rp [.val (.int .i64 px), .val (.int .i64 py)] (by simp [hb, hrn, hrn', hbn, hbn1])
              simp [kb, k3]; omega
            · simp [k3]; omega
            · simp
            · rw [hfin]
              refine .inr ⟨r', xs', ?_⟩
              have := k2.grow (m := 0)
              simpa [boolsV] using this)
theorem foldR_right : ∀ (l : List RS) (n m : Int), foldR (toSI l) n = some m → ∀ q ∈ l, q.si.right = true
  | [], n, m, h, q, hq => by cases hq
  | x :: l, n, m, h, q, hq => by
    have h' : (if x.si.right = false ∨ n < needsN x.op then none else foldR (toSI l) (n + (1 - needsN x.op))) = some m := h
    split at h'
    · cases h'
    · rename_i hno
      simp only [not_or, Bool.not_eq_false] at hno
      rcases List.mem_cons.1 hq with rfl | hq
      · exact hno.1
      · exact foldR_right l _ m h' q hq
theorem refHas_ans {l : List RS} (hr : zoneRight (toSI l) = true) {px py : Int} : ans (env P) 50 [.im (rsV l) false, placeV px py] = some (.val (.bool (zoneHas (toSI l) px py))) := by
  refine ans_V rfl rfl ?_
  have h1 := refRight_ans (P := P) (l := l)
  have h2 := refWhole_ans (P := P) (x := px) (y := py)
  rw [hr] at h1
  cases hw : (near px && near py) with
  | false =>
    rw [hw] at h2
    simp [c50, placeV, h1, h2, zoneHas, hr, hw]
  | true =>
    rw [hw] at h2
    have hz := hr
    simp only [zoneRight, Bool.and_eq_true, decide_eq_true_eq] at hz
    simp only [Bool.and_eq_true] at hw
    simp [c50, placeV, h1, h2]
    refine loop17 (px := px) (py := py) (foldR_right l 0 1 hz.2) (by simpa [toSI] using hz.1) hw.1 hw.2 1 0 l 0 [] _ _ rfl (by omega) hz.2 (by simp) (by simp) (by simp) (by simp) (by simp) (by simp) rfl (by simp; exact .inl ⟨rfl, rfl⟩) ?_
    intro st' v h5 htr
    have hlen := runT_length px py (toSI l) [] 1 hz.2
    obtain ⟨b0, hb0⟩ : ∃ b0, runT px py (toSI l) [] = [b0] := by
      match hh : runT px py (toSI l) [] with
      | [] => rw [hh] at hlen; simp at hlen
      | [b0] => exact ⟨b0, rfl⟩
      | _ :: _ :: _ => rw [hh] at hlen; simp at hlen; omega
    rw [hb0] at htr
    rcases htr with ⟨_, h⟩ | ⟨r, xs, h⟩
    · simp at h
    · have hv := h.v
      have hrb := h.b
      have hrl := h.lt
      have hx := bools_get h.eq (i := 0) (b := b0) (by simp)
      have hx' : ∀ h, xs[0]'h = [.val (.bool b0)] := fun h => (List.getElem?_eq_some_iff.1 hx).2
      have hle := h.le
      simp [boolsV] at hv hle
      rw [hv] at h5
      have hxl : 0 < xs.length := by omega
      simp [h5, hrb, hrl, loadR_row, hx', hxl, zoneHas, hr, hw, hb0]
end Go.Evl.Zone

namespace Go.Evl.Zone
open Go Go.Evl Go.Evl.Fl
variable {P : Program}
structure Typed3 (P : Program) : Prop extends Typed2 P where
  t51 : ∃ fs : Array Field, P.underlying 122 = some (.struct fs) ∧ fs.toList.map (fun f => (f.type, f.offset)) = [(3, 0), (50, 1), (97, 2)] ∧ (fs.toList.all fun f => f.name != "_") = true
  h51 : P.stoodInHeld 122 = false
  g51 : P.eqGuardType P.depth 122 = false
end Go.Evl.Zone

namespace Go.Evl.Zone
open Go Go.Evl Go.Evl.Fl
variable {P : Program}
abbrev sv (l : List UInt8) : PV := .val (.string ⟨l.toArray⟩)
theorem ba_toList (a : List UInt8) : (⟨a.toArray⟩ : ByteArray).toList = a := by
  rw [ByteArray.toList_eq]
theorem evBin_seql {t : TypeId} {cx cy : Bool} (a b : List UInt8) : evBin P .eql t cx cy (sv a) (sv b) = some (.val (.bool (decide (a = b)))) := by
  have : evBin P .eql t cx cy (sv a) (sv b) = some (.val (.bool ((⟨a.toArray⟩ : ByteArray).toList == (⟨b.toArray⟩ : ByteArray).toList))) := rfl
  rw [this, ba_toList, ba_toList]
  congr 3
  rw [Bool.eq_iff_iff]
  simp
theorem evBin_sneq {t : TypeId} {cx cy : Bool} (a b : List UInt8) : evBin P .neq t cx cy (sv a) (sv b) = some (.val (.bool (decide (a ≠ b)))) := by
  have : evBin P .neq t cx cy (sv a) (sv b) = some (.val (.bool (!((⟨a.toArray⟩ : ByteArray).toList == (⟨b.toArray⟩ : ByteArray).toList)))) := rfl
  rw [this, ba_toList, ba_toList]
  congr 3
  rw [Bool.eq_iff_iff]
  simp
end Go.Evl.Zone

namespace Go.Evl.Zone
open Go Go.Evl Go.Evl.Fl
variable {P : Program}
end Go.Evl.Zone

namespace Go.Evl.Zone
open Go Go.Evl Go.Evl.Fl
variable {P : Program}
end Go.Evl.Zone

namespace Go.Evl.Zone
open Go Go.Evl Go.Evl.Fl
variable {P : Program}
end Go.Evl.Zone

namespace Go.Evl.Zone
open Go Go.Evl Go.Evl.Fl
variable {P : Program}
end Go.Evl.Zone

namespace Go.Evl.Zone
open Go Go.Evl Go.Evl.Fl
variable {P : Program}
end Go.Evl.Zone

namespace Go.Evl.Zone
open Go Go.Evl Go.Evl.Fl
variable {P : Program}
end Go.Evl.Zone

namespace Go.Evl.Zone
open Go Go.Evl Go.Evl.Fl
variable {P : Program}
theorem sv_size (l : List UInt8) : (⟨l.toArray⟩ : ByteArray).size = l.length := rfl
end Go.Evl.Zone
