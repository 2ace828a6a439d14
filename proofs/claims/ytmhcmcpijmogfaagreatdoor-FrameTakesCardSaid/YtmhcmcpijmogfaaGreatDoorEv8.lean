/- The evaluator's texts ZPOK to QTFit, joined. -/
import Derived.Test.YtmhcmcpijmogfaaGreatDoorEv7
import Derived.Calls
import Derived.Below
import Derived.Sort.Grow
import Derived.Deep.Draws
import Derived.Lib.ConvBytes
import Derived.Shelf.Abstract
import Derived.Lib.LaidTab
import GoSem.Extern.MathFloor
import Derived.Lib.Bytealg
import Derived.Test.YtmhcmcpijmogfaaGreatDoorChecked
import Derived.WalkKit
import Derived.Lib.LaidU8
import Derived.Lib.LaidIn
import Derived.Deep.DeepWitnessRowRef
import Derived.ProofKit
import Derived.Test.YtmhcmcpijmogfaaGreatDoorShelf
import Derived.Test.YtmhcmcpijmogfaaGreatDoorRows
import Derived.Stop.LaidErr
import Derived.Test.YtmhcmcpijmogfaaGreatDoorCards
import Derived.Test.YtmhcmcpijmogfaaGreatDoorTie
set_option linter.all false
set_option linter.deprecated false
set_option linter.unusedVariables false
set_option linter.unusedSimpArgs false
set_option linter.unnecessarySimpa false
namespace Go.Evl.Zone
open Go Go.Evl Go.RowKit Go.Sort
def PSound (P : Program) (Inv : G → Prop) (f : FuncId) (p : List PV → Heap → Option ORes) : Prop := ∀ args H r, p args H = some r → ∀ (g : G) (vs : List Value) (R : Value → World → Prop), WR g → Inv g → g.H = H → Cs g vs args →
    (∀ g' v, g'.H = r.h → WR g' → Ext g g' → VR g' v r.v → R v g'.w) → Goes P f vs.toArray g.w R
theorem goes_calls {P : Program} {f : FuncId} {args : Array Value} {w : World} {R : Value → World → Prop} {Q : Ending → World → Prop} (hE : Go.Proofs.Enters P f) (h : Calls P f args w Q) (hq : ∀ e w', Q e w' → ∃ v, e = .returned v ∧ R v w') : Goes P f args w R := by
  unfold Goes
  rw [hE args w]
  refine h.mono fun e w' hx => ?_
  obtain ⟨v, rfl, hr⟩ := hq e w' hx
  exact hr
theorem grown_g {g : G} (hW : WR g) {w' : World} (hb : Below g.w.heap.size g.w w') : ∃ g' : G, g'.w = w' ∧ g'.H = g.H ∧ WR g' ∧ Ext g g' ∧ ∀ b, g.w.heap.size ≤ b → b < w'.heap.size → g'.Z b := by
  obtain ⟨h1, h2⟩ := grow_world hW w' (fun b => g.w.heap.size ≤ b ∧ b < w'.heap.size) hb.size hb.block (fun b h => h) ⟨hb.os, hb.tape, hb.output⟩
  exact ⟨⟨w', fun b => g.Z b ∨ (g.w.heap.size ≤ b ∧ b < w'.heap.size), g.ι, g.H⟩, rfl, rfl, h1, h2, fun b h h' => .inr ⟨h, h'⟩⟩
theorem elems_slice {g : G} (hW : WR g) {v : Value} {p : PV} (hv : VR g v p) (hp : ∀ x, p ≠ .val x) {k : Nat} {ys : List (List PV)} {is : List Nat} (h : elems g.H k p = some (ys, is)) :
    ∃ (ad : Option Addr) (c : Nat), v = .slice ad ys.length c ∧ ys.length ≤ c ∧ (ys ≠ [] → ∃ (b o : Nat) (news : List Value), ad = some ⟨b, o, none⟩ ∧ b < g.w.heap.size ∧ RR g k news ys ∧ ∀ (j : Nat) u, news[j]? = some u → g.w.cell? ⟨b, o + j, none⟩ = some u) := by
  unfold elems at h
  split at h
  · rename_i xs full
    split at h
    · rename_i hall
      simp at h; obtain ⟨rfl, rfl⟩ := h
      obtain ⟨ad, cap, rfl, _, hcap, hat⟩ := hv.inv_im
      refine ⟨ad, cap, rfl, hcap, fun hne => ?_⟩
      obtain ⟨k', b, off, c, t, fr, cv, rfl, hZ, hb, hk, hno, hc, hh⟩ := hat hne
      have hkk : k = k' := allLen_eq hall hne hk
      subst hkk
      have key : ∀ (q : Nat) (p : PV), xs.flatten[q]? = some p → ∃ u, g.w.cell? ⟨b, off + q, none⟩ = some u ∧ (VR g u p ∧ u.oneCell' = true) := by
        intro q p hq
        obtain ⟨hk0, x, h1, h2⟩ := flat_get' hk hq
        have h3 := hc _ x _ p h1 h2
        rw [Nat.add_assoc, Nat.mul_comm, Nat.div_add_mod] at h3
        exact ⟨_, by rw [cell_of hb]; exact h3.1, hh _ x _ p h1 h2, h3.2⟩
      obtain ⟨news, n1, n2⟩ := cells_of (g := g) (ps := xs.flatten) (ad := fun q => g.w.cell? ⟨b, off + q, none⟩) (fun q p hq => let ⟨u, z1, z2⟩ := key q p hq; ⟨u, z1, z2.1⟩)
      refine ⟨b, off, news, rfl, lt_of_heap hb, ⟨n1, hk, fun u hu => ?_⟩, n2⟩
      obtain ⟨q, hq⟩ := List.mem_iff_getElem?.1 hu
      have hq' : q < xs.flatten.length := by rw [← n1.1]; exact (List.getElem?_eq_some_iff.1 hq).1
      obtain ⟨u', z1, z2⟩ := key q _ (List.getElem?_eq_getElem hq')
      rw [n2 q u hq] at z1; simp at z1; subst z1; exact z2.2
    · simp at h
  · rename_i r k' gen off len
    split at h
    · rename_i k'' xs own hb
      split at h
      · rename_i hcond
        obtain ⟨rfl, rfl, rfl, hle⟩ := hcond
        simp at h; obtain ⟨rfl, rfl⟩ := h
        cases hv with
        | sl ad _ _ _ _ _ cap hlc hg hh =>
          obtain ⟨a1, a2, b, c, t, fr, q1, q2, q3, q4, q5, q6⟩ := hW.row r k xs own hb
          have hval : Valid g r k xs.length b := ⟨q1, by rw [hb]; rfl, by rw [hb]; rfl⟩
          obtain ⟨e1, _⟩ := hh b hval
          subst e1
          have hrr := row_rr a2 q5 q6
          have hsub := (hrr.drop off).take len
          have hlen : ((xs.drop off).take len).length = len := by simp; omega
          refine ⟨_, cap, by rw [hlen], by rw [hlen]; exact hlc, fun _ => ⟨b, off * k, _, rfl, lt_of_heap q2, hsub, fun j u hj => ?_⟩⟩
          rw [List.getElem?_take] at hj
          split at hj
          · rw [List.getElem?_drop, List.getElem?_take] at hj
            split at hj
            · rw [cell_of q2]; simpa using hj
            · simp at hj
          · simp at hj
      · simp at h
    · simp at h
  · exact absurd rfl (hp _)
  · exact absurd rfl (hp _)
  · simp at h
variable {P : Program} {Inv : G → Prop}
theorem cs_one {g : G} {vs : List Value} {p : PV} (h : Cs g vs [p]) : ∃ v, vs = [v] ∧ VR g v p := by
  obtain ⟨v, h1, h2⟩ := h.get (i := 0) (p := p) rfl
  have := h.1
  match vs, this, h1 with
  | [x], _, h1 => simp at h1; exact ⟨v, by rw [h1], h2⟩
theorem cs_two {g : G} {vs : List Value} {p q : PV} (h : Cs g vs [p, q]) : ∃ v u, vs = [v, u] ∧ VR g v p ∧ VR g u q := by
  obtain ⟨v, h1, h2⟩ := h.get (i := 0) (p := p) rfl
  obtain ⟨u, h3, h4⟩ := h.get (i := 1) (p := q) rfl
  have := h.1
  match vs, this, h1, h3 with
  | [x, y], _, h1, h3 => simp at h1 h3; exact ⟨v, u, by rw [h1, h3], h2, h4⟩
theorem split_ok {f : FuncId} {t : TypeId} (hE : Go.Proofs.Enters P f) (hC : ∀ g, Inv g → ∀ (s sep : ByteArray), s.size < 4294967281 → 1 ≤ sep.size → Calls P f #[.string s, .string sep] g.w fun e w' =>
      e = .returned (.slice (some ⟨g.w.heap.size, 0, none⟩) (Lib.countB s sep + 1) (Lib.countB s sep + 1)) ∧ w' = g.w.alloc (.cells ((Lib.splitB sep 0 (Lib.countB s sep) s).map Value.string).toArray t)) : PSound P Inv f pSplit := by
  intro args H r h g vs R hW hI hH ha hR
  unfold pSplit at h
  split at h
  · rename_i s p
    split at h
    · rename_i c hc
      split at h
      · rename_i hs
        simp at h; subst h
        obtain ⟨v, u, rfl, h1, h2⟩ := cs_two ha
        obtain rfl := h1.inv_val
        obtain rfl := h2.inv_val
        have hp1 : 1 ≤ p.size := by
          have : p.size = p.data.toList.length := (Array.length_toList (xs := p.data)).symm
          rw [this, hc]; simp
        refine goes_calls hE (hC g hI s p hs hp1) ?_
        rintro e w' ⟨rfl, hw⟩
        refine ⟨_, rfl, ?_⟩
        generalize hL : Lib.splitB p 0 (Lib.countB s p) s = L at hw
        have hlen : L.length = Lib.countB s p + 1 := by rw [← hL]; exact Lib.splitB_all p hp1 0 _ s rfl
        have hLL : L.map (·.data.toList) = splitL c s.data.toList := by rw [← hL]; exact splitB_lib hc
        have hbel : Below g.w.heap.size g.w w' := hw ▸ (Below.refl _ _).alloc (Nat.le_refl _) _
        obtain ⟨g', e1, e2, e3, e4, e5⟩ := grown_g hW hbel
        have hnew : g'.w.heap[g.w.heap.size]? = some (.cells (L.map Value.string).toArray t (0, 0)) := by
          rw [e1, hw]; exact heap_alloc_new g.w _
        have hx : ((splitL c s.data.toList).map fun x => [strOf x]) = L.map fun x => [PV.val (.string x)] := by
          rw [← hLL, List.map_map]
          refine List.map_congr_left fun x _ => ?_
          simp [strOf]
        refine e1 ▸ hR g' _ (by rw [e2, hH]) e3 e4 ?_
        rw [← hlen, hx]
        refine VR.mk_im (by simp) (by simp) (by simp) fun _ => ⟨1, g.w.heap.size, 0, _, t, _, fun i j => ((L.map Value.string)[i]?).getD undef, rfl, e5 _ (Nat.le_refl _) (lt_of_heap (e1 ▸ hnew)), hnew, ?_, ?_, ?_, ?_⟩
        · intro x hx; simp at hx; obtain ⟨c, _, rfl⟩ := hx; rfl
        · intro x hx p hp; simp at hx; obtain ⟨c, _, rfl⟩ := hx; simp at hp; subst hp; exact .val _
        all_goals
          intro i x j p hx hp
          simp only [List.getElem?_map, Option.map_eq_some_iff] at hx
          obtain ⟨c, hc, rfl⟩ := hx
          have hj : j = 0 := by have := (List.getElem?_eq_some_iff.1 hp).1; simp at this; omega
          subst hj
          simp at hp; subst hp
          have hat : (L.map Value.string)[i]? = some (.string c) := by simp [hc]
          first
            | exact ⟨by simp [hc], by simp [hc, Value.oneCell']⟩
            | (simp only [hat, Option.getD_some]; exact .val _)
      · simp at h
    · simp at h
  · simp at h
theorem goes_val {f : FuncId} {args : Array Value} {g : G} {x : Value} {H : Heap} {R : Value → World → Prop} {Q : Ending → World → Prop} (hE : Go.Proofs.Enters P f) (h : Calls P f args g.w Q) (hW : WR g) (hH : g.H = H)
    (hq : ∀ e w', Q e w' → e = .returned x ∧ Below g.w.heap.size g.w w') (hR : ∀ g' v, g'.H = H → WR g' → Ext g g' → VR g' v (.val x) → R v g'.w) : Goes P f args g.w R := by
  refine goes_calls hE h fun e w' hx => ?_
  obtain ⟨he, hb⟩ := hq e w' hx
  obtain ⟨g', e1, e2, e3, e4, e5⟩ := grown_g hW hb
  exact ⟨x, he, e1 ▸ hR g' x (by rw [e2, hH]) e3 e4 (.val x)⟩
theorem below_grow (w : World) (k : Nat) (os : Array Obj) : Below w.heap.size w (grow (w.drewN k) os) :=
  ⟨rfl, rfl, rfl, by simp [grow, World.drewN], fun b hb => by
    show (w.heap ++ os)[b]? = _
    rw [Array.getElem?_append, if_pos hb]⟩
theorem itoa_ok {f : FuncId} (hE : Go.Proofs.Enters P f) (hC : ∀ g, Inv g → ∀ n : Int, -9223372036854775808 ≤ n → n ≤ 9223372036854775807 → Calls P f #[.int .i64 n] g.w fun e w' => e = .returned (.string ⟨(Lib.itoa n).toArray⟩) ∧ ∃ k os, w' = grow (g.w.drewN k) os) : PSound P Inv f pItoa := by
  intro args H r h g vs R hW hI hH ha hR
  unfold pItoa at h
  split at h
  · rename_i n
    split at h
    · rename_i hn
      simp at h; subst h
      obtain ⟨v, rfl, h1⟩ := cs_one ha
      obtain rfl := h1.inv_val
      refine goes_val (x := .string ⟨(itoaL n).toArray⟩) hE (hC g hI n hn.1 hn.2) hW hH ?_ hR
      rintro e w' ⟨rfl, k, os, rfl⟩
      exact ⟨by rw [itoaL_lib hn.1 hn.2], below_grow _ _ _⟩
    · simp at h
  · simp at h
theorem join_ok {f : FuncId} (hE : Go.Proofs.Enters P f) (hN : ∀ (g : G) (a : Option Addr) (c : Nat) (sep : ByteArray), Calls P f #[.slice a 0 c, .string sep] g.w fun e w' => e = .returned (.string ⟨#[]⟩) ∧ w' = g.w)
    (hC : ∀ (g : G) (bk o c : Nat) (xs : List ByteArray) (sep : ByteArray), (∀ (j : Nat) x, xs[j]? = some x → g.w.cell? ⟨bk, o + j, none⟩ = some (.string x)) → bk < g.w.heap.size → xs.length ≤ 140737488355328 → xs.length ≤ c → (Lib.join (xs.map (·.data.toList)) sep.data.toList).length ≤ 140737488355328 →
      Calls P f #[.slice (some ⟨bk, o, none⟩) xs.length c, .string sep] g.w fun e w' => e = .returned (.string ⟨(Lib.join (xs.map (·.data.toList)) sep.data.toList).toArray⟩) ∧ Below g.w.heap.size g.w w') : PSound P Inv f pJoin := by
  intro args H r h g vs R hW hI hH ha hR
  unfold pJoin at h
  split at h
  · simp at h
  · rename_i x p hnv
    split at h
    · rename_i xs is hel
      split at h
      · rename_i l hl
        split at h
        · rename_i hcond
          simp at h; subst h
          obtain ⟨v, u, rfl, h1, h2⟩ := cs_two ha
          obtain rfl := h2.inv_val
          subst hH
          obtain ⟨ad, c, rfl, hlc, hat⟩ := elems_slice hW h1 (fun x0 hx0 => hnv x0 hx0) hel
          have hstr : ∀ (xs : List (List PV)) (l : List (List UInt8)), strs xs = some l → xs = l.map fun x => [strOf x] := by
            intro xs
            induction xs with
            | nil => intro l h; simp [strs] at h; subst h; rfl
            | cons y ys ih =>
              intro l h
              unfold strs at h
              split at h
              · rename_i heq; simp at heq
              · rename_i s r heq
                simp at heq; obtain ⟨rfl, rfl⟩ := heq
                simp only [Option.map_eq_some_iff] at h
                obtain ⟨l', h', rfl⟩ := h
                rw [ih l' h']; simp [strOf]
              · simp at h
          have hxs := hstr xs l hl
          cases hne : xs with
          | nil =>
            have hl0 : l = [] := by rw [hne] at hxs; simpa using hxs.symm
            subst hl0
            rw [show ([] : List (List PV)).length = 0 from rfl]
            refine goes_val (x := .string ⟨#[]⟩) hE (hN g ad c p) hW rfl ?_ hR
            rintro e w' ⟨rfl, rfl⟩
            exact ⟨rfl, Below.refl _ _⟩
          | cons y ys =>
            obtain ⟨b, o, news, rfl, hbl, hrr, hcell⟩ := hat (by rw [hne]; simp)
            rw [← hne]
            have hlen : (l.map fun x => (⟨x.toArray⟩ : ByteArray)).length = xs.length := by rw [hxs]; simp
            rw [← hlen]
            have hmm : (l.map fun x => (⟨x.toArray⟩ : ByteArray)).map (·.data.toList) = l := by rw [List.map_map]; exact (List.map_congr_left fun x _ => by simp).trans (List.map_id l)
            generalize hL : (l.map fun x => (⟨x.toArray⟩ : ByteArray)) = L at hlen hmm
            have hLl : L.length ≤ 140737488355328 := by rw [← hL, List.length_map]; exact hcond.1
            have hLc : L.length ≤ c := by rw [hlen]; exact hlc
            have hLj : (Lib.join (L.map (·.data.toList)) p.data.toList).length ≤ 140737488355328 := by rw [hmm, ← joinL_lib]; exact hcond.2
            have hcells : ∀ (j : Nat) x, L[j]? = some x → g.w.cell? ⟨b, o + j, none⟩ = some (.string x) := by
              intro j x hx
              rw [← hL] at hx
              have hflat : xs.flatten = l.map strOf := by
                rw [hxs]
                have : ∀ l : List (List UInt8), (l.map fun x => [strOf x]).flatten = l.map strOf := by
                  intro l
                  induction l with
                  | nil => rfl
                  | cons a l ih => simp only [List.map_cons, List.flatten_cons, ih]; rfl
                exact this l
              obtain ⟨z, hz⟩ : ∃ z, l[j]? = some z ∧ (⟨z.toArray⟩ : ByteArray) = x := by simpa using hx
              have hfj : xs.flatten[j]? = some (strOf z) := by rw [hflat]; simp [hz.1]
              obtain ⟨cv, c1, c2⟩ := hrr.cs.get hfj
              have := c2.inv_val
              rw [hcell j cv c1, this, ← hz.2]
            have hcall := hC g b o c L p hcells hbl hLl hLc hLj
            rw [hmm, ← joinL_lib] at hcall
            exact goes_val (x := .string ⟨(joinL p.data.toList l).toArray⟩) hE hcall hW rfl (fun e w' h => h) hR
        · simp at h
      · simp at h
    · simp at h
  · simp at h
theorem below_bytes (w : World) (e : TypeId) (s : ByteArray) : Below w.heap.size w (Lib.bytesWorld w e s) := by
  have h1 : ((w.drew.alloc (.cells (Lib.bytesCells w e s) e)).heap).size = w.heap.size + 1 := by simp
  unfold Lib.bytesWorld World.freeze
  simp only [Nat.one_ne_zero, if_false]
  refine ⟨rfl, rfl, rfl, ?_, fun b hb => ?_⟩
  · simp only [Array.size_modify]; omega
  · simp only [Array.getElem?_modify]
    rw [if_neg (by omega)]
    exact Below.heap_alloc w.drew _ b hb
theorem atoi_ok {f : FuncId} {t : TypeId} {ti : TypeId} (hE : Go.Proofs.Enters P f)
    (hC : ∀ (g : G) (s : ByteArray), s.size ≤ 9223372036854775806 → ∀ v : Int, Lib.atoiAll s.data.toList = .ok v → Calls P f #[.string s] g.w fun e w' => e = .returned (.tuple #[.int .i64 v, .nilIface]) ∧ (w' = g.w ∨ ∃ t', w' = Lib.bytesWorld g.w t t'))
    (hS : ∀ g, Inv g → ∀ (s : ByteArray), s.size ≤ 281474976710656 → (∀ v, Lib.atoiAll s.data.toList ≠ .ok v) → Lib.atoiAll s.data.toList ≠ .range → Calls P f #[.string s] g.w fun e w' => (∃ N, e = .returned (.tuple #[.int .i64 (0), .iface ti (.pointer (some ⟨N, 0, none⟩))])) ∧ Below g.w.heap.size g.w w')
    (hR : ∀ g, Inv g → ∀ (s : ByteArray), s.size ≤ 281474976710656 → Lib.atoiAll s.data.toList = .range → Calls P f #[.string s] g.w fun e w' => (∃ N, e = .returned (.tuple #[.int .i64 (Lib.atoiSat s.data.toList), .iface ti (.pointer (some ⟨N, 0, none⟩))])) ∧ Below g.w.heap.size g.w w') : PSound P Inv f pAtoi := by
  intro args H r h g vs R hW hI hH ha hQ
  unfold pAtoi at h
  split at h
  · rename_i s
    split at h
    · rename_i hs
      split at h
      · rename_i v hv
        simp at h; subst h
        obtain ⟨u, rfl, h1⟩ := cs_one ha
        obtain rfl := h1.inv_val
        refine goes_calls hE (hC g s (by omega) v hv) ?_
        rintro e w' ⟨rfl, hw⟩
        have hb : Below g.w.heap.size g.w w' := by
          rcases hw with rfl | ⟨t', rfl⟩
          · exact Below.refl _ _
          · exact below_bytes _ _ _
        obtain ⟨g', e1, e2, e3, e4, e5⟩ := grown_g hW hb
        exact ⟨_, rfl, e1 ▸ hQ g' _ (by rw [e2, hH]) e3 e4 (VR.of_tup (Cs.cons (.val _) (Cs.cons (.val _) (Cs.nil _))))⟩
      · rename_i hv
        simp at h; subst h
        obtain ⟨u, rfl, h1⟩ := cs_one ha
        obtain rfl := h1.inv_val
        refine goes_calls hE (hR g hI s hs hv) ?_
        rintro e w' ⟨⟨N, rfl⟩, hb⟩
        obtain ⟨g', e1, e2, e3, e4, e5⟩ := grown_g hW hb
        exact ⟨_, rfl, e1 ▸ hQ g' _ (by rw [e2, hH]) e3 e4 (VR.of_tup (Cs.cons (.val _) (Cs.cons (.ifc _ _) (Cs.nil _))))⟩
      · rename_i hv1 hv2
        simp at h; subst h
        obtain ⟨u, rfl, h1⟩ := cs_one ha
        obtain rfl := h1.inv_val
        refine goes_calls hE (hS g hI s hs hv1 hv2) ?_
        rintro e w' ⟨⟨N, rfl⟩, hb⟩
        obtain ⟨g', e1, e2, e3, e4, e5⟩ := grown_g hW hb
        exact ⟨_, rfl, e1 ▸ hQ g' _ (by rw [e2, hH]) e3 e4 (VR.of_tup (Cs.cons (.val _) (Cs.cons (.ifc _ _) (Cs.nil _))))⟩
    · simp at h
  · simp at h
theorem trunc_ok {f : FuncId} (hC : ∀ (x : Nat) (w : World) (args : Array Value), (callFunc f args).run P w = (do return Next.value (← Extern.MathFloor.toIntegral "math.archTrunc" .zero args) : Sem Next).run P w) : PSound P Inv f pTrunc := by
  intro args H r h g vs R hW hI hH ha hR
  unfold pTrunc at h
  split at h
  · rename_i b
    split at h
    · simp at h
    · rename_i d hd
      simp at h; subst h
      obtain ⟨u, rfl, h1⟩ := cs_one ha
      obtain rfl := h1.inv_val
      have hrun : (callFunc f [Value.float .f64 b].toArray).run P g.w = .ok (.value (.float .f64 (FloatKind.f64.encode ((FloatKind.f64.decode b).integral .zero)))) g.w := by
        rw [hC b]
        simp only [Sem.run_bind]
        have key : ∀ e, FloatKind.f64.decode b = e → (∀ s t, e ≠ .nan s t) → Extern.MathFloor.toIntegral "math.archTrunc" .zero [Value.float .f64 b].toArray = pure (.float .f64 (FloatKind.f64.encode (e.integral .zero))) := by
          intro e he hn
          unfold Extern.MathFloor.toIntegral
          show (match FloatKind.f64.decode b with
            | .nan s t => _
            | d => (pure (Value.float .f64 (FloatKind.f64.encode (d.integral .zero))) : Sem Value)) = _
          rw [he]
          cases e with
          | nan s t => exact (hn s t rfl).elim
          | number _ _ _ => rfl
          | infinity _ => rfl
        rw [key _ rfl (fun s t hx => hd s t hx)]
        rfl
      unfold Goes
      rw [hrun]
      exact hR g _ hH hW (Ext.refl g) (.val _)
  · simp at h
end Go.Evl.Zone

namespace Go.Evl.Zone
open Go Go.Evl Go.RowKit
theorem compare_ok {P : Program} {Inv : G → Prop} {f : FuncId} (hE : Go.Proofs.Enters P f) (hC : ∀ (a b : ByteArray) (w : World), Calls P f #[.string a, .string b] w fun e w' => e = .returned (.int .i64 (Lib.compareBytes a.data.toList b.data.toList)) ∧ w' = w) : PSound P Inv f pCompare := by
  intro args H r h g vs R hW hI hH ha hR
  unfold pCompare at h
  split at h
  · rename_i a b
    simp at h; subst h
    obtain ⟨v, u, rfl, h1, h2⟩ := cs_two ha
    obtain rfl := h1.inv_val
    obtain rfl := h2.inv_val
    refine goes_val hE (hC a b g.w) hW hH ?_ hR
    rintro e w' ⟨rfl, rfl⟩
    exact ⟨rfl, Below.refl _ _⟩
  · simp at h
def cloneC (t : TypeId) (k : Nat) : CF := ⟨
 (.seq
 (.reg false [
   ⟨(some 2), (.mv (.c (.im [] true))), none⟩] [])
 (.seq
 (.seq
 (.reg false [
   ⟨(some 3), (.mv (.t 0)), none⟩,
   ⟨(some 4), (.bin .eql t false true (.t 3) (.c (.im [] true))), none⟩] [])
 (.cond (.t 4)
  (.seq
  (.reg false [
    ⟨(some 2), (.mv (.c (.im [] true))), none⟩] [])
  .ret)
  .skip))
 (.seq
 (.reg false [
   ⟨(some 5), (.bsl k 0 [] []), none⟩,
   ⟨(some 6), (.mv (.t 0)), none⟩,
   ⟨(some 7), (.app k (.t 5) (.t 6)), none⟩,
   ⟨(some 2), (.mv (.t 7)), none⟩] [])
 .ret))),
 [.tmp 2]⟩
def E0 (P : Program) (h : How) (f : FuncId) (c : CF) : Env := ⟨P, fun _ _ => h, fun n => if n = f then some c else none, fun _ => none⟩
theorem E0_P {P : Program} {h : How} {f : FuncId} {c : CF} : (E0 P h f c).P = P := rfl
section
variable {P : Program} {h : How} {f : FuncId} {t : TypeId} {k : Nat}
theorem bn_val {el : TypeId} (ht : P.underlying t = some (.slice el)) {ad : Option Addr} {n c : Nat} : evBin P .eql t false true (.val (.slice ad n c)) (.im [] true) = some (.val (.bool ad.isNone)) := by
  simp [evBin, toV, snil, ht]
theorem bn_im {el : TypeId} (ht : P.underlying t = some (.slice el)) {y : List PV} {ys : List (List PV)} {fl : Bool} : evBin P .eql t false true (.im (y :: ys) fl) (.im [] true) = some (.val (.bool false)) := by
  simp [evBin, toV, snil, ht]
theorem bn_sl {el : TypeId} (ht : P.underlying t = some (.slice el)) {r k g o n : Nat} : evBin P .eql t false true (.sl r k g o (n + 1)) (.im [] true) = some (.val (.bool false)) := by
  simp [evBin, toV, snil, ht]
theorem clone_full {x : PV} {ys : List (List PV)} {is : List Nat} {H : Heap} (hb : evBin P .eql t false true x (.im [] true) = some (.val (.bool false))) (he : elems (H.grow 1) k x = some (ys, is)) (h0 : ys ≠ []) (hm : ys.length ≤ most) :
    V (E0 P h f (cloneC t k)) f (cloneC t k).body ⟨start [x], H, []⟩ [] fun _ st => st.h = (H.grow 1).put H.n (.row k ys true) ∧ resV st (cloneC t k).res = some (.sl H.n k ys.length 0 ys.length) := by
  have hf : ∀ H, freeze H [] = H := fun _ => rfl
  simp [cloneC, E0_P, hb, hf, he, appendP, h0, hm, chunks, allLen, nAlloc, allocs, start]
theorem clone_nil {el : TypeId} (ht : P.underlying t = some (.slice el)) {c : Nat} {H : Heap} :
    V (E0 P h f (cloneC t k)) f (cloneC t k).body ⟨start [.val (.slice none 0 c)], H, []⟩ [] fun _ st => st.h = H.grow 0 ∧ resV st (cloneC t k).res = some (.im [] true) := by
  simp [cloneC, E0_P, bn_val ht, start]
theorem clone_none {el : TypeId} (ht : P.underlying t = some (.slice el)) {ad : Addr} {c : Nat} {H : Heap} :
    V (E0 P h f (cloneC t k)) f (cloneC t k).body ⟨start [.val (.slice (some ad) 0 c)], H, []⟩ [] fun _ st => st.h = H.grow 1 ∧ resV st (cloneC t k).res = some (.im [] true) := by
  have hf : ∀ H, freeze H [] = H := fun _ => rfl
  simp [cloneC, E0_P, bn_val ht, hf, elems, appendP, chunks, allLen, nAlloc, allocs, start]
theorem elems_at {H H' : Heap} (h : H'.at_ = H.at_) {k : Nat} {x : PV} : elems H' k x = elems H k x := by
  unfold elems
  rw [h]
theorem clone_ok {Inv : G → Prop} {el : TypeId} (hI : InvOK Inv) (ht : P.underlying t = some (.slice el)) (hc : (E0 P .keep f (cloneC t k)).code f = some (cloneC t k)) : PSound P Inv f (pClone k) := by
  intro args H r h g vs R hW hinv hH ha hR
  have hT : TabOK (E0 P .keep f (cloneC t k)) := by
    intro f' cf q
    simp only [E0] at q
    split at q
    · rename_i e
      subst e
      simp only [Option.some.injEq] at q
      subst q
      exact hc
    · cases q
  have hF : PrimFr (E0 P .keep f (cloneC t k)) := ⟨fun f p q => by (cases q), fun f p q => by (cases q)⟩
  have hD : PrimDd (E0 P .keep f (cloneC t k)) := ⟨fun f p q => by (cases q)⟩
  have hP : PrimOK (E0 P .keep f (cloneC t k)) Inv := ⟨fun f p q => by (cases q)⟩
  subst hH
  unfold pClone at h
  split at h
  · rename_i x
    split at h
    · cases h
    · rename_i hstr
      split at h
      · rename_i ys is he
        split at h
        · rename_i h0
          have hys : ys = [] := List.length_eq_zero_iff.1 h0
          subst hys
          simp only [Option.some.injEq] at h; subst h
          obtain ⟨v, rfl, hv⟩ := cs_one ha
          have hval : ∃ ad c, v = .slice ad 0 c := by
            unfold elems at he
            split at he
            · rename_i xs fl
              split at he
              · simp at he
                obtain ⟨rfl, rfl⟩ := he
                obtain ⟨ad, cap, rfl, _⟩ := hv.inv_im
                exact ⟨_, _, rfl⟩
              · cases he
            · rename_i r0 k0 g0 off len
              split at he
              · split at he
                · rename_i hcnd
                  obtain ⟨_, _, _, hle⟩ := hcnd
                  simp only [Option.some.injEq, Prod.mk.injEq] at he
                  have hl := congrArg List.length he.1
                  simp at hl
                  cases hv with
                  | sl ad _ _ _ _ _ cap hlc hg hh =>
                    have : len = 0 := by omega
                    subst this
                    exact ⟨_, _, rfl⟩
                · cases he
              · cases he
            · rename_i s
              simp [isStr] at hstr
            · have := hv.inv_val
              exact ⟨_, _, this⟩
            · cases he
          obtain ⟨ad, c, rfl⟩ := hval
          have ha' : Cs g [.slice ad 0 c] [.val (.slice ad 0 c)] := Cs.cons (.val _) (Cs.nil _)
          cases ad with
          | none =>
            obtain ⟨n, e, st, hev, h1, h2⟩ := clone_nil (P := P) (h := .keep) (f := f) (t := t) (k := k) ht (c := c) (H := g.H)
            refine evl_goes (E := E0 P .keep f (cloneC t k)) hI hT hF hD hP hc hW hinv ha' hev h2 fun g' v he hw hh hv => ?_
            exact hR (g'.room 1) v (by show g'.H.grow 1 = _; rw [hh, h1]; exact Heap.ext' rfl fun i => by simp) (wr_room hw 1) (he.trans (ext_room hw 1)) (hv.mono hw (ext_room hw 1))
          | some ad =>
            obtain ⟨n, e, st, hev, h1, h2⟩ := clone_none (P := P) (h := .keep) (f := f) (t := t) (k := k) ht (ad := ad) (c := c) (H := g.H)
            exact evl_goes (E := E0 P .keep f (cloneC t k)) hI hT hF hD hP hc hW hinv ha' hev h2 fun g' v he hw hh hv => hR g' v (by rw [hh, h1]) hw he hv
        · rename_i h0
          split at h
          · rename_i hm
            simp only [Option.some.injEq] at h; subst h
            have h0' : ys ≠ [] := fun q => h0 (by rw [q]; rfl)
            have he' : elems (g.H.grow 1) k x = some (ys, is) := by rw [elems_at (room_at hW 1)]; exact he
            have hb : evBin P .eql t false true x (.im [] true) = some (.val (.bool false)) := by
              unfold elems at he
              split at he
              · rename_i xs fl
                split at he
                · simp at he
                  obtain ⟨rfl, rfl⟩ := he
                  cases xs with
                  | nil => exact (h0' rfl).elim
                  | cons y ys => exact bn_im ht
                · cases he
              · rename_i r k' g0 off len
                split at he
                · split at he
                  · simp only [Option.some.injEq, Prod.mk.injEq] at he
                    cases len with
                    | zero => simp at he; exact (h0' he.1).elim
                    | succ n => exact bn_sl ht
                  · cases he
                · cases he
              · simp [isStr] at hstr
              · simp at he
                exact (h0' he.1).elim
              · cases he
            obtain ⟨n, e, st, hev, h1, h2⟩ := clone_full (P := P) (h := .keep) (f := f) (t := t) (k := k) (H := g.H) hb he' h0' hm
            exact evl_goes (E := E0 P .keep f (cloneC t k)) hI hT hF hD hP hc hW hinv ha hev h2 fun g' v he hw hh hv => hR g' v (by rw [hh, h1]) hw he hv
          · cases h
      · cases h
  · cases h
end
end Go.Evl.Zone

namespace Go.Evl.Zone
open Go Go.Evl
set_option maxRecDepth 100000
theorem ok12 : (env Proofs.Tryz.prog).code 12 = some c12 := by kernel_rfl
theorem ok15 : (env Proofs.Tryz.prog).code 15 = some c15 := by kernel_rfl
theorem ok18 : (env Proofs.Tryz.prog).code 18 = some c18 := by kernel_rfl
theorem ok36 : (env Proofs.Tryz.prog).code 36 = some c36 := by kernel_rfl
theorem ok40 : (env Proofs.Tryz.prog).code 40 = some c40 := by kernel_rfl
theorem ok58 : (env Proofs.Tryz.prog).code 58 = some c58 := by kernel_rfl
theorem ok61 : (env Proofs.Tryz.prog).code 61 = some c61 := by kernel_rfl
theorem ok70 : (env Proofs.Tryz.prog).code 70 = some c70 := by kernel_rfl
theorem ok87 : (env Proofs.Tryz.prog).code 87 = some c87 := by kernel_rfl
theorem ok105 : (env Proofs.Tryz.prog).code 105 = some c105 := by kernel_rfl
theorem ok122 : (env Proofs.Tryz.prog).code 122 = some c122 := by kernel_rfl
theorem ok126 : (env Proofs.Tryz.prog).code 126 = some c126 := by kernel_rfl
theorem ok129 : (env Proofs.Tryz.prog).code 129 = some c129 := by kernel_rfl
theorem ok136 : (env Proofs.Tryz.prog).code 136 = some c136 := by kernel_rfl
theorem ok137 : (env Proofs.Tryz.prog).code 137 = some c137 := by kernel_rfl
theorem ok158 : (env Proofs.Tryz.prog).code 158 = some c158 := by kernel_rfl
theorem ok162 : (env Proofs.Tryz.prog).code 162 = some c162 := by kernel_rfl
theorem ok163 : (env Proofs.Tryz.prog).code 163 = some c163 := by kernel_rfl
theorem ok169 : (env Proofs.Tryz.prog).code 169 = some c169 := by kernel_rfl
theorem ok172 : (env Proofs.Tryz.prog).code 172 = some c172 := by kernel_rfl
theorem ok176 : (env Proofs.Tryz.prog).code 176 = some c176 := by kernel_rfl
theorem ok183 : (env Proofs.Tryz.prog).code 183 = some c183 := by kernel_rfl
end Go.Evl.Zone

namespace Go.Evl.Zone
open Go Go.Evl
set_option maxRecDepth 100000
theorem ok10 : (env Proofs.Tryz.prog).code 10 = some c10 := by kernel_rfl
theorem ok33 : (env Proofs.Tryz.prog).code 33 = some c33 := by kernel_rfl
theorem ok48 : (env Proofs.Tryz.prog).code 48 = some c48 := by kernel_rfl
theorem ok57 : (env Proofs.Tryz.prog).code 57 = some c57 := by kernel_rfl
theorem ok60 : (env Proofs.Tryz.prog).code 60 = some c60 := by kernel_rfl
theorem ok69 : (env Proofs.Tryz.prog).code 69 = some c69 := by kernel_rfl
theorem ok73 : (env Proofs.Tryz.prog).code 73 = some c73 := by kernel_rfl
theorem ok76 : (env Proofs.Tryz.prog).code 76 = some c76 := by kernel_rfl
theorem ok99 : (env Proofs.Tryz.prog).code 99 = some c99 := by kernel_rfl
theorem ok101 : (env Proofs.Tryz.prog).code 101 = some c101 := by kernel_rfl
theorem ok103 : (env Proofs.Tryz.prog).code 103 = some c103 := by kernel_rfl
theorem ok104 : (env Proofs.Tryz.prog).code 104 = some c104 := by kernel_rfl
theorem ok119 : (env Proofs.Tryz.prog).code 119 = some c119 := by kernel_rfl
theorem ok123 : (env Proofs.Tryz.prog).code 123 = some c123 := by kernel_rfl
theorem ok151 : (env Proofs.Tryz.prog).code 151 = some c151 := by kernel_rfl
theorem ok155 : (env Proofs.Tryz.prog).code 155 = some c155 := by kernel_rfl
theorem ok159 : (env Proofs.Tryz.prog).code 159 = some c159 := by kernel_rfl
theorem ok161 : (env Proofs.Tryz.prog).code 161 = some c161 := by kernel_rfl
theorem ok165 : (env Proofs.Tryz.prog).code 165 = some c165 := by kernel_rfl
theorem ok173 : (env Proofs.Tryz.prog).code 173 = some c173 := by kernel_rfl
theorem ok187 : (env Proofs.Tryz.prog).code 187 = some c187 := by kernel_rfl
theorem ok190 : (env Proofs.Tryz.prog).code 190 = some c190 := by kernel_rfl
end Go.Evl.Zone

namespace Go.Evl.Zone
open Go Go.Evl
set_option maxRecDepth 100000
theorem ok16 : (env Proofs.Tryz.prog).code 16 = some c16 := by kernel_rfl
theorem ok42 : (env Proofs.Tryz.prog).code 42 = some c42 := by kernel_rfl
theorem ok55 : (env Proofs.Tryz.prog).code 55 = some c55 := by kernel_rfl
theorem ok56 : (env Proofs.Tryz.prog).code 56 = some c56 := by kernel_rfl
theorem ok63 : (env Proofs.Tryz.prog).code 63 = some c63 := by kernel_rfl
theorem ok71 : (env Proofs.Tryz.prog).code 71 = some c71 := by kernel_rfl
theorem ok81 : (env Proofs.Tryz.prog).code 81 = some c81 := by kernel_rfl
theorem ok97 : (env Proofs.Tryz.prog).code 97 = some c97 := by kernel_rfl
theorem ok112 : (env Proofs.Tryz.prog).code 112 = some c112 := by kernel_rfl
theorem ok113 : (env Proofs.Tryz.prog).code 113 = some c113 := by kernel_rfl
theorem ok114 : (env Proofs.Tryz.prog).code 114 = some c114 := by kernel_rfl
theorem ok115 : (env Proofs.Tryz.prog).code 115 = some c115 := by kernel_rfl
theorem ok124 : (env Proofs.Tryz.prog).code 124 = some c124 := by kernel_rfl
theorem ok125 : (env Proofs.Tryz.prog).code 125 = some c125 := by kernel_rfl
theorem ok132 : (env Proofs.Tryz.prog).code 132 = some c132 := by kernel_rfl
theorem ok138 : (env Proofs.Tryz.prog).code 138 = some c138 := by kernel_rfl
theorem ok153 : (env Proofs.Tryz.prog).code 153 = some c153 := by kernel_rfl
theorem ok156 : (env Proofs.Tryz.prog).code 156 = some c156 := by kernel_rfl
theorem ok164 : (env Proofs.Tryz.prog).code 164 = some c164 := by kernel_rfl
theorem ok168 : (env Proofs.Tryz.prog).code 168 = some c168 := by kernel_rfl
theorem ok171 : (env Proofs.Tryz.prog).code 171 = some c171 := by kernel_rfl
theorem ok188 : (env Proofs.Tryz.prog).code 188 = some c188 := by kernel_rfl
end Go.Evl.Zone

namespace Go.Evl.Zone
open Go Go.Evl
set_option maxRecDepth 100000
theorem ok9 : (env Proofs.Tryz.prog).code 9 = some c9 := by kernel_rfl
theorem ok38 : (env Proofs.Tryz.prog).code 38 = some c38 := by kernel_rfl
theorem ok39 : (env Proofs.Tryz.prog).code 39 = some c39 := by kernel_rfl
theorem ok41 : (env Proofs.Tryz.prog).code 41 = some c41 := by kernel_rfl
theorem ok43 : (env Proofs.Tryz.prog).code 43 = some c43 := by kernel_rfl
theorem ok59 : (env Proofs.Tryz.prog).code 59 = some c59 := by kernel_rfl
theorem ok65 : (env Proofs.Tryz.prog).code 65 = some c65 := by kernel_rfl
theorem ok66 : (env Proofs.Tryz.prog).code 66 = some c66 := by kernel_rfl
theorem ok72 : (env Proofs.Tryz.prog).code 72 = some c72 := by kernel_rfl
theorem ok74 : (env Proofs.Tryz.prog).code 74 = some c74 := by kernel_rfl
theorem ok75 : (env Proofs.Tryz.prog).code 75 = some c75 := by kernel_rfl
theorem ok95 : (env Proofs.Tryz.prog).code 95 = some c95 := by kernel_rfl
theorem ok96 : (env Proofs.Tryz.prog).code 96 = some c96 := by kernel_rfl
theorem ok98 : (env Proofs.Tryz.prog).code 98 = some c98 := by kernel_rfl
theorem ok106 : (env Proofs.Tryz.prog).code 106 = some c106 := by kernel_rfl
theorem ok110 : (env Proofs.Tryz.prog).code 110 = some c110 := by kernel_rfl
theorem ok120 : (env Proofs.Tryz.prog).code 120 = some c120 := by kernel_rfl
theorem ok127 : (env Proofs.Tryz.prog).code 127 = some c127 := by kernel_rfl
theorem ok135 : (env Proofs.Tryz.prog).code 135 = some c135 := by kernel_rfl
theorem ok167 : (env Proofs.Tryz.prog).code 167 = some c167 := by kernel_rfl
theorem ok175 : (env Proofs.Tryz.prog).code 175 = some c175 := by kernel_rfl
theorem ok189 : (env Proofs.Tryz.prog).code 189 = some c189 := by kernel_rfl
end Go.Evl.Zone

namespace Go.Evl.Zone
open Go Go.Evl
set_option maxRecDepth 100000
theorem ok11 : (env Proofs.Tryz.prog).code 11 = some c11 := by kernel_rfl
theorem ok14 : (env Proofs.Tryz.prog).code 14 = some c14 := by kernel_rfl
theorem ok17 : (env Proofs.Tryz.prog).code 17 = some c17 := by kernel_rfl
theorem ok34 : (env Proofs.Tryz.prog).code 34 = some c34 := by kernel_rfl
theorem ok35 : (env Proofs.Tryz.prog).code 35 = some c35 := by kernel_rfl
theorem ok46 : (env Proofs.Tryz.prog).code 46 = some c46 := by kernel_rfl
theorem ok54 : (env Proofs.Tryz.prog).code 54 = some c54 := by kernel_rfl
theorem ok64 : (env Proofs.Tryz.prog).code 64 = some c64 := by kernel_rfl
theorem ok68 : (env Proofs.Tryz.prog).code 68 = some c68 := by kernel_rfl
theorem ok93 : (env Proofs.Tryz.prog).code 93 = some c93 := by kernel_rfl
theorem ok100 : (env Proofs.Tryz.prog).code 100 = some c100 := by kernel_rfl
theorem ok117 : (env Proofs.Tryz.prog).code 117 = some c117 := by kernel_rfl
theorem ok118 : (env Proofs.Tryz.prog).code 118 = some c118 := by kernel_rfl
theorem ok128 : (env Proofs.Tryz.prog).code 128 = some c128 := by kernel_rfl
theorem ok130 : (env Proofs.Tryz.prog).code 130 = some c130 := by kernel_rfl
theorem ok131 : (env Proofs.Tryz.prog).code 131 = some c131 := by kernel_rfl
theorem ok133 : (env Proofs.Tryz.prog).code 133 = some c133 := by kernel_rfl
theorem ok141 : (env Proofs.Tryz.prog).code 141 = some c141 := by kernel_rfl
theorem ok152 : (env Proofs.Tryz.prog).code 152 = some c152 := by kernel_rfl
theorem ok160 : (env Proofs.Tryz.prog).code 160 = some c160 := by kernel_rfl
theorem ok174 : (env Proofs.Tryz.prog).code 174 = some c174 := by kernel_rfl
theorem ok185 : (env Proofs.Tryz.prog).code 185 = some c185 := by kernel_rfl
end Go.Evl.Zone

namespace Go.Evl.Zone
open Go Go.Evl
set_option maxRecDepth 100000
theorem ok4 : (env Proofs.Tryz.prog).code 4 = some c4 := by kernel_rfl
theorem ok37 : (env Proofs.Tryz.prog).code 37 = some c37 := by kernel_rfl
theorem ok44 : (env Proofs.Tryz.prog).code 44 = some c44 := by kernel_rfl
theorem ok45 : (env Proofs.Tryz.prog).code 45 = some c45 := by kernel_rfl
theorem ok47 : (env Proofs.Tryz.prog).code 47 = some c47 := by kernel_rfl
theorem ok62 : (env Proofs.Tryz.prog).code 62 = some c62 := by kernel_rfl
theorem ok67 : (env Proofs.Tryz.prog).code 67 = some c67 := by kernel_rfl
theorem ok77 : (env Proofs.Tryz.prog).code 77 = some c77 := by kernel_rfl
theorem ok78 : (env Proofs.Tryz.prog).code 78 = some c78 := by kernel_rfl
theorem ok79 : (env Proofs.Tryz.prog).code 79 = some c79 := by kernel_rfl
theorem ok80 : (env Proofs.Tryz.prog).code 80 = some c80 := by kernel_rfl
theorem ok102 : (env Proofs.Tryz.prog).code 102 = some c102 := by kernel_rfl
theorem ok107 : (env Proofs.Tryz.prog).code 107 = some c107 := by kernel_rfl
theorem ok108 : (env Proofs.Tryz.prog).code 108 = some c108 := by kernel_rfl
theorem ok109 : (env Proofs.Tryz.prog).code 109 = some c109 := by kernel_rfl
theorem ok111 : (env Proofs.Tryz.prog).code 111 = some c111 := by kernel_rfl
theorem ok116 : (env Proofs.Tryz.prog).code 116 = some c116 := by kernel_rfl
theorem ok121 : (env Proofs.Tryz.prog).code 121 = some c121 := by kernel_rfl
theorem ok134 : (env Proofs.Tryz.prog).code 134 = some c134 := by kernel_rfl
theorem ok157 : (env Proofs.Tryz.prog).code 157 = some c157 := by kernel_rfl
theorem ok166 : (env Proofs.Tryz.prog).code 166 = some c166 := by kernel_rfl
theorem ok170 : (env Proofs.Tryz.prog).code 170 = some c170 := by kernel_rfl
end Go.Evl.Zone

namespace Go.Evl.Zone
open Go Go.Evl
set_option maxRecDepth 100000
theorem br {b : Bool} {x y : Option CF} {v : CF} {Q : Prop} (hx : x = some v → Q) (hy : y = some v → Q) : cond b x y = some v → Q := by
  cases b
  · exact hy
  · exact hx
theorem lf {E : Env} {f n : Nat} {c v : CF} (h : E.code n = some c) : cond (Nat.beq f n) (some c) none = some v → E.code f = some v := by
  intro q
  cases hb : Nat.beq f n
  · rw [hb] at q; cases q
  · rw [hb] at q
    obtain rfl := Nat.eq_of_beq_eq_true hb
    rw [h]; exact q
theorem tab_ok : TabOK (env Proofs.Tryz.prog) := by
  intro f cf h
  change tab f = some cf at h
  unfold tab at h
  exact (br (br (br (br (br (br (br (lf ok4)
 (lf ok9))
 (br (lf ok10)
 (lf ok11)))
 (br (br (lf ok12)
 (lf ok14))
 (br (lf ok15)
 (lf ok16))))
 (br (br (br (lf ok17)
 (lf ok18))
 (br (lf ok33)
 (lf ok34)))
 (br (br (lf ok35)
 (lf ok36))
 (br (lf ok37)
 (lf ok38)))))
 (br (br (br (br (lf ok39)
 (lf ok40))
 (br (lf ok41)
 (lf ok42)))
 (br (br (lf ok43)
 (lf ok44))
 (br (lf ok45)
 (lf ok46))))
 (br (br (br (lf ok47)
 (lf ok48))
 (br (lf ok54)
 (lf ok55)))
 (br (br (lf ok56)
 (lf ok57))
 (br (lf ok58)
 (br (lf ok59)
 (lf ok60)))))))
 (br (br (br (br (br (lf ok61)
 (lf ok62))
 (br (lf ok63)
 (lf ok64)))
 (br (br (lf ok65)
 (lf ok66))
 (br (lf ok67)
 (lf ok68))))
 (br (br (br (lf ok69)
 (lf ok70))
 (br (lf ok71)
 (lf ok72)))
 (br (br (lf ok73)
 (lf ok74))
 (br (lf ok75)
 (lf ok76)))))
 (br (br (br (br (lf ok77)
 (lf ok78))
 (br (lf ok79)
 (lf ok80)))
 (br (br (lf ok81)
 (lf ok87))
 (br (lf ok93)
 (lf ok95))))
 (br (br (br (lf ok96)
 (lf ok97))
 (br (lf ok98)
 (lf ok99)))
 (br (br (lf ok100)
 (lf ok101))
 (br (lf ok102)
 (br (lf ok103)
 (lf ok104))))))))
 (br (br (br (br (br (br (lf ok105)
 (lf ok106))
 (br (lf ok107)
 (lf ok108)))
 (br (br (lf ok109)
 (lf ok110))
 (br (lf ok111)
 (lf ok112))))
 (br (br (br (lf ok113)
 (lf ok114))
 (br (lf ok115)
 (lf ok116)))
 (br (br (lf ok117)
 (lf ok118))
 (br (lf ok119)
 (lf ok120)))))
 (br (br (br (br (lf ok121)
 (lf ok122))
 (br (lf ok123)
 (lf ok124)))
 (br (br (lf ok125)
 (lf ok126))
 (br (lf ok127)
 (lf ok128))))
 (br (br (br (lf ok129)
 (lf ok130))
 (br (lf ok131)
 (lf ok132)))
 (br (br (lf ok133)
 (lf ok134))
 (br (lf ok135)
 (br (lf ok136)
 (lf ok137)))))))
 (br (br (br (br (br (lf ok138)
 (lf ok141))
 (br (lf ok151)
 (lf ok152)))
 (br (br (lf ok153)
 (lf ok155))
 (br (lf ok156)
 (lf ok157))))
 (br (br (br (lf ok158)
 (lf ok159))
 (br (lf ok160)
 (lf ok161)))
 (br (br (lf ok162)
 (lf ok163))
 (br (lf ok164)
 (lf ok165)))))
 (br (br (br (br (lf ok166)
 (lf ok167))
 (br (lf ok168)
 (lf ok169)))
 (br (br (lf ok170)
 (lf ok171))
 (br (lf ok172)
 (lf ok173))))
 (br (br (br (lf ok174)
 (lf ok175))
 (br (lf ok176)
 (lf ok183)))
 (br (br (lf ok185)
 (lf ok187))
 (br (lf ok188)
 (br (lf ok189)
 (lf ok190))))))))) h
end Go.Evl.Zone

namespace Go.Evl.Zone
open Go Go.Evl
set_option maxRecDepth 1000000
noncomputable def toldEnd : Option (Option (PV × List Nat)) := (ev (env Proofs.Tryz.prog) 2000 11 c11.body ⟨start [], Heap.empty, []⟩).map fun q => (resV q.2 c11.res).bind (expV q.2.h)
theorem told_end : toldEnd = some (some (.val (.bool true), [])) := by kernel_rfl
theorem told_ans : ans (env Proofs.Tryz.prog) 11 [] = some (.val (.bool true)) := by
  have h := told_end
  unfold toldEnd at h
  simp only [Option.map_eq_some_iff] at h
  obtain ⟨⟨e, st⟩, h1, h2⟩ := h
  exact ans_of ⟨c11, rfl, rfl, 2000, e, st, [], h1, h2⟩
end Go.Evl.Zone

namespace Go.Evl.Zone
open Go Go.Evl Go.Proofs Go.RowKit Go.ChangeShapes Go.WideShapes Go.ChangeAt
noncomputable abbrev P0 : Program := Tryz.prog
structure Wd (W : World) : Prop where
  m : ∃ m, W.cell? ⟨1, 0, none⟩ = some (.int .i64 m)
  e : ∃ u v, W.cell? ⟨3, 0, none⟩ = some (.iface u v)
  r : ∃ u v, W.cell? ⟨4, 0, none⟩ = some (.iface u v)
  t : Lib.TabIs P0 W "internal/strconv.uint64pow10" .u64 Lib.pow10Tab
  s : 2 < W.heap.size
def InvW (W : World) (g : G) : Prop := ∀ b, b < W.heap.size → g.Z b ∧ g.w.heap[b]? = W.heap[b]?
theorem invW_ok (W : World) : InvOK (InvW W) where
  mono := fun g g' hW e h b hb => ⟨e.zin b (h b hb).1, (e.keepZ hW (h b hb).1).trans (h b hb).2⟩
  same := fun g g' hw hz h b hb => ⟨hz b (h b hb).1, by rw [hw]; exact (h b hb).2⟩
theorem invW_g0 (W : World) : InvW W (g0 W) := fun b hb => ⟨hb, rfl⟩
theorem InvW.cell {W : World} {g : G} (h : InvW W g) {a : Addr} (ha : a.block < W.heap.size) : g.w.cell? a = W.cell? a := World.cell?_of_block (w := W) (h a.block ha).2
theorem InvW.var {W : World} {g : G} (h : InvW W g) {n : String} {k : Nat} (hg : P0.globalNamed n = some k) (hk : k < W.heap.size) : g.w.var? P0 n = W.var? P0 n := by
  unfold World.var?
  rw [hg]
  simp only [Option.bind_some]
  rw [(h k hk).2]
theorem lt_of_cell {W : World} {a : Addr} {v : Value} (h : W.cell? a = some v) : a.block < W.heap.size := by
  unfold World.cell? at h
  cases hb : W.heap[a.block]? with
  | none => rw [hb] at h; simp at h
  | some o => exact lt_of_heap hb
def Still (p : List PV → Heap → Option ORes) : Prop := ∀ args, (∀ H, p args H = none) ∨ ∃ v, ∀ H, p args H = some ⟨v, H, [], some []⟩
theorem still_split : Still pSplit := by
  intro args
  unfold pSplit
  split
  · split
    · split
      · exact .inr ⟨_, fun _ => rfl⟩
      · exact .inl fun _ => rfl
    · exact .inl fun _ => rfl
  · exact .inl fun _ => rfl
theorem still_itoa : Still pItoa := by
  intro args
  unfold pItoa
  split
  · split
    · exact .inr ⟨_, fun _ => rfl⟩
    · exact .inl fun _ => rfl
  · exact .inl fun _ => rfl
theorem still_atoi : Still pAtoi := by
  intro args
  unfold pAtoi
  split
  · split
    · split
      · exact .inr ⟨_, fun _ => rfl⟩
      · exact .inr ⟨_, fun _ => rfl⟩
      · exact .inr ⟨_, fun _ => rfl⟩
    · exact .inl fun _ => rfl
  · exact .inl fun _ => rfl
theorem still_trunc : Still pTrunc := by
  intro args
  unfold pTrunc
  split
  · split
    · exact .inl fun _ => rfl
    · exact .inr ⟨_, fun _ => rfl⟩
  · exact .inl fun _ => rfl
theorem Still.out {p : List PV → Heap → Option ORes} (hs : Still p) {args : List PV} {H : Heap} {r : ORes} (h : p args H = some r) : r.h = H ∧ r.wr = [] ∧ ∀ H', p args H' = some ⟨r.v, H'.patch r.h r.wr, r.wr, r.rd⟩ := by
  rcases hs args with q | ⟨v, q⟩
  · rw [q] at h; cases h
  · rw [q] at h
    simp only [Option.some.injEq] at h
    subst h
    exact ⟨rfl, rfl, fun H' => by rw [patch_nil]; exact q H'⟩
theorem join_out {args : List PV} {H : Heap} {r : ORes} (h : pJoin args H = some r) : r.h = H ∧ r.wr = [] ∧ ∀ H', Agree H' H r.rd → pJoin args H' = some ⟨r.v, H'.patch r.h r.wr, r.wr, r.rd⟩ := by
  unfold pJoin at h
  split at h
  · simp at h
  · rename_i x q hnv
    split at h
    · rename_i xs is hel
      split at h
      · rename_i l hl
        split at h
        · rename_i hc
          simp only [Option.some.injEq] at h; subst h
          refine ⟨rfl, rfl, fun H' ha => ?_⟩
          rw [patch_nil]
          have hel' := elems_local hel (show ∀ i ∈ is, H'.at_ i = H.at_ i from ha.2)
          cases x with
          | val y => exact (hnv y rfl).elim
          | _ => simp only [pJoin, hel', hl, if_pos hc]
        · simp at h
      · simp at h
    · simp at h
  · simp at h
theorem still_compare : Still pCompare := by
  intro args
  unfold pCompare
  split
  · exact .inr ⟨_, fun _ => rfl⟩
  · exact .inl fun _ => rfl
def Quiet (p : List PV → Heap → Option ORes) : Prop := ∀ args H r, p args H = some r → r.h = H ∧ r.wr = [] ∧ ∀ H', Agree H' H r.rd → p args H' = some ⟨r.v, H'.patch r.h r.wr, r.wr, r.rd⟩
theorem Still.quiet {p : List PV → Heap → Option ORes} (hs : Still p) : Quiet p := fun args H r h => let ⟨a, b, c⟩ := hs.out h; ⟨a, b, fun H' _ => c H'⟩
structure Lays1 (p : List PV → Heap → Option ORes) : Prop where
  fr : ∀ args H r, p args H = some r → Fr H r.h r.wr
  n : ∀ args H r, p args H = some r → r.h.n ≠ H.n
  dd : ∀ args H r, p args H = some r → Dd H r.h
theorem clone_out {k : Nat} {args : List PV} {H : Heap} {r : ORes} (h : pClone k args H = some r) : r.h.n = H.n + 1 ∧ ∀ i, i < H.n → r.h.at_ i = H.at_ i := by
  unfold pClone at h
  split at h
  · split at h
    · cases h
    · split at h
      · split at h
        · simp only [Option.some.injEq] at h; subst h
          exact ⟨rfl, fun i hi => if_pos hi⟩
        · split at h
          · simp only [Option.some.injEq] at h; subst h
            refine ⟨rfl, fun i hi => ?_⟩
            show (if i = H.n then _ else (if i < H.n then _ else _)) = _
            rw [if_neg (by omega), if_pos hi]
          · cases h
      · cases h
  · cases h
theorem clone_lays {k : Nat} : Lays1 (pClone k) where
  fr := fun args H r h => let ⟨a, b⟩ := clone_out h; ⟨by omega, fun i hi _ => b i hi⟩
  n := fun args H r h => let ⟨a, b⟩ := clone_out h; by omega
  dd := fun args H r h => let ⟨a, b⟩ := clone_out h; fun i hi hd => by rw [b i hi]; exact hd
theorem prim_kind {f : FuncId} {p : List PV → Heap → Option ORes} (hp : prim f = some p) : Quiet p ∨ Lays1 p := by
  unfold prim at hp
  split at hp
  all_goals first
    | (cases hp; exact .inl still_split.quiet)
    | (cases hp; exact .inl fun _ _ _ => join_out)
    | (cases hp; exact .inl still_atoi.quiet)
    | (cases hp; exact .inl still_itoa.quiet)
    | (cases hp; exact .inl still_trunc.quiet)
    | (cases hp; exact .inl still_compare.quiet)
    | (cases hp; exact .inr clone_lays)
    | cases hp
theorem prim_fr : PrimFr (env P0) where
  fr := fun f p hp args H r h => by
    rcases prim_kind hp with q | q
    · obtain ⟨h1, h2, _⟩ := q _ _ _ h
      rw [h1, h2]; exact Fr.refl _ _
    · exact q.fr _ _ _ h
  loc := fun f p hp args H r h hn => by
    rcases prim_kind hp with q | q
    · obtain ⟨h1, h2, h3⟩ := q _ _ _ h
      exact ⟨fun i _ => by rw [h1], h3⟩
    · exact (q.n _ _ _ h hn).elim
theorem prim_dd : PrimDd (env P0) where
  dd := fun f p hp args H r h => by
    rcases prim_kind hp with q | q
    · obtain ⟨h1, _, _⟩ := q _ _ _ h
      rw [h1]; exact fun _ _ h => h
    · exact q.dd _ _ _ h
end Go.Evl.Zone

namespace Go.Evl.Zone
open Go Go.Evl Go.Proofs Go.RowKit Go.ChangeShapes Go.WideShapes Go.ChangeAt
set_option maxRecDepth 100000
theorem ent37 : Proofs.Enters P0 154 := enters_of Tryz.func154 (by kernel_rfl) rfl
theorem ent42 : Proofs.Enters P0 94 := enters_of Tryz.func94 (by kernel_rfl) rfl
theorem ent50 : Proofs.Enters P0 184 := enters_of Tryz.func184 (by kernel_rfl) rfl
theorem ent55 : Proofs.Enters P0 186 := enters_of Tryz.func186 (by kernel_rfl) rfl
theorem u48 : P0.underlying 45 = some (.slice 5) := by kernel_rfl
theorem okClone : (E0 P0 .keep 92 (cloneC 45 1)).code 92 = some (cloneC 45 1) := by kernel_rfl
theorem ent54 : Proofs.Enters P0 150 := enters_of Tryz.func150 (by kernel_rfl) rfl
theorem gTab : P0.globalNamed "internal/strconv.uint64pow10" = some 2 := by kernel_rfl
theorem find56n : (Extern.findNext Tryz.f200).isNone = true := by kernel_rfl
theorem find56 : Extern.find Tryz.f200 = some (Extern.MathFloor.toIntegral "math.archTrunc" .zero) := by kernel_rfl
theorem name56 : (Tryz.f200.name == "runtime.NumGoroutine") = false := by kernel_rfl
theorem body56 : Tryz.f200.body.isNone = true := by kernel_rfl
theorem run56 (w : World) (args : Array Value) : (callFunc 200 args).run P0 w = (do return Next.value (← Extern.MathFloor.toIntegral "math.archTrunc" .zero args) : Sem Next).run P0 w := by
  have h1 : Extern.findNext Tryz.f200 = none := by simpa using find56n
  have h0 : Tryz.prog.funcs[200]? = some Tryz.f200 := Tryz.func200
  unfold callFunc
  simp only [Sem.run_bind]
  rw [show (program : Sem Program).run P0 w = .ok P0 w from rfl]
  simp only [Result.andThen_ok, h0, name56, body56, h1, find56]
  simp [mark]
  rfl
theorem truncOK {W : World} : PSound P0 (InvW W) 200 pTrunc := trunc_ok (P := P0) (f := 200) fun x w args => run56 w args
theorem compareOK {W : World} : PSound P0 (InvW W) 186 pCompare := compare_ok (P := P0) (f := 186) ent55 fun a b w => Tryz.strings_Compare a b w
theorem cloneOK {W : World} : PSound P0 (InvW W) 92 (pClone 1) := clone_ok (P := P0) (t := 45) (k := 1) (el := 5) (f := 92) (invW_ok W) u48 okClone
theorem prim_ok {W : World} (hw : Wd W) : PrimOK (env P0) (InvW W) where
  ok := by
    intro f p hp
    change prim f = some p at hp
    unfold prim at hp
    split at hp
    · cases hp
      refine split_ok (t := 9) ent37 fun g hg s sep h1 h2 => ?_
      obtain ⟨m, hm⟩ := hw.m
      exact Tryz.strings_Split s sep m g.w h1 ((hg.cell (lt_of_cell hm)).trans hm) h2
    · cases hp
      exact join_ok ent42 (fun g a c sep => Tryz.strings_Join_none a c sep g.w) fun g bk o c xs sep h1 h2 h3 h4 h5 => Tryz.strings_Join bk o c xs sep g.w h1 h2 h3 h4 h5
    · cases hp
      refine atoi_ok (t := 5) (ti := 276) ent50 (fun g s h v hv => Tryz.strconv_Atoi_ok s h v hv g.w) (fun g hg s h hv1 hv2 => ?_) fun g hg s h hx => ?_
      · obtain ⟨u, v, he⟩ := hw.e
        cases hx : Lib.atoiAll s.data.toList with
        | ok v => exact (hv1 v hx).elim
        | range => exact (hv2 hx).elim
        | _ =>
        refine (Any.strconv_Atoi_syntax Tryz.laysC172 s h hx (.iface u v) g.w ((hg.cell (lt_of_cell he)).trans he) (.inr ⟨u, v, rfl⟩)).mono ?_
        rintro e w' ⟨N, h1, _, _, h2⟩
        exact ⟨⟨N, h1⟩, h2⟩
      · obtain ⟨u, v, he⟩ := hw.r
        refine (Any.strconv_Atoi_range Tryz.laysC172 s h hx (.iface u v) g.w ((hg.cell (lt_of_cell he)).trans he) (.inr ⟨u, v, rfl⟩)).mono ?_
        rintro e w' ⟨N, h1, _, _, h2⟩
        exact ⟨⟨N, h1⟩, h2⟩
    · cases hp
      refine itoa_ok ent54 fun g hg n h1 h2 => ?_
      exact Tryz.strconv_Itoa n h1 h2 g.w (by unfold Lib.TabIs; rw [hg.var gTab hw.s]; exact hw.t)
    · cases hp
      exact truncOK
    · cases hp
      exact compareOK
    · cases hp
      exact cloneOK
    · cases hp
theorem zone_calls {W : World} (hw : Wd W) {f : FuncId} {vs : List Value} {aa : List PV} {v : Value} (ha : Cs (g0 W) vs aa) (h : ans (env P0) f aa = some (.val v)) :
    Calls P0 f vs.toArray W fun e W' => e = .returned v ∧ Below W.heap.size W W' :=
  door_calls (E := env P0) (invW_ok W) tab_ok prim_fr prim_dd (prim_ok hw) (invW_g0 W) ha h
end Go.Evl.Zone

namespace Go.Evl.Zone
open Go Go.Evl Go.Proofs Go.RowKit Go.ChangeShapes Go.WideShapes Go.ChangeAt Go.Proofs.YtmhcmcpijmogfaaGreatDoor
set_option maxRecDepth 100000
theorem own : ownKnob P0.godebug = none := by kernel_rfl
theorem laidOut : laidOutB P0 = true := by kernel_rfl
theorem gErr : P0.globalNamed "strconv.ErrSyntax" = some 3 := by kernel_rfl
theorem gErrR : P0.globalNamed "strconv.ErrRange" = some 4 := by kernel_rfl
theorem gErrRT : (P0.globals[4]?).map (·.type) = some 222 := by kernel_rfl
theorem gErrT : (P0.globals[3]?).map (·.type) = some 222 := by kernel_rfl
theorem gTabT : (P0.globals[2]?).map (·.type) = some 283 := by kernel_rfl
theorem cells138 : P0.cellsOf 283 = 20 := by kernel_rfl
theorem cells53 : P0.cellsOf 61 = 1 := by kernel_rfl
theorem u138 : P0.underlying 283 = some (.array 20 61) := by kernel_rfl
theorem iface_var {P : Program} {W : World} {n nm : String} {d : DataW Unit} {g : Nat} {ti : TypeId} {ms : Array (String × TypeId)} (h : Lib.VarReads P W n (.iface nm d)) (hg : P.globalNamed n = some g) (ht : (P.globals[g]?).map (·.type) = some ti) (hi : P.underlying ti = some (.interface ms)) :
    ∃ u v, W.var? P n = some #[.iface u v] := by
  obtain ⟨g', t', cs, fuel, p, h1, h2, h3, h4⟩ := h
  obtain rfl := Option.some.inj (hg.symm.trans h1)
  obtain rfl := Option.some.inj (ht.symm.trans h2)
  cases fuel with
  | zero => simp [DataW.trod] at h4
  | succ m =>
    unfold DataW.trod at h4
    rw [hi] at h4
    obtain ⟨l⟩ := cs
    simp only at h4
    split at h4 <;> simp_all
abbrev laidL : List (String × DataW Unit) := Rows.frameTakesRow.laid
theorem wd_of {W : World} (hL : laidMetH P0 laidL W) (hS : W.ShapedOpen P0) : Wd W := by
  have hL' : laidMet P0 laidL W := hL
  have ht : Lib.TabIs P0 W "internal/strconv.uint64pow10" .u64 Lib.pow10Tab := Lib.tabIs_of_head (g := 2) gTab gTabT u138 Tryz.underlying61 cells53 cells138 (show laidMet P0 (("internal/strconv.uint64pow10", Lib.tabData .u64 Lib.pow10Tab) :: laidL.drop 3) W from laidMet.tail (laidMet.tail hL'))
  have hsz : 2 < W.heap.size := by
    have h0 := ht
    unfold Lib.TabIs World.var? at h0
    rw [gTab] at h0
    simp only [Option.bind_some] at h0
    split at h0
    · rename_i hh; exact lt_of_heap hh
    · cases h0
  refine ⟨Tryz.laysM146.s1_3 W hS, ?_, ?_, ht, hsz⟩
  · obtain ⟨u, v, he⟩ := iface_var (Lib.laidMet.reads hL' (n := "strconv.ErrSyntax") (.tail _ (.tail _ (.tail _ (.tail _ (.tail _ (.head _))))))) gErr gErrT Tryz.underlying222
    exact ⟨u, v, by simpa using World.var?_cell gErr he 0⟩
  · obtain ⟨u, v, he⟩ := iface_var (Lib.laidMet.reads hL' (n := "strconv.ErrRange") (.tail _ (.tail _ (.tail _ (.tail _ (.head _)))))) gErrR gErrRT Tryz.underlying222
    exact ⟨u, v, by simpa using World.var?_cell gErrR he 0⟩
noncomputable def put (h : Array Obj) (g : Nat) (cs : Array Value) : Array Obj := h.modify g fun
  | .cells _ t frozen => .cells cs t frozen
  | o => o
noncomputable def laidWorld (os : Os) : World :=
  let N := (World.settled P0 os).heap.size
  let w0 := World.holding P0 os ⟨#[.cells #[.string ⟨#[105, 110, 118, 97, 108, 105, 100, 32, 115, 121, 110, 116, 97, 120]⟩] 303, .cells #[.string ⟨#[118, 97, 108, 117, 101, 32, 111, 117, 116, 32, 111, 102, 32, 114, 97, 110, 103, 101]⟩] 303], #[], []⟩
  let nums (k : IntKind) (l : List Nat) : Array Value := (l.map fun (z : Nat) => Value.int k (z : Int)).toArray
  let h1 := put w0.heap 3 #[.iface 301 (.pointer (some ⟨N, 0, none⟩))]
  let h2 := put h1 4 #[.iface 301 (.pointer (some ⟨N + 1, 0, none⟩))]
  let h3 := put h2 5 (nums .u8 Pinned.utf8FirstZ)
  let h4 := put h3 6 (nums .u8 [128, 191, 160, 191, 128, 159, 144, 191, 128, 143, 0, 0, 0, 0, 0, 0, 0, 0, 0, 0, 0, 0, 0, 0, 0, 0, 0, 0, 0, 0, 0, 0])
  let h5 := put h4 2 (Lib.pow10Tab.map fun z => Value.int .u64 z).toArray
  let h6 := put h5 7 (nums .u8 [0, 1, 28, 2, 29, 14, 24, 3, 30, 22, 20, 15, 25, 17, 4, 8, 31, 27, 13, 23, 21, 19, 16, 7, 26, 12, 18, 6, 11, 5, 10, 9])
  let h7 := put h6 8 (nums .u8 [0, 1, 56, 2, 57, 49, 28, 3, 61, 58, 42, 50, 38, 29, 17, 4, 62, 47, 59, 36, 45, 43, 51, 22, 53, 39, 33, 30, 24, 18, 12, 5, 63, 55, 48, 27, 60, 41, 37, 16, 46, 35, 44, 21, 52, 32, 23, 11, 54, 26, 40, 15, 34, 20, 31, 10, 25, 14, 19, 9, 13, 8, 7, 6])
  { w0 with heap := h7 }
theorem laid_met (os : Os) (args : Array Value) : laidMet P0 laidL ((laidWorld os).forCall (fun _ _ => 0) ⟨#[], args, []⟩).memory :=
  laidMet_of_run' 8 (by kernel_rfl) (by kernel_rfl)
end Go.Evl.Zone

namespace Go.Evl.Zone
open Go Go.Evl Go.Proofs Go.RowKit Go.ChangeShapes Go.WideShapes Go.ChangeAt Go.Proofs.YtmhcmcpijmogfaaGreatDoor
set_option maxRecDepth 100000
def LawOK (k : FuncId) (ts : List TypeId) : Prop := ∀ aa, FitAll P0 12 ts aa → ans (env P0) k aa = some (.val (.bool true))
theorem lift {H : Type} {enc : TypeId × Value → H} {os : Os} (started : os.Started) {k : FuncId} {fn : Func} {s : ChangeSpec} {F : Stop.Interp} (hfn : P0.funcs[k]? = some fn) (noInit : P0.inits.idxOf? k = none) (hvars : s.vars = [])
    (hspec : ∀ ds : List (DataW H), ds.length = fn.params.toList.length → s.fn H ds = { results := [.lit (.bool true)], args := ds }) (hres : fn.resultTypes = #[4])
    (hrd : (fn.params.toList.all fun t => rdB P0 12 t && P0.readableRec t && decide (t < P0.types.size)) = true) (hlaw : LawOK k fn.params.toList) (wargs : Array Value)
    (hok : Input.okWideB P0 ((laidWorld os).forCall (fun _ _ => 0) ⟨#[], wargs, []⟩) k ⟨#[], wargs, []⟩ = true)
    (hvr : ((laidWorld os).forCall (fun _ _ => 0) ⟨#[], wargs, []⟩).variablesRefB P0 = true)
    (hhp : ((((laidWorld os).forCall (fun _ _ => 0) ⟨#[], wargs, []⟩).heap.toList.drop P0.globals.size).take ((begin P0 (fun _ _ => 0) default).world.heap.size - P0.globals.size) = (begin P0 (fun _ _ => 0) default).world.heap.toList.drop P0.globals.size))
    (hrow : (OpenSpec.ofChange s).preRow enc P0 fn [] false laidL ((laidWorld os).forCall (fun _ _ => 0) ⟨#[], wargs, []⟩).memory wargs) :
    ReturnsInHanded {} Tryz.checked os k .any ((OpenSpec.ofChange s).preRow enc P0 fn [] false laidL) (((OpenSpec.ofChange s).at F).post enc P0 fn false true false false) := by
  refine returnsInHanded_of_row (C := Tryz.checked) (s := OpenSpec.ofChange s) own started noInit hfn (witness_row_atRef (enc := enc) (C := Tryz.checked) false (laidWorld os) wargs rfl hvr hhp hok hrow) ?_
  intro W base args ds gs before hval hW _ _ _ hL hS _
  have hrd' : ∀ t ∈ fn.params.toList, rdB P0 12 t = true ∧ P0.readableRec t = true ∧ t < P0.types.size := fun t ht => by
    have := List.all_eq_true.1 hrd t ht
    simp only [Bool.and_eq_true, decide_eq_true_eq] at this
    exact ⟨this.1.1, this.1.2, this.2⟩
  have hW0 : DataW.Whole enc P0 fn.params.toList s.vars false W args.toList ds gs before := hW
  have hW1 := hW0
  obtain ⟨p, q, hA, hV, _, _, _⟩ := hW1
  rw [hvars] at hV
  obtain ⟨rfl, _⟩ := trodVars_none hV
  obtain ⟨aa, hc, hfit⟩ := args_read (fun t ht => (hrd' t ht).1) (fun j t v a b => hval j t v (by simpa using a) (by simpa using b)) hA
  have hlen : ∀ {ts : List TypeId} {vs : List Value} {ds : List (DataW H)} {ps : List MemPlace}, DataW.TrodAll enc P0 W 0 (fun _ => true) true ts vs ds ps → ds.length = ts.length := by
    intro ts
    induction ts with
    | nil => intro vs ds ps h; match vs, ds, h with | [], [], _ => rfl
    | cons t ts ih => intro vs ds ps h; match vs, ds, h with | _ :: _, _ :: _, ⟨_, _, _, h2, _⟩ => simp [ih h2]
  have hcall := zone_calls (wd_of hL hS) (f := k) (vs := args.toList) hc (hlaw aa hfit)
  rw [Array.toArray_toList] at hcall
  refine hcall.mono ?_
  rintro e W' ⟨rfl, hb⟩
  refine ⟨_, rfl, ?_⟩
  exact law_post (s := s) (tb := 4) laidOut hW0 hvars (by rw [List.append_nil]; exact hspec ds (hlen hA)) hres Tryz.underlying4 (fun t ht => ⟨(hrd' t ht).2.1, (hrd' t ht).2.2⟩) hb
end Go.Evl.Zone

namespace Go.Evl.Zone
open Go Go.Evl Go.Evl.Zone Go.Proofs Go.RowKit Go.ChangeShapes Go.WideShapes Go.ChangeAt
set_option maxRecDepth 100000
theorem typed3 : Typed3 P0 where
  t3 := Tryz.underlying3
  t5 := Tryz.underlying5
  t53 := Tryz.underlying61
  t41 := Tryz.underlying165
  t33 := Tryz.underlying91
  t59 := ⟨_, Tryz.underlying155, by kernel_rfl, by kernel_rfl⟩
  h59 := by kernel_rfl
  g59 := by kernel_rfl
  t51 := ⟨_, Tryz.underlying167, by kernel_rfl, by kernel_rfl⟩
  h51 := by kernel_rfl
  g51 := by kernel_rfl
theorem tI : TI P0 where
  toTyped3 := typed3
  t4 := Tryz.underlying4
  t9 := Tryz.underlying9
  place := ⟨⟨_, Tryz.underlying71, by kernel_rfl, by kernel_rfl⟩, by kernel_rfl, by kernel_rfl⟩
  tid := Tryz.underlying31
  at_ := ⟨⟨_, Tryz.underlying161, by kernel_rfl, by kernel_rfl⟩, by kernel_rfl, by kernel_rfl⟩
  rat := ⟨⟨_, Tryz.underlying147, by kernel_rfl, by kernel_rfl⟩, by kernel_rfl, by kernel_rfl⟩
  ver := ⟨⟨_, Tryz.underlying90, by kernel_rfl, by kernel_rfl⟩, by kernel_rfl, by kernel_rfl⟩
  verS := by kernel_rfl
  item := ⟨⟨_, Tryz.underlying93, by kernel_rfl, by kernel_rfl⟩, by kernel_rfl, by kernel_rfl⟩
  rver := ⟨⟨_, Tryz.underlying69, by kernel_rfl, by kernel_rfl⟩, by kernel_rfl, by kernel_rfl⟩
  rverS := by kernel_rfl
  placeS := by kernel_rfl
  ritem := ⟨⟨_, Tryz.underlying73, by kernel_rfl, by kernel_rfl⟩, by kernel_rfl, by kernel_rfl⟩
theorem tT : TT P0 where
  toTI := tI
  tr := ⟨_, Tryz.underlying96⟩
theorem map_of_all {α β : Type} {f : α → β} {Q : α → Prop} : ∀ {xs : List β}, (∀ x ∈ xs, ∃ a, x = f a ∧ Q a) → ∃ l : List α, xs = l.map f ∧ ∀ a ∈ l, Q a
  | [], _ => ⟨[], rfl, by simp⟩
  | x :: xs, h => by
    obtain ⟨a, rfl, ha⟩ := h x (by simp)
    obtain ⟨l, rfl, hl⟩ := map_of_all (xs := xs) fun y hy => h y (by simp [hy])
    exact ⟨a :: l, rfl, fun b hb => by rcases List.mem_cons.1 hb with rfl | hb; exact ha; exact hl b hb⟩
theorem fit_byte {n : Nat} {ps : List PV} (h : Fit P0 (n + 1) 5 ps) : ∃ c : UInt8, ps = Enc.c c ∧ True := by
  unfold Fit at h
  rw [Tryz.underlying5] at h
  obtain ⟨m, rfl, h2, h3⟩ := h
  have h2 : 0 ≤ m := h2
  have h3 : m ≤ 255 := h3
  refine ⟨UInt8.ofNat m.toNat, ?_, trivial⟩
  have : ((UInt8.ofNat m.toNat).toNat : Int) = m := by
    rw [UInt8.toNat_ofNat_of_lt' (by have : UInt8.size = 256 := rfl; omega)]
    omega
  show _ = [PV.val (.int .u8 ((UInt8.ofNat m.toNat).toNat : Int))]
  rw [this]
theorem fit_bytes {n : Nat} {p : PV} (h : FitV P0 (n + 2) 45 p) : ∃ b : Bytes, p = lv b := by
  unfold FitV at h
  rw [Tryz.underlying45] at h
  have h : Fit P0 (n + 2) 45 [p] := h
  unfold Fit at h
  rw [Tryz.underlying45] at h
  obtain ⟨xs, e, _, h3⟩ := h
  obtain ⟨l, rfl, _⟩ := map_of_all (f := Enc.c) (Q := fun _ => True) fun x hx => fit_byte (h3 x hx)
  refine ⟨l, ?_⟩
  simpa [lv, En] using e
end Go.Evl.Zone
