/- The evaluator's texts ZFn to ZFr, joined. -/
import Derived.Test.YtabelkgkonmihaaDoorEv4
set_option linter.all false
set_option linter.deprecated false
set_option linter.unusedVariables false
set_option linter.unusedSimpArgs false
set_option linter.unnecessarySimpa false
/- The zone statements: may a step be, whatever its floats? -/
namespace Go.Evl.Zone
open Go Go.Evl Go.Evl.Fl
set_option linter.unusedSimpArgs false
set_option linter.unusedVariables false
variable {P : Program}

def e0 (b : Nat) : Bool := FloatKind.f64.format.order b 0 == some .eq

def rightA (op : Int) (re im sz : Nat) : Bool :=
  if op = 2 then whA (-1000) 1000 re && whA (-1000) 1000 im && whA 0 2000 sz
  else if op = 3 then whA (-1000) 1000 re && whA (-1000) 1000 im && whA (-2000000) 2000000 sz
  else if op = 1 ∨ op = 4 ∨ op = 5 ∨ op = 6 then e0 re && e0 im && e0 sz
  else false

theorem right_anyA {op : Int} {re im sz : Nat} : ans (env P) 31 [stepV op re im sz] = some (.val (.bool (rightA op re im sz))) := by
  refine ans_V rfl rfl ?_
  have hw := wholeA (P := P) (a := re) (b := im)
  have h0 : ∀ {t : TypeId} {cx cy : Bool}, evBin P .eql t cx cy (.val (.complex .f64 re im)) (.val (.complex .f64 0 0)) = some (.val (.bool (e0 re && e0 im))) := evBin_ceql
  have hs0 : ∀ {t : TypeId} {cx cy : Bool}, evBin P .eql t cx cy (.val (.float .f64 sz)) (.val (.float .f64 0)) = some (.val (.bool (e0 sz))) := evBin_feql
  have w2 := wholeToA (P := P) (b := sz) is0 is2000 (by decide) (by decide)
  have w3 := wholeToA (P := P) (b := sz) isM2M is2M (by decide) (by decide)
  by_cases h2 : op = 2
  · subst h2
    cases hn : (whA (-1000) 1000 re && whA (-1000) 1000 im) <;> rw [hn] at hw <;> simp [c31, stepV, hw, hn, w2, rightA]
  · by_cases h3 : op = 3
    · subst h3
      cases hn : (whA (-1000) 1000 re && whA (-1000) 1000 im) <;> rw [hn] at hw <;> simp [c31, stepV, hw, hn, w3, rightA]
    · by_cases h1 : op = 1
      · subst h1
        cases hn : (e0 re && e0 im) <;> simp [c31, stepV, h0, hs0, hn, rightA]
      · by_cases h4 : op = 4
        · subst h4
          cases hn : (e0 re && e0 im) <;> simp [c31, stepV, h0, hs0, hn, rightA]
        · by_cases h5 : op = 5
          · subst h5
            cases hn : (e0 re && e0 im) <;> simp [c31, stepV, h0, hs0, hn, rightA]
          · by_cases h6 : op = 6
            · subst h6
              cases hn : (e0 re && e0 im) <;> simp [c31, stepV, h0, hs0, hn, rightA]
            · simp [c31, stepV, h1, h2, h3, h4, h5, h6, rightA]

end Go.Evl.Zone

/- The zone statements: zones of any floats, and their text. -/
namespace Go.Evl.Zone
open Go Go.Evl Go.Evl.Fl
set_option linter.unusedSimpArgs false
set_option linter.unusedVariables false
variable {P : Program}

def SI.rightA (q : SI) : Bool := Zone.rightA q.op q.re q.im q.sz

def foldA : List SI → Int → Option Int
  | [], n => some n
  | q :: l, n => if q.rightA = false ∨ n < needsN q.op then none else foldA l (n + (1 - needsN q.op))

theorem loop14A {L : List SI} {ks : List Fr'} {K : Ex → St → Prop} (hL : L.length ≤ 32) : ∀ (rest : List SI) (i : Nat) (n : Int) (st : St), L.drop i = rest → 0 ≤ n ∧ n ≤ i → st.σ 9 = .im (stepsV L) false → st.σ 10 = .val (.int .i64 L.length) → st.σ 11 = .val (.int .i64 i) → st.σ 3 = .val (.int .i64 n) →
    (∀ st', foldA rest n = none → st'.σ 2 = .val (.bool false) → K .ret st') → (∀ st' m, foldA rest n = some m → st'.σ 3 = .val (.int .i64 m) → VN (env P) 14 st' ks K) → V (env P) 14 (.loop L14_0) st (.blk 0 :: ks) K
  | [], i, n, st, hr, hn, h9, h10, h11, h3, hret, hend => by
    have hi : L.length ≤ i := by
      have := congrArg List.length hr; simp at this; omega
    have hlt : ¬ i < L.length := by omega
    rw [V_loop]
    simp [L14_0, h10, h11, hlt]
    refine hend _ n rfl ?_
    simp [h3]
  | q :: rest, i, n, st, hr, hn, h9, h10, h11, h3, hret, hend => by
    have hq : L[i]? = some q := by
      have : (L.drop i)[0]? = some q := by rw [hr]; rfl
      simpa using this
    have hlt : i < L.length := (List.getElem?_eq_some_iff.1 hq).1
    have hr' : L.drop (i + 1) = rest := by rw [← List.drop_drop, hr]; rfl
    have hc : ∀ h, (stepsV L)[i]'h = q.cells := fun h => (List.getElem?_eq_some_iff.1 (stepsV_get hq)).2
    have hri := right_anyA (P := P) (op := q.op) (re := q.re) (im := q.im) (sz := q.sz)
    have hne := needs_ans (P := P) (op := q.op) (re := q.re) (im := q.im) (sz := q.sz)
    rw [stepV] at hri hne
    have hb := needsN_le q.op
    have hw : IntKind.i64.wrap (1 - needsN q.op) = 1 - needsN q.op := wrap64_id (by omega)
    have hw2 : IntKind.i64.wrap (n + (1 - needsN q.op)) = n + (1 - needsN q.op) := wrap64_id (by omega)
    have hw3 : IntKind.i64.wrap ((i : Int) + 1) = ((i + 1 : Nat) : Int) := by rw [wrap64_id (by omega)]; rfl
    rw [V_loop]
    cases hqr : q.rightA with
    | false =>
      have hqr' : rightA q.op q.re q.im q.sz = false := hqr
      simp [L14_0, h9, h10, h11, h3, hlt, hc, SI.cells, hri, hqr']
      refine hret _ (by simp [foldA, hqr]) ?_
      simp
    | true =>
      have hqr' : rightA q.op q.re q.im q.sz = true := hqr
      by_cases hnn : n < needsN q.op
      · simp [L14_0, h9, h10, h11, h3, hlt, hc, SI.cells, hri, hqr', hne, hnn]
        refine hret _ (by simp [foldA, hnn]) ?_
        simp
      · simp [L14_0, h9, h10, h11, h3, hlt, hc, SI.cells, hri, hqr', hne, hnn, hw, hw2, hw3]
        refine loop14A hL rest (i + 1) (n + (1 - needsN q.op)) _ hr' (by omega) ?_ ?_ ?_ ?_ ?_ ?_
        · simp [h9]
        · simp [h10]
        · simp
        · simp
        · intro st' hf hs; exact hret st' (by simp [foldA, hqr, hnn, hf]) hs
        · intro st' m hf hs; exact hend st' m (by simp [foldA, hqr, hnn, hf]) hs

def zoneRightA (l : List SI) : Bool := decide (l.length ≤ 32) && decide (foldA l 0 = some 1)

theorem zoneRight_anyA {l : List SI} : ans (env P) 14 [.im (stepsV l) false] = some (.val (.bool (zoneRightA l))) := by
  refine ans_V rfl rfl ?_
  by_cases h : l.length ≤ 32
  · have h' : ¬ ((32 : Int) < (l.length : Int)) := by omega
    simp [c14, h']
    refine loop14A h l 0 0 _ rfl (by omega) ?_ ?_ ?_ ?_ ?_ ?_
    · simp
    · simp
    · simp
    · simp
    · intro st' hf hs; simp [hs, zoneRightA, hf]
    · intro st' m hf hs
      simp [hs, zoneRightA, hf, h]
  · have h' : (32 : Int) < (l.length : Int) := by omega
    simp [c14, h', zoneRightA, h]

/-- The floats of a disc or a half are its ints when converted. -/
def SI.okT (q : SI) : Prop := q.op = 2 ∨ q.op = 3 → (FloatKind.f64.decode q.re).toInt .zero = some q.x ∧ (FloatKind.f64.decode q.im).toInt .zero = some q.y ∧ (FloatKind.f64.decode q.sz).toInt .zero = some q.s

theorem number_int (T : Typed P) {b : Nat} {n : Int} (h : (FloatKind.f64.decode b).toInt .zero = some n) (hn : n.natAbs < 1000000000) : ans (env P) 43 [.val (.float .f64 b)] = some (sv (Lib.itoa n)) := by
  refine ans_V rfl rfl ?_
  have c1 : scal P (Go.convert 41 3 (.float .f64 b)) = some (.val (.int .i64 n)) := cv_fi (by rw [T.t41]; rfl) T.t3 h (by show -9223372036854775808 ≤ n ∧ n ≤ 9223372036854775807; omega)
  have c2 : ∀ H, pItoa [.val (.int .i64 n)] H = some ⟨sv (Lib.itoa n), H, [], some []⟩ := by
    intro H
    rw [← itoaL_lib (by omega) (by omega)]
    simp only [pItoa]
    rw [if_pos (by omega)]; rfl
  simp [c43, c1, VA_prim (E := env P) (g := 54) (p := pItoa) rfl, c2]

set_option maxHeartbeats 4000000 in
theorem loop25A (T : Typed P) {L : List SI} (hok : ∀ q ∈ L, q.okT) (hri : ∀ q ∈ L, q.right = true) {ks : List Fr'} {K : Ex → St → Prop} (hL : L.length ≤ 32) : ∀ (rest : List SI) (i : Nat) (st : St) (v : PV), L.drop i = rest → i ≤ L.length → st.σ 10 = .im (stepsV L) false → st.σ 11 = .val (.int .i64 L.length) → st.σ 12 = .val (.int .i64 i) → st.σ 3 = v → Lst st.h 1 v (svs ((L.take i).map fun q => textR q.rs)) →
    (∀ st' v, st'.σ 3 = v → Lst st'.h 1 v (svs (L.map fun q => textR q.rs)) → VN (env P) 25 st' ks K) → V (env P) 25 (.loop L25_0) st (.blk 0 :: ks) K
  | [], i, st, v, hr, hi, h10, h11, h12, h3, hl, hend => by
    obtain ⟨_, hlt, ht⟩ := drop_nil hr hi
    rw [ht] at hl
    rw [V_loop]
    simp [L25_0, h10, h11, h12, hlt]
    exact hend _ v (by simp [h3]) (by simpa using hl.grow)
  | q :: rest, i, st, v, hr, hi, h10, h11, h12, h3, hl, hend => by
    obtain ⟨hq, hlt, hr', ht⟩ := drop_cons hr
    have hc : ∀ h, (stepsV L)[i]'h = q.cells := fun h => (List.getElem?_eq_some_iff.1 (stepsV_get hq)).2
    have hm := List.mem_of_getElem? hq
    have hqt := hok q hm
    have hb := right_okB (hri q hm)
    obtain ⟨b1, b2, bx, bY, bs⟩ := hb
    simp only [SI.rs] at b1 b2 bx bY bs
    have hw3 := wrapS (i := i) (by omega)
    have hN : ans (env P) 41 [] = some (.im (svs namesL) false) := names_ans
    have hn : ∀ h, (svs namesL)[q.op.toNat]'h = [sv (nameOf q.op)] := fun h => svs_at (names_at ⟨b1, b2⟩) h
    have n123 : q.op = 2 ∨ q.op = 3 → ans (env P) 43 [.val (.float .f64 q.re)] = some (sv (Lib.itoa q.x)) ∧ ans (env P) 43 [.val (.float .f64 q.im)] = some (sv (Lib.itoa q.y)) ∧ ans (env P) 43 [.val (.float .f64 q.sz)] = some (sv (Lib.itoa q.s)) := fun o =>
      ⟨number_int T (hqt o).1 bx, number_int T (hqt o).2.1 bY, number_int T (hqt o).2.2 bs⟩
    have g0 : 0 ≤ q.op := by omega
    have g7 : q.op < 7 := by omega
    have gl : namesL.length = 7 := rfl
    have hj : ∀ H, pJoin [.im [[sv (nameOf q.op)], [sv (Lib.itoa q.x)], [sv (Lib.itoa q.y)], [sv (Lib.itoa q.s)]] true, .val (.string ⟨#[32]⟩)] H = some ⟨sv (joinL [32] [nameOf q.op, Lib.itoa q.x, Lib.itoa q.y, Lib.itoa q.s]), H, [], some []⟩ := by
      intro H
      refine pJoin_ok (by intro x h; cases h) ?_ (by simp) ?_
      · rfl
      · refine Nat.le_trans (joinL_len (m := 10) _ ?_) (by simp)
        intro x hx
        have h1 := itoa_len bx
        have h2 := itoa_len bY
        have h3 := itoa_len bs
        have h4 := name_len q.op
        simp at hx
        rcases hx with rfl | rfl | rfl | rfl <;> omega
    generalize hA : joinL [32] [nameOf q.op, Lib.itoa q.x, Lib.itoa q.y, Lib.itoa q.s] = A at hj
    have hJP := fun {dst : Option Nat} {rest : List CI} {i slot slot' : Nat} {log : Log} {d : Option (Nat × List (Nat × Nat))} {K : Ex → St → Prop} {st : St} {ks : List Fr'} {xs : List O} => VA_prim (E := env P) (f := 25) (g := 42) (p := pJoin) (dst := dst) (rest := rest) (i := i) (slot := slot) (slot' := slot') (log := log) (d := d) (K := K) (st := st) (ks := ks) (xs := xs) rfl
    rw [V_loop]
    have hS : ∀ C D : List SI, svs ((C ++ D).map fun q => textR q.rs) = svs (C.map fun q => textR q.rs) ++ svs (D.map fun q => textR q.rs) := fun C D => by simp [svs]
    by_cases o : q.op = 2 ∨ q.op = 3
    · obtain ⟨n1, n2, n3⟩ := n123 o
      have hx : textR q.rs = A := by rw [← hA]; simp [textR, SI.rs, o]
      have fin : ∀ (w : List UInt8), w = A → svs [w] = [[sv w]] := fun w _ => rfl
      obtain ⟨op, x, y, s, re, im, sz⟩ := q
      simp only at o b1 b2 bx bY bs hn n1 n2 n3 g0 g7 hj
      have hn' : (∀ h, (svs namesL)[2]'h = [sv (nameOf 2)]) ∧ (∀ h, (svs namesL)[3]'h = [sv (nameOf 3)]) := ⟨fun h => svs_at rfl h, fun h => svs_at rfl h⟩
      obtain ⟨hn2, hn3⟩ := hn'
      clear hn
      rcases o with o | o <;> subst o
      · simp [L25_0, h10, h11, h12, h3, hlt, hc, SI.cells, hN, hn2, gl, n1, n2, n3, hJP, hj, chunks, elems, allLen]
        refine VP_app (ys := svs ((L.take i).map fun q => textR q.rs)) (by repeat (first | exact hl | refine Lst.grow ?_ | refine Lst.putN ?_ (by simp))) (by simp) (by simp) rfl (by simp; unfold most; omega) fun v' H' wr rd e2 e3 _ => ?_
        simp [h10, h11, h12, hw3, e3]
        refine loop25A T hok hri hL rest (i + 1) _ v' hr' (by omega) ?_ ?_ ?_ ?_ ?_ hend
        · simp [h10]
        · simp [h11]
        · simp
        · simp
        · rw [ht, hS]
          simp only [List.map_cons, List.map_nil, hx]
          exact e2.grow
      · simp [L25_0, h10, h11, h12, h3, hlt, hc, SI.cells, hN, hn3, gl, n1, n2, n3, hJP, hj, chunks, elems, allLen]
        refine VP_app (ys := svs ((L.take i).map fun q => textR q.rs)) (by repeat (first | exact hl | refine Lst.grow ?_ | refine Lst.putN ?_ (by simp))) (by simp) (by simp) rfl (by simp; unfold most; omega) fun v' H' wr rd e2 e3 _ => ?_
        simp [h10, h11, h12, hw3, e3]
        refine loop25A T hok hri hL rest (i + 1) _ v' hr' (by omega) ?_ ?_ ?_ ?_ ?_ hend
        · simp [h10]
        · simp [h11]
        · simp
        · simp
        · rw [ht, hS]
          simp only [List.map_cons, List.map_nil, hx]
          exact e2.grow
    · have hx : textR q.rs = nameOf q.op := by simp [textR, SI.rs, o]
      obtain ⟨o2, o3⟩ := not_or.1 o
      simp [L25_0, h10, h11, h12, h3, hlt, hc, SI.cells, hN, hn, g0, g7, gl, o2, o3, chunks, elems, allLen]
      refine VP_app (ys := svs ((L.take i).map fun q => textR q.rs)) (by repeat (first | exact hl | refine Lst.grow ?_ | refine Lst.putN ?_ (by simp))) (by simp) (by simp) rfl (by simp; unfold most; omega) fun v' H' wr rd e2 e3 _ => ?_
      simp [h10, h11, h12, hw3, e3]
      refine loop25A T hok hri hL rest (i + 1) _ v' hr' (by omega) ?_ ?_ ?_ ?_ ?_ hend
      · simp [h10]
      · simp [h11]
      · simp
      · simp
      · rw [ht, hS]
        simp only [List.map_cons, List.map_nil, hx]
        exact e2.grow


end Go.Evl.Zone

/- The zone statements: the text of a zone of any floats. -/
namespace Go.Evl.Zone
open Go Go.Evl Go.Evl.Fl
set_option linter.unusedSimpArgs false
set_option linter.unusedVariables false
variable {P : Program}

theorem ints_of {q : SI} (h : q.rightA = true) : ∃ p : SI, p.cells = q.cells ∧ p.op = q.op ∧ p.okT ∧ p.right = true := by
  obtain ⟨op, x, y, s, re, im, sz⟩ := q
  have h : rightA op re im sz = true := h
  unfold rightA at h
  split at h
  · rename_i h2
    simp only [Bool.and_eq_true] at h
    obtain ⟨a, a1, a2, a3⟩ := whA_int (by decide) (by decide) h.1.1
    obtain ⟨b, b1, b2, b3⟩ := whA_int (by decide) (by decide) h.1.2
    obtain ⟨c, c1, c2, c3⟩ := whA_int (by decide) (by decide) h.2
    refine ⟨⟨op, a, b, c, re, im, sz⟩, rfl, rfl, fun _ => ⟨a1, b1, c1⟩, ?_⟩
    show rightB op a b c = true
    unfold rightB near
    rw [if_pos h2]
    simp
    omega
  · split at h
    · rename_i h2 h3
      simp only [Bool.and_eq_true] at h
      obtain ⟨a, a1, a2, a3⟩ := whA_int (by decide) (by decide) h.1.1
      obtain ⟨b, b1, b2, b3⟩ := whA_int (by decide) (by decide) h.1.2
      obtain ⟨c, c1, c2, c3⟩ := whA_int (by decide) (by decide) h.2
      refine ⟨⟨op, a, b, c, re, im, sz⟩, rfl, rfl, fun _ => ⟨a1, b1, c1⟩, ?_⟩
      show rightB op a b c = true
      unfold rightB near
      rw [if_neg h2, if_pos h3]
      simp
      omega
    · split at h
      · rename_i h2 h3 h4
        refine ⟨⟨op, 0, 0, 0, re, im, sz⟩, rfl, rfl, fun o => ?_, ?_⟩
        · have o : op = 2 ∨ op = 3 := o
          omega
        · show rightB op 0 0 0 = true
          unfold rightB
          rw [if_neg h2, if_neg h3, if_pos h4]
          rfl
      · cases h

theorem ints_list : ∀ (L : List SI) (n m : Int), foldA L n = some m → ∃ L' : List SI, L'.length = L.length ∧ stepsV L' = stepsV L ∧ (∀ q ∈ L', q.okT ∧ q.right = true) ∧ foldR L' n = some m
  | [], n, m, h => ⟨[], rfl, rfl, by simp, h⟩
  | q :: L, n, m, h => by
    rw [foldA] at h
    split at h
    · cases h
    · rename_i hno
      simp only [not_or, Bool.not_eq_false] at hno
      obtain ⟨p, p1, p2, p3, p4⟩ := ints_of hno.1
      obtain ⟨L', l1, l2, l3, l4⟩ := ints_list L _ m h
      refine ⟨p :: L', by simp [l1], ?_, ?_, ?_⟩
      · simp only [stepsV, List.map_cons] at l2 ⊢
        rw [p1, l2]
      · intro r hr
        rcases List.mem_cons.1 hr with rfl | hr
        · exact ⟨p3, p4⟩
        · exact l3 r hr
      · rw [foldR, p2, if_neg (by simp [p4, hno.2]), l4]

theorem foldR_rs : ∀ (L : List SI) (n : Int), foldR (toSI (L.map SI.rs)) n = foldR L n
  | [], n => rfl
  | q :: L, n => by
    show (if q.right = false ∨ n < needsN q.op then none else foldR (toSI (L.map SI.rs)) (n + (1 - needsN q.op))) = (if q.right = false ∨ n < needsN q.op then none else foldR L (n + (1 - needsN q.op)))
    rw [foldR_rs L]

/-- The text of any steps: empty, if they are no zone; else a zone's. -/
theorem text_any (T : Typed P) (L : List SI) : ∃ W : List UInt8, ans (env P) 25 [.im (stepsV L) false] = some (sv W) ∧ (W = [] ∨ ∃ l : List RS, zoneRight (toSI l) = true ∧ W = textL l) := by
  have hr := zoneRight_anyA (P := P) (l := L)
  cases hz : zoneRightA L
  · rw [hz] at hr
    refine ⟨[], ans_V rfl rfl ?_, .inl rfl⟩
    simp [c25, hr]
  · rw [hz] at hr
    have hz' := hz
    unfold zoneRightA at hz'
    simp only [Bool.and_eq_true, decide_eq_true_eq] at hz'
    obtain ⟨L', l1, l2, l3, l4⟩ := ints_list L 0 1 hz'.2
    rw [← l2] at hr ⊢
    have hl : L'.length ≤ 32 := by omega
    refine ⟨textL (L'.map SI.rs), ?_, .inr ⟨L'.map SI.rs, ?_, rfl⟩⟩
    · have hJP := fun {dst : Option Nat} {rest : List CI} {i slot slot' : Nat} {log : Log} {d : Option (Nat × List (Nat × Nat))} {K : Ex → St → Prop} {st : St} {ks : List Fr'} {xs : List O} => VA_prim (E := env P) (f := 25) (g := 42) (p := pJoin) (dst := dst) (rest := rest) (i := i) (slot := slot) (slot' := slot') (log := log) (d := d) (K := K) (st := st) (ks := ks) (xs := xs) rfl
      refine ans_V rfl rfl ?_
      simp [c25, hr]
      refine loop25A T (fun q hq => (l3 q hq).1) (fun q hq => (l3 q hq).2) hl L' 0 _ _ rfl (by omega) (by simp) (by simp) (by simp) rfl ?_ ?_
      · simp; exact Lst.nil
      · intro st' v h3 hl'
        obtain ⟨is, he⟩ := (hl'.grow (m := 0)).elems
        have hv : ∀ x, v ≠ .val x := by intro x h; cases hl' with
          | im hv _ => rw [hv] at h; cases h
          | row _ _ hv => rw [hv] at h; cases h
        have hj := pJoin_ok (c := 44) hv he (by simp; omega) (by
          refine Nat.le_trans (joinL_len (m := 44) _ ?_) (by simp; omega)
          intro x hx
          simp at hx
          obtain ⟨q, hq, rfl⟩ := hx
          exact text_len (right_okB (l3 q hq).2))
        have hT : joinL [44] (L'.map fun q => textR q.rs) = textL (L'.map SI.rs) := by rw [textL, List.map_map]; rfl
        rw [hT] at hj
        simp [h3, hJP, hj]
    · unfold zoneRight
      rw [foldR_rs, l4]
      simp [toSI, hl]

end Go.Evl.Zone

/- The zone statements: a step out of any text. -/
namespace Go.Evl.Zone
open Go Go.Evl Go.Evl.Fl
set_option linter.unusedSimpArgs false
set_option linter.unusedVariables false
variable {P : Program}

theorem pAtoi_any {a : List UInt8} (h : a.length ≤ 100000) : ∃ (z : Int) (e : PV), (e = .val .nilIface ∨ e = .ifc) ∧ ∀ H, pAtoi [sv a] H = some ⟨.tup [.val (.int .i64 z), e], H, [], some []⟩ := by
  have hsz : (⟨a.toArray⟩ : ByteArray).size ≤ 281474976710656 := by show a.length ≤ _; omega
  cases hx : Lib.atoiAll a with
  | ok v => exact ⟨v, .val .nilIface, .inl rfl, fun H => by unfold pAtoi; simp only; rw [if_pos hsz, hx]⟩
  | range => exact ⟨Lib.atoiSat a, .ifc, .inr rfl, fun H => by unfold pAtoi; simp only; rw [if_pos hsz, hx]⟩
  | _ => exact ⟨0, .ifc, .inr rfl, fun H => by unfold pAtoi; simp only; rw [if_pos hsz, hx]⟩

set_option maxHeartbeats 8000000 in
theorem parsed_any (T : Typed P) {w : List UInt8} (hlen : w.length ≤ 100000) (hmem : ∀ x ∈ splitL 32 w, x.length ≤ 100000) : ∃ q : SI, ans (env P) 38 [sv w] = some (.agg q.cells) := by
  obtain ⟨W, wt, hws⟩ : ∃ W wt, splitL 32 w = W :: wt := by
    cases h : splitL 32 w with
    | nil => exact absurd h (splitL_ne 32 w)
    | cons a b => exact ⟨a, b, rfl⟩
  have hS := pSplit_ok (c := 32) (l := w) (by omega)
  rw [hws] at hS hmem
  have hN : ans (env P) 41 [] = some (.im (svs namesL) false) := names_ans
  have hI := index_ans (P := P) (L := namesL) (w := W) (by decide)
  generalize idxFrom W namesL 0 = o at hI
  have c1 : ∀ n, scal P (Go.convert 3 41 (.int .i64 n)) = some (.val (.float .f64 (FloatKind.f64.nearest n))) := fun n => cv_if (by rw [T.t3]; rfl) T.t41
  have p37 := fun {dst : Option Nat} {rest : List CI} {i slot slot' : Nat} {log : Log} {d : Option (Nat × List (Nat × Nat))} {K : Ex → St → Prop} {st : St} {ks : List Fr'} {xs : List O} => VA_prim (E := env P) (f := 38) (g := 37) (p := pSplit) (dst := dst) (rest := rest) (i := i) (slot := slot) (slot' := slot') (log := log) (d := d) (K := K) (st := st) (ks := ks) (xs := xs) rfl
  have p50 := fun {dst : Option Nat} {rest : List CI} {i slot slot' : Nat} {log : Log} {d : Option (Nat × List (Nat × Nat))} {K : Ex → St → Prop} {st : St} {ks : List Fr'} {xs : List O} => VA_prim (E := env P) (f := 38) (g := 50) (p := pAtoi) (dst := dst) (rest := rest) (i := i) (slot := slot) (slot' := slot') (log := log) (d := d) (K := K) (st := st) (ks := ks) (xs := xs) rfl
  have nq : evNil true true (.val .nilIface) (.val .nilIface) = some (.val (.bool false)) := rfl
  have nq2 : evNil true true .ifc (.val .nilIface) = some (.val (.bool true)) := rfl
  have w1 : IntKind.i64.wrap (1 : Int) = 1 := wrap64_id (by omega)
  have w2 : IntKind.i64.wrap (2 : Int) = 2 := wrap64_id (by omega)
  have w3 : IntKind.i64.wrap (3 : Int) = 3 := wrap64_id (by omega)
  have hw0 : svs (W :: wt) = [sv W] :: svs wt := rfl
  rw [hw0] at hS
  by_cases hn : ∃ a b c, wt = [a, b, c]
  · obtain ⟨a, b, c, rfl⟩ := hn
    have sv3 : svs [a, b, c] = [[sv a], [sv b], [sv c]] := rfl
    rw [sv3] at hS
    obtain ⟨x, ex, hx, a1⟩ := pAtoi_any (a := a) (hmem a (by simp))
    obtain ⟨y, ey, hy, a2⟩ := pAtoi_any (a := b) (hmem b (by simp))
    obtain ⟨z, ez, hz, a3⟩ := pAtoi_any (a := c) (hmem c (by simp))
    rcases hx with rfl | rfl
    · rcases hy with rfl | rfl
      · rcases hz with rfl | rfl
        · refine ⟨⟨o, 0, 0, 0, FloatKind.f64.nearest x, FloatKind.f64.nearest y, FloatKind.f64.nearest z⟩, ans_V rfl rfl ?_⟩
          simp [c38, p37, hS, hN, hI, allLen]
          rw [V_loop]
          simp [L38_0, p50, a1, c1, nq, allLen, w1, w2, w3]
          rw [V_loop]
          simp [L38_0, p50, a2, c1, nq, allLen, w1, w2, w3]
          rw [V_loop]
          simp [L38_0, p50, a3, c1, nq, allLen, w1, w2, w3]
          rw [V_loop]
          simp [L38_0, SI.cells]
        · refine ⟨⟨0, 0, 0, 0, 0, 0, 0⟩, ans_V rfl rfl ?_⟩
          simp [c38, p37, hS, hN, hI, allLen]
          rw [V_loop]
          simp [L38_0, p50, a1, c1, nq, allLen, w1, w2, w3]
          rw [V_loop]
          simp [L38_0, p50, a2, c1, nq, allLen, w1, w2, w3]
          rw [V_loop]
          simp [L38_0, p50, a3, c1, nq2, allLen, w1, w2, w3, SI.cells]
      · refine ⟨⟨0, 0, 0, 0, 0, 0, 0⟩, ans_V rfl rfl ?_⟩
        simp [c38, p37, hS, hN, hI, allLen]
        rw [V_loop]
        simp [L38_0, p50, a1, c1, nq, allLen, w1, w2, w3]
        rw [V_loop]
        simp [L38_0, p50, a2, c1, nq2, allLen, w1, w2, w3, SI.cells]
    · refine ⟨⟨0, 0, 0, 0, 0, 0, 0⟩, ans_V rfl rfl ?_⟩
      simp [c38, p37, hS, hN, hI, allLen]
      rw [V_loop]
      simp [L38_0, p50, a1, c1, nq2, allLen, w1, w2, w3, SI.cells]
  · have hln : ¬ ((wt.length : Int) + 1 = 4) := by
      intro e
      have : wt.length = 3 := by omega
      match wt, this with
      | [a, b, c], _ => exact hn ⟨a, b, c, rfl⟩
    refine ⟨⟨o, 0, 0, 0, 0, 0, 0⟩, ans_V rfl rfl ?_⟩
    simp [c38, p37, hS, hN, hI, SI.cells, allLen, hln]

end Go.Evl.Zone

/- ZoneTexts: its function answers true. -/
namespace Go.Evl.Zone
open Go Go.Evl Go.Evl.Fl
set_option linter.unusedSimpArgs false
set_option linter.unusedVariables false
variable {P : Program}

theorem parse_W (T : Typed P) {L : List (List UInt8 × SI)} (hp : ∀ p ∈ L, ans (env P) 38 [sv p.1] = some (.agg p.2.cells)) {s W : List UInt8} (hT : ans (env P) 25 [.im (stepsV (stp L)) false] = some (sv W)) (hs : splitL 44 s = L.map Prod.fst) (hlen : s.length < 4294967281) (hL : L.length ≤ most) (hno : ¬ (W = s ∧ s ≠ [])) :
    ans (env P) 23 [sv s] = some (.tup [.im [] false, .val (.bool false)]) := by
  have p37 := fun {dst : Option Nat} {rest : List CI} {i slot slot' : Nat} {log : Log} {d : Option (Nat × List (Nat × Nat))} {K : Ex → St → Prop} {st : St} {ks : List Fr'} {xs : List O} => VA_prim (E := env P) (f := 23) (g := 37) (p := pSplit) (dst := dst) (rest := rest) (i := i) (slot := slot) (slot' := slot') (log := log) (d := d) (K := K) (st := st) (ks := ks) (xs := xs) rfl
  have hS := pSplit_ok (c := 44) hlen
  rw [hs] at hS
  refine ans_V rfl rfl ?_
  simp [c23, p37, hS]
  refine loop23 hp hL L 0 _ _ rfl (by omega) (by simp) (by simp) (by simp) rfl (by simp; exact Lst.nil) ?_
  intro st' v h0 h4 hl
  simp at h0
  have hl0 := hl.grow (m := 0)
  obtain ⟨is, he⟩ := expAs_lst hl0 (plainss_si _)
  have n1 := fun t cx cy => evBin_sneq (P := P) (t := t) (cx := cx) (cy := cy) W s
  have n2 : ∀ (t : TypeId) (cx cy : Bool), evBin P .eql t cx cy (sv s) (.val (.string ⟨#[]⟩)) = some (.val (.bool (decide (s = [])))) := fun t cx cy => evBin_seql (P := P) (t := t) (cx := cx) (cy := cy) s []
  by_cases hw : W = s
  · subst hw
    have h : W = [] := by
      apply Classical.byContradiction
      intro h; exact hno ⟨rfl, h⟩
    have n1' : ∀ (t : TypeId) (cx cy : Bool), evBin P .neq t cx cy (sv W) (sv W) = some (.val (.bool false)) := fun t cx cy => by rw [n1]; simp
    have n2' : ∀ (t : TypeId) (cx cy : Bool), evBin P .eql t cx cy (sv W) (.val (.string ⟨#[]⟩)) = some (.val (.bool true)) := fun t cx cy => by rw [n2]; simp [h]
    simp [-expA, expA_bool, expA_im, he, hT, n1', n2', h4, h0, resV_two]
  · have n1' : ∀ (t : TypeId) (cx cy : Bool), evBin P .neq t cx cy (sv W) (sv s) = some (.val (.bool true)) := fun t cx cy => by rw [n1]; simp [hw]
    simp [-expA, expA_bool, expA_im, he, hT, n1', n2, hw, h4, h0, resV_two]

theorem pairs_of (T : Typed P) : ∀ (ws : List (List UInt8)), (∀ w ∈ ws, w.length ≤ 2000) → ∃ L : List (List UInt8 × SI), ws = L.map Prod.fst ∧ ∀ p ∈ L, ans (env P) 38 [sv p.1] = some (.agg p.2.cells)
  | [], _ => ⟨[], rfl, by simp⟩
  | w :: ws, h => by
    have hw := h w (by simp)
    obtain ⟨q, hq⟩ := parsed_any (P := P) T (w := w) (by omega) (fun x hx => by have := splitL_mem w x hx; omega)
    obtain ⟨L, e1, e2⟩ := pairs_of T ws fun x hx => h x (by simp [hx])
    refine ⟨(w, q) :: L, by simp [e1], ?_⟩
    intro p hp
    rcases List.mem_cons.1 hp with rfl | hp
    · exact hq
    · exact e2 p hp

/-- A text that is no zone's is parsed as none. -/
theorem parse_none (T : Typed P) {s : List UInt8} (hs : s.length ≤ 2000) (hno : ∀ l : List RS, zoneRight (toSI l) = true → s ≠ textL l) : ans (env P) 23 [sv s] = some (.tup [.im [] false, .val (.bool false)]) := by
  obtain ⟨L, e1, e2⟩ := pairs_of T (splitL 44 s) (fun w hw => by have := splitL_mem s w hw; omega)
  obtain ⟨W, hW, hc⟩ := text_any (P := P) T (stp L)
  have hlen := splitL_len (c := 44) s
  rw [e1] at hlen
  simp at hlen
  refine parse_W T e2 hW e1 (by omega) (by unfold most; omega) ?_
  rintro ⟨rfl, h0⟩
  rcases hc with rfl | ⟨l, h1, h2⟩
  · exact h0 rfl
  · exact hno l h1 h2

set_option maxRecDepth 20000 in
set_option maxHeartbeats 4000000 in
theorem zoneTexts_ans (T : Typed3 P) (T4 : P.underlying 4 = some .bool) (told : ans (env P) 12 [] = some (.val (.bool true))) {s : List UInt8} : ans (env P) 5 [sv s] = some (.val (.bool true)) := by
  have hb : ∀ a b : Bool, evBin P .eql 4 false false (.val (.bool a)) (.val (.bool b)) = some (.val (.bool (a == b))) := fun a b => evBin_beql T4
  refine ans_V rfl rfl ?_
  by_cases hl : (2000 : Int) < (s.length : Int)
  · simp [c5, sv_size, hl, told]
  have hs : s.length ≤ 2000 := by omega
  by_cases hex : ∃ l : List RS, zoneRight (toSI l) = true ∧ s = textL l
  · obtain ⟨l, hz, rfl⟩ := hex
    obtain ⟨h32, h0, hri⟩ := zoneRight_all hz
    have hll : l.length ≤ 32 := by simpa [toSI] using h32
    have hok' : ∀ q ∈ l, q.okB := fun q hq => right_okB (q := q.si) (hri q.si (by simp [toSI]; exact ⟨q, hq, rfl⟩))
    have hok : ∀ q ∈ toSI l, q.ok := by
      intro q hq
      obtain ⟨r, hr, rfl⟩ := List.mem_map.1 hq
      obtain ⟨_, _, a, b, c⟩ := hok' r hr
      exact ⟨Is.nearest (by omega), Is.nearest (by omega), Is.nearest (by omega)⟩
    have s2 := text_ans (P := P) T.toTyped hok
    have s3 := back_ans (P := P) T.toTyped (l := l)
    have s5 := zoneRight_ans (P := P) hok
    rw [toSI_rs, hz] at s2
    rw [hz] at s3 s5
    simp only [if_true] at s2 s3
    have s4 := refParse_ans (P := P) T.toTyped hs
    rw [refParse_text hz] at s4
    simp only at s4
    have s8 := from_ans (P := P) T.toTyped T.t33 hok (by
      intro q hq z hz
      obtain ⟨r, hr, rfl⟩ := List.mem_map.1 hq
      obtain ⟨_, _, a, b, c⟩ := hok' r hr
      simp [RS.si] at hz
      rcases hz with rfl | rfl | rfl <;> omega) (by simp [toSI]; unfold most; omega)
    have e8 : ((toSI l).map fun q => (⟨q.op, q.x, q.y, q.s⟩ : RS)) = l := toSI_rs l
    rw [e8] at s8
    have s9 := refSame_ans (P := P) T.toTyped2 (l := l) (m := l) (by unfold most; omega)
    simp only [decide_true] at s9
    have e9 : ∀ {t : TypeId} {cx cy : Bool}, evBin P .eql t cx cy (sv (textL l)) (sv (textL l)) = some (.val (.bool true)) := by
      intro t cx cy; rw [evBin_seql]; simp
    generalize textL l = W at *
    simp [c5, sv_size, hl, told, s2, s3, s4, s5, s8, s9, hb, e9]
  · have hno : ∀ l : List RS, zoneRight (toSI l) = true → s ≠ textL l := fun l h e => hex ⟨l, h, e⟩
    have s3 := parse_none (P := P) T.toTyped hs hno
    have s4 := refParse_ans (P := P) T.toTyped hs
    have hn : refParse s = none := by
      cases h : refParse s with
      | none => rfl
      | some l => exact absurd (refParse_inv h).2 (hno l (refParse_inv h).1)
    rw [hn] at s4
    simp only at s4
    have s8 : ans (env P) 21 [.im [] false] = some (.im [] false) := from_ans (P := P) T.toTyped T.t33 (l := []) (by simp) (by simp) (by decide)
    have s9 : ans (env P) 20 [.im [] false, .im [] false] = some (.val (.bool true)) := refSame_ans (P := P) T.toTyped2 (l := []) (m := []) (by decide)
    simp [c5, sv_size, hl, told, s3, s4, s8, s9, hb]

end Go.Evl.Zone
