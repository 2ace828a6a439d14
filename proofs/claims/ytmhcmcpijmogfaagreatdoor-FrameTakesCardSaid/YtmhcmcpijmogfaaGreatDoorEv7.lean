/- The evaluator's texts CTake12 to CLTakes, joined. -/
import Derived.Test.YtmhcmcpijmogfaaGreatDoorEv6
set_option linter.all false
set_option linter.deprecated false
set_option linter.unusedVariables false
set_option linter.unusedSimpArgs false
set_option linter.unnecessarySimpa false
namespace Go.Evl.Zone
open Go Go.Evl
variable {P : Program}
structure M (v : PV) (B : Bytes) (q : Src) (nn : Bool) (cs : List PV) (h : Heap) : Prop where
  tk : TkS h 1 2 v B q nn
  F : h.at_ 4 = .box cs
  R : h.at_ 0 = .box z12
  hn : 5 ≤ h.n
section
variable {v : PV} {B : Bytes} {q q' : Src} {nn nn' : Bool} {cs cs' : List PV} {h h' : Heap} {m : Nat}
theorem M.grow (c : M v B q nn cs h) : M v B q nn cs (h.grow m) := by
  have := c.hn
  have h0 : 0 < h.n := by omega
  have h4 : 4 < h.n := by omega
  exact ⟨c.tk.grow, by simp [h4, c.F], by simp [h0, c.R], by simp; omega⟩
theorem M.oth (c : M v B q nn cs h) (o : Oth h 2 h') (s : RdS h' 2 v B q') : M v B q' nn cs h' := by
  have := c.hn
  exact ⟨c.tk.oth o s, by rw [o.at_ 4 (by omega) (by omega), c.F], by rw [o.at_ 0 (by omega) (by omega), c.R], by rw [o.n]; exact c.hn⟩
theorem M.putf (c : M v B q nn cs h) : M v B q nn cs' (h.put 4 (.box cs')) := by
  obtain ⟨a0, x1, x2, x3⟩ := c.tk.S.at_
  exact ⟨⟨⟨by simpa using c.tk.S.hr, ⟨c.tk.S.b.l.putN (.inr ⟨_, c.F⟩), c.tk.S.b.m⟩, a0, x1, x2, by simp [x3]⟩, by simp [c.tk.T], by simpa using c.tk.tn, c.tk.ne⟩, by simp, by simp [c.R], by simpa using c.hn⟩
theorem M.putt (c : M v B q nn cs h) : M v B q nn' cs (h.put 1 (.box [.ptr 2 0, bv nn'])) := by
  obtain ⟨a0, x1, x2, x3⟩ := c.tk.S.at_
  exact ⟨⟨⟨by simpa using c.tk.S.hr, ⟨c.tk.S.b.l.putN (.inr ⟨_, c.tk.T⟩), c.tk.S.b.m⟩, a0, x1, x2, by simp [x3]⟩, by simp, by simpa using c.tk.tn, c.tk.ne⟩, by simp [c.F], by simp [c.R], by simpa using c.hn⟩
end
theorem read_KC {H : Heap} {b : Bytes} (hb : b.length ≤ most) {K : PV → Heap → List Nat → Prop} (hK : ∀ H' x wl, H'.n = H.n + 2 → (∀ i, i < H.n → H'.at_ i = H.at_ i) → H'.at_ H.n = .box [x, iv 0, iv 0] → Bf H' x b → (∀ j ∈ wl, H.n ≤ j) → K (.ptr H.n 0) H' wl) : KC (env P) 41 [lv b] H K := by
  have cl := fun {dst : Option Nat} {rest : List CI} {i slot slot' : Nat} {log : Log} {d : Option (Nat × List (Nat × Nat))} {K : Ex → St → Prop} {st : St} {ks : List Fr'} {xs : List O} => VA_prim (E := env P) (f := 41) (g := 92) (p := pClone 1) (dst := dst) (rest := rest) (i := i) (slot := slot) (slot' := slot') (log := log) (d := d) (K := K) (st := st) (ks := ks) (xs := xs) rfl
  refine KC_of (cf := c41) rfl rfl ?_
  by_cases h : b = []
  · subst h
    simp [c41, cl, pClone, isStr, elems, allLen]
    exact hK _ (.im [] true) _ (by simp) (fun i hi => by simp [show i ≠ H.n by omega, show i < H.n + 2 by omega, hi]) (by simp) ⟨Lst.nil, hb⟩ (by simp)
  · have hl : ¬ b.length = 0 := by simpa using h
    simp [c41, cl, pClone, isStr, elems, hl, hb, h]
    refine hK _ (.sl (H.n + 1) 1 b.length 0 b.length) _ (by simp) (fun i hi => by simp [show i ≠ H.n by omega, show i ≠ H.n + 1 by omega, show i < H.n + 2 by omega, hi]) (by simp) ⟨?_, hb⟩ (by simp)
    exact .row (H.n + 1) (En b) (by simp) (by simp) (by simp) (by simpa using List.take_length (l := En b)) (by simp) (allLen_En rfl b)
set_option maxHeartbeats 6400000 in
theorem ptake_ans (T : TT P) {b : Bytes} (hb : b.length ≤ most) : ans (env P) 10 [lv b] = some (.tup [.agg (fP (rFrame b).1), iv (rFrame b).2]) := by
  have hst0 : stepsV (toSI []) = [] := rfl
  have ezs : ∀ (h : Heap) (s : ByteArray), Evl.expC h (.val (.string s)) = some (.val (.string s), []) := fun _ _ => rfl
  have ezi : ∀ (h : Heap) (k : IntKind) (n : Int), Evl.expC h (.val (.int k n)) = some (.val (.int k n), []) := fun _ _ _ => rfl
  have ezb : ∀ (h : Heap) (t : Bool), Evl.expC h (.val (.bool t)) = some (.val (.bool t), []) := fun _ _ => rfl
  have ezm : ∀ (h : Heap) (xs : List (List PV)) (t : Bool), Evl.expC h (.im xs t) = some (.im xs false, []) := fun _ _ _ => rfl
  have fls : ∀ (s : ByteArray), Evl.cellP (.val (.string s)) = true := fun _ => rfl
  have fli : ∀ (k : IntKind) (n : Int), Evl.cellP (.val (.int k n)) = true := fun _ _ => rfl
  have flb : ∀ (t : Bool), Evl.cellP (.val (.bool t)) = true := fun _ => rfl
  have flm : ∀ (xs : List (List PV)) (t : Bool), Evl.cellP (.im xs t) = true := fun _ _ => rfl
  refine ans_V rfl rfl ?_
  simp [c10]
  refine VA_keep (g := 41) (caps := []) rfl rfl ?_
  try simp
  refine read_KC hb fun H1 x wl1 n1 k1 r1 hv1 w1 => ?_
  have n1 : H1.n = 4 := by rw [n1]; simp [Heap.empty]
  have g0 : H1.at_ 0 = .box z12 := by rw [k1 0 (by simp [Heap.empty])]; simp [Heap.empty]
  have g1 : H1.at_ 1 = .dead := by rw [k1 1 (by simp [Heap.empty])]; simp [Heap.empty]
  have g2 : H1.at_ 2 = .box [x, iv 0, iv 0] := by simpa [Heap.empty] using r1
  simp [n1, g1, Heap.empty]
  refine VA_inl (g := 42) (caps := []) rfl rfl ?_
  try simp
  have hv2 : Bf (H1.put 1 (.box [.ptr 2 0, bv false])) x b := ⟨hv1.l.putN (.inl g1), hb⟩
  have s1 : RdS ((H1.put 1 (.box [.ptr 2 0, bv false])).grow 1) 2 x b ⟨b, 0⟩ := RdS.grow ⟨by simp [n1], hv2, 0, by omega, rfl, by simp [g2]⟩
  refine wnum_IC (m := 3) T s1 (by omega) fun H2 wl2 s2 o2 w2 => ?_
  have n2 : H2.n = 5 := by rw [o2.n]; simp [n1]
  have R2 : H2.at_ 0 = .box z12 := by rw [o2.at_ 0 (by simp [n1]) (by omega)]; simp [n1, g0]
  have T2 : H2.at_ 1 = .box [.ptr 2 0, bv false] := by rw [o2.at_ 1 (by simp [n1]) (by omega)]; simp [n1]
  have d4 : H2.at_ 4 = .dead := by rw [o2.at_ 4 (by simp [n1]) (by omega)]; simp [n1]
  obtain ⟨n, hn⟩ : ∃ n, n = (rNum 3 ⟨b, 0⟩).1 := ⟨_, rfl⟩
  obtain ⟨q1, hq1⟩ : ∃ q1, q1 = (rNum 3 ⟨b, 0⟩).2 := ⟨_, rfl⟩
  have hn3 : n ≤ 3 := by rw [hn]; exact rNum_le
  rw [← hq1] at s2
  simp only [← hn]
  have hkI : rI 3 ⟨b, 0⟩ = ((n : Int), q1) := by rw [hn, hq1]; rfl
  have c2 : ∀ x', M x b q1 false x' ((H2.put 4 (.box z12)).put 4 (.box x')) := fun x' => by
    obtain ⟨a2, y1, y2, y3⟩ := s2.at_
    have l2 : Bf ((H2.put 4 (.box z12)).put 4 (.box x')) x b := ⟨(s2.b.l.putN (.inl d4)).putN (.inr ⟨z12, by simp⟩), hb⟩
    exact ⟨⟨⟨by simp [n2], l2, a2, y1, y2, by simp [y3]⟩, by simp [T2], by simp [n2], by omega⟩, by simp, by simp [R2], by simp [n2]⟩
  have C2 := c2 [iv n, sv [], sv [], PV.im [] true, iv 0, PV.im [] true, PV.im [] true, PV.im [] true, PV.im [] true, PV.im [] true, bv false, PV.im [] true]
  simp [n2, d4, T2]
  by_cases hn0 : n = 0
  · subst hn0
    simp [n2, T2]
    refine VA_inl (g := 43) (caps := []) rfl rfl ?_
    try simp
    refine werr_IC T (C2.grow (m := 0)).tk.S ?_
    by_cases hb1 : q1.bad = 0
    · have hF : rFrame b = (frame0, 3) := by
        unfold rFrame
        rw [hkI, if_pos ⟨hb1, rfl⟩]
      rw [hF]
      simp [hb1, n2, T2, R2, frame0, resV, resP, hst0]
    · have hN0 : ¬ (((((0 : Nat) : Int), q1) : Int × Src).2.bad = 0 ∧ ((((0 : Nat) : Int), q1) : Int × Src).1 = 0) := fun h => hb1 h.1
      simp [hb1, n2, T2]
      have c3 := ((C2.grow (m := 0)).putt (nn' := false))
      refine VA_inl (g := 44) (caps := []) rfl rfl ?_
      try simp
      refine tid_IC T (c3.grow (m := 0)).tk fun H4 wl4 s4 o4 w4 => ?_
      have c4 := (c3.grow (m := 0)).oth o4 s4
      have F4 := c4.F
      have n4 : 4 < H4.n := by have := c4.hn; omega
      simp [F4, n4]
      refine VA_inl (g := 44) (caps := []) rfl rfl ?_
      try simp
      refine tid_IC T ((c4.putf (cs' := [iv 0, sv (rText 6 q1).1, sv [], PV.im [] true, iv 0, PV.im [] true, PV.im [] true, PV.im [] true, PV.im [] true, PV.im [] true, bv false, PV.im [] true])).grow (m := 0)).tk fun H5 wl5 s5 o5 w5 => ?_
      have c5' := ((c4.putf (cs' := [iv 0, sv (rText 6 q1).1, sv [], PV.im [] true, iv 0, PV.im [] true, PV.im [] true, PV.im [] true, PV.im [] true, PV.im [] true, bv false, PV.im [] true])).grow (m := 0)).oth o5 s5
      have F5 := c5'.F
      have n5 : 4 < H5.n := by have := c5'.hn; omega
      obtain ⟨q5, hq5⟩ : ∃ q5, q5 = (rText 6 (rText 6 q1).2).2 := ⟨_, rfl⟩
      rw [← hq5] at c5'
      have c5 := c5'.putf (cs' := [iv 0, sv (rText 6 q1).1, sv (rText 6 (rText 6 q1).2).1, PV.im [] true, iv 0, PV.im [] true, PV.im [] true, PV.im [] true, PV.im [] true, PV.im [] true, bv false, PV.im [] true])
      simp [F5, n5]
      have hk : ¬ (0 : Nat) = 3 := by omega
      have hk' : ¬ ((((0 : Nat) : Int), q1) : Int × Src).1 = 3   := by first | (simp; done) | (simp; omega)
      have hki : ¬ ((0 : Nat) : Int) = 3 := by omega
      try simp [hk, hki]
      refine VA_keep (g := 46) (caps := []) rfl rfl ?_
      try simp
      have c5g := (c5.grow (m := 0))
      refine tlists_KC T c5g.tk c5g.F (by have := c5g.hn; omega) (by omega) (by omega) fun w Hl wll q9 nn x3 x5 x7 x8 x9 hd z l wh hnn hq9 tkl Fl nl l3 l5 l7 hz9 l9 hval yl wwl => ?_
      have R5 : (Heap.at_ _ 0) = .box z12 := c5g.R
      have Rl : Hl.at_ 0 = .box z12 := by rw [yl.at_ 0 (by have := c5g.hn; omega) (by omega), R5]
      have nl5 : 5 ≤ Hl.n := Nat.le_trans c5g.hn yl.n
      obtain ⟨b8, rfl⟩ := hz9
      have cl : M _ b q9 nn _ Hl := ⟨tkl, Fl, Rl, nl5⟩
      cases nn with
      | true =>
        have hF : rFrame b = (frame0, 3) := by
          unfold rFrame
          rw [hkI, if_neg hN0, if_neg hk', ← hq5]
          cases hx : rLists ((((0 : Nat) : Int), q1) : Int × Src).1 q5 with
          | mk o r2 =>
            have hx : rLists 0 q5 = (o, r2) := hx
            rw [hx] at hnn
            cases o with
            | none => rfl
            | some y => cases hnn
        rw [hF]
        have T9 := cl.tk.T
        have l90 : 0 < Hl.n := by omega
        have l91 : 1 < Hl.n := by omega
        simp [T9, l90, l91, Rl, frame0, resV, resP, hst0]
      | false =>
        have hq9 := hq9 rfl
        have hval := hval rfl
        have hFr : rFrame b = rFin ⟨((0 : Nat) : Int), (rText 6 q1).1, (rText 6 (rText 6 q1).2).1, hd.1, hd.2.1, hd.2.2.1, hd.2.2.2.1, hd.2.2.2.2, z, l, wh, []⟩ q9 := by
          unfold rFrame
          rw [hkI, if_neg hN0, if_neg hk', ← hq5]
          cases hx : rLists ((((0 : Nat) : Int), q1) : Int × Src).1 q5 with
          | mk o r2 =>
            have hx : rLists 0 q5 = (o, r2) := hx
            rw [hx] at hnn hq9 hval
            simp only at hq9
            subst hq9
            cases o with
            | none => cases hnn
            | some y =>
              obtain ⟨hd', z', l', w'⟩ := y
              by_cases hb : q9.bad = 0
              · have := hval hb
                simp only [Option.some.injEq, Prod.mk.injEq] at this
                obtain ⟨rfl, rfl, rfl, rfl⟩ := this
                simp only [hx]
              · simp only [hx, rFin]
                rw [if_pos (by simpa using hb), if_pos (by simpa using hb)]
        have d9 := cl
        have F9 := d9.F
        have T9 := d9.tk.T
        have n9 := d9.hn
        have l91 : 1 < _ := Nat.lt_of_lt_of_le (show 1 < 5 by omega) n9
        simp [T9, l91]
        refine VA_inl (g := 47) (caps := []) rfl rfl ?_
        try simp
        refine wend_IC T (d9.grow (m := 0)).tk.S fun Hz wlz sz oz wz => ?_
        have cz := (d9.grow (m := 0)).oth oz sz
        have Fz := cz.F
        have Tz := cz.tk.T
        have Rz := cz.R
        have nz := cz.hn
        have z0 : 0 < Hz.n := by omega
        have z1 : 1 < Hz.n := by omega
        have z4 : 4 < Hz.n := by omega
        have hF0 : rFrame b = rFin ⟨((0 : Nat) : Int), (rText 6 q1).1, (rText 6 (rText 6 q1).2).1, hd.1, hd.2.1, hd.2.2.1, hd.2.2.2.1, hd.2.2.2.2, z, l, wh, []⟩ q9 := hFr
        by_cases he : rEnd q9 = 0
        · have hb9 : q9.bad = 0 ∧ q9.s = [] := by
            unfold rEnd at he
            split at he
            · cases he
            · rename_i h
              exact ⟨he, Classical.byContradiction fun hs => h ⟨he, hs⟩⟩
          have hFO : FOK ⟨((0 : Nat) : Int), (rText 6 q1).1, (rText 6 (rText 6 q1).2).1, hd.1, hd.2.1, hd.2.2.1, hd.2.2.2.1, hd.2.2.2.2, z, l, wh, []⟩ := lists_FOK (kind := ((0 : Nat) : Int)) (q := q5) (r := q9) (Prod.ext (hval hb9.1) hq9.symm) hb9.1
          have hR := frameRight_ans (P := P) hFO
          have hHl : ∀ {N k x ys}, LN N Hl k x ys → LN N Hz k x ys := fun {N k x ys} hl => LN.oth (hl.grow (m := 0)) (by obtain ⟨a0, _, _, hb⟩ := (cl.grow (m := 0)).tk.S.at_; exact ⟨_, hb⟩) oz
          obtain ⟨i3, X3⟩ := (hHl l3).expH (plainss_En _)
          have X3' := X3 (Hz.grow 0) (fun i hi _ => by simp [hi])
          have y3 := LN.fl l3
          have Z3 := fun c => X3 ((Hz.grow 0).put 0 (.box c)) (fun i hi hx => putz Rz hi hx)
          obtain ⟨i5, X5⟩ := (hHl l5).expH (plainss_En _)
          have X5' := X5 (Hz.grow 0) (fun i hi _ => by simp [hi])
          have y5 := LN.fl l5
          have Z5 := fun c => X5 ((Hz.grow 0).put 0 (.box c)) (fun i hi hx => putz Rz hi hx)
          obtain ⟨i7, X7⟩ := (hHl l7).expH (plainss_En _)
          have X7' := X7 (Hz.grow 0) (fun i hi _ => by simp [hi])
          have y7 := LN.fl l7
          have Z7 := fun c => X7 ((Hz.grow 0).put 0 (.box c)) (fun i hi hx => putz Rz hi hx)
          obtain ⟨i9, X9⟩ := (hHl l9).expH (plainss_EnP _)
          have X9' := X9 (Hz.grow 0) (fun i hi _ => by simp [hi])
          have y9 := LN.fl l9
          have Z9 := fun c => X9 ((Hz.grow 0).put 0 (.box c)) (fun i hi hx => putz Rz hi hx)
          simp only [he]
          by_cases hRR : frameR ⟨((0 : Nat) : Int), (rText 6 q1).1, (rText 6 (rText 6 q1).2).1, hd.1, hd.2.1, hd.2.2.1, hd.2.2.2.1, hd.2.2.2.2, z, l, wh, []⟩ = true
          · have hF1 : rFrame b = (⟨((0 : Nat) : Int), (rText 6 q1).1, (rText 6 (rText 6 q1).2).1, hd.1, hd.2.1, hd.2.2.1, hd.2.2.2.1, hd.2.2.2.2, z, l, wh, []⟩, 0) := by
              rw [hF0]
              unfold rFin
              rw [if_neg (by simp [hb9.1]), if_neg (by simp [hb9.2]), if_pos hRR]
            rw [hF1]
            rw [hRR] at hR
            try simp [fP, lv, lvP, hst0] at hR
            simp [-Evl.expC, -Evl.cellP, fls, fli, flb, flm, ezs, ezi, ezb, ezm, X3', X5', X7', X9', y3, y5, y7, y9, Z3, Z5, Z7, Z9, Fz, Tz, nz, hR, z0, z1, z4, Rz, resV, resP, hst0]
            try done
          · have hF1 : rFrame b = (frame0, 3) := by
              rw [hF0]
              unfold rFin
              rw [if_neg (by simp [hb9.1]), if_neg (by simp [hb9.2]), if_neg hRR]
            rw [hF1]
            simp only [hRR] at hR
            try simp [fP, lv, lvP, hst0] at hR
            simp [-Evl.expC, ezs, ezi, ezb, ezm, X3', X5', X7', X9', y3, y5, y7, y9, Z3, Z5, Z7, Z9, Fz, Tz, nz, hR, z0, z1, z4, Rz, frame0, resV, resP, hst0]
        · have hF1 : rFrame b = (frame0, rEnd q9) := by
            rw [hF0]
            unfold rFin
            by_cases hb9 : q9.bad = 0
            · rw [if_neg (by simp [hb9])]
              by_cases hs9 : q9.s = []
              · exfalso
                apply he
                simp [rEnd, hb9, hs9]
              · rw [if_pos (by simpa using hs9)]
                simp [rEnd, hb9, hs9]
            · rw [if_pos (by simpa using hb9)]
              simp [rEnd, hb9]
          rw [hF1]
          simp [he, Tz, z1]
          refine VA_inl (g := 47) (caps := []) rfl rfl ?_
          try simp
          refine wend_IC T (cz.grow (m := 0)).tk.S fun Hy wly sy oy wy => ?_
          have cy := (cz.grow (m := 0)).oth oy sy
          have Ry := cy.R
          have ny := cy.hn
          have y0 : 0 < Hy.n := by omega
          simp [Ry, y0, frame0, resV, resP, hst0]
  · have hN0 : ¬ ((((n : Int), q1) : Int × Src).2.bad = 0 ∧ (((n : Int), q1) : Int × Src).1 = 0) := by rintro ⟨_, h2⟩; simp at h2; omega
    simp [hn0, n2, T2]
    have c3 := ((C2.grow (m := 0)).putt (nn' := false))
    refine VA_inl (g := 44) (caps := []) rfl rfl ?_
    try simp
    refine tid_IC T (c3.grow (m := 0)).tk fun H4 wl4 s4 o4 w4 => ?_
    have c4 := (c3.grow (m := 0)).oth o4 s4
    have F4 := c4.F
    have n4 : 4 < H4.n := by have := c4.hn; omega
    simp [F4, n4]
    refine VA_inl (g := 44) (caps := []) rfl rfl ?_
    try simp
    refine tid_IC T ((c4.putf (cs' := [iv n, sv (rText 6 q1).1, sv [], PV.im [] true, iv 0, PV.im [] true, PV.im [] true, PV.im [] true, PV.im [] true, PV.im [] true, bv false, PV.im [] true])).grow (m := 0)).tk fun H5 wl5 s5 o5 w5 => ?_
    have c5' := ((c4.putf (cs' := [iv n, sv (rText 6 q1).1, sv [], PV.im [] true, iv 0, PV.im [] true, PV.im [] true, PV.im [] true, PV.im [] true, PV.im [] true, bv false, PV.im [] true])).grow (m := 0)).oth o5 s5
    have F5 := c5'.F
    have n5 : 4 < H5.n := by have := c5'.hn; omega
    obtain ⟨q5, hq5⟩ : ∃ q5, q5 = (rText 6 (rText 6 q1).2).2 := ⟨_, rfl⟩
    rw [← hq5] at c5'
    have c5 := c5'.putf (cs' := [iv n, sv (rText 6 q1).1, sv (rText 6 (rText 6 q1).2).1, PV.im [] true, iv 0, PV.im [] true, PV.im [] true, PV.im [] true, PV.im [] true, PV.im [] true, bv false, PV.im [] true])
    simp [F5, n5]
    by_cases hk : n = 3
    · subst hk
      have hFr : rFrame b = rFin ⟨3, (rText 6 q1).1, (rText 6 (rText 6 q1).2).1, [], 0, [], [], [], [], [], false, (rVec q5).1⟩ (rVec q5).2 := by
        unfold rFrame
        rw [hkI, if_neg hN0, if_pos (by simp), hq5]
        rfl
      try simp
      refine VA_inl (g := 45) (caps := []) rfl rfl ?_
      try simp
      refine tvec_IC T (c5.grow (m := 0)).tk fun H6 wl6 s6 o6 w6 => ?_
      have c6 := (c5.grow (m := 0)).oth o6 s6
      have F6 := c6.F
      have n6 : 4 < H6.n := by have := c6.hn; omega
      simp [F6, n6]
      have d9 := (c6.putf (cs' := [iv 3, sv (rText 6 q1).1, sv (rText 6 (rText 6 q1).2).1, PV.im [] true, iv 0, PV.im [] true, PV.im [] true, PV.im [] true, PV.im [] true, PV.im [] true, bv false, lv (rVec q5).1]))
      have F9 := d9.F
      have T9 := d9.tk.T
      have n9 := d9.hn
      have l91 : 1 < _ := Nat.lt_of_lt_of_le (show 1 < 5 by omega) n9
      simp [T9, l91, c6.tk.T, show 1 < H6.n by omega]
      refine VA_inl (g := 47) (caps := []) rfl rfl ?_
      try simp
      refine wend_IC T (d9.grow (m := 0)).tk.S fun Hz wlz sz oz wz => ?_
      have cz := (d9.grow (m := 0)).oth oz sz
      have Fz := cz.F
      have Tz := cz.tk.T
      have Rz := cz.R
      have nz := cz.hn
      have z0 : 0 < Hz.n := by omega
      have z1 : 1 < Hz.n := by omega
      have z4 : 4 < Hz.n := by omega
      have hF0 : rFrame b = rFin ⟨3, (rText 6 q1).1, (rText 6 (rText 6 q1).2).1, [], 0, [], [], [], [], [], false, (rVec q5).1⟩ (rVec q5).2 := hFr
      by_cases he : rEnd (rVec q5).2 = 0
      · have hb9 : (rVec q5).2.bad = 0 ∧ (rVec q5).2.s = [] := by
          unfold rEnd at he
          split at he
          · cases he
          · rename_i h
            exact ⟨he, Classical.byContradiction fun hs => h ⟨he, hs⟩⟩
        have hFO : FOK ⟨3, (rText 6 q1).1, (rText 6 (rText 6 q1).2).1, [], 0, [], [], [], [], [], false, (rVec q5).1⟩ := floor_FOK hb9.1
        have hR := frameRight_ans (P := P) hFO
        simp only [he]
        by_cases hRR : frameR ⟨3, (rText 6 q1).1, (rText 6 (rText 6 q1).2).1, [], 0, [], [], [], [], [], false, (rVec q5).1⟩ = true
        · have hF1 : rFrame b = (⟨3, (rText 6 q1).1, (rText 6 (rText 6 q1).2).1, [], 0, [], [], [], [], [], false, (rVec q5).1⟩, 0) := by
            rw [hF0]
            unfold rFin
            rw [if_neg (by simp [hb9.1]), if_neg (by simp [hb9.2]), if_pos hRR]
          rw [hF1]
          rw [hRR] at hR
          try simp [fP, lv, lvP, hst0] at hR
          simp [-Evl.expC, -Evl.cellP, fls, fli, flb, flm, ezs, ezi, ezb, ezm, Fz, Tz, nz, hR, z0, z1, z4, Rz, resV, resP, hst0]
          try done
        · have hF1 : rFrame b = (frame0, 3) := by
            rw [hF0]
            unfold rFin
            rw [if_neg (by simp [hb9.1]), if_neg (by simp [hb9.2]), if_neg hRR]
          rw [hF1]
          simp only [hRR] at hR
          try simp [fP, lv, lvP, hst0] at hR
          simp [-Evl.expC, ezs, ezi, ezb, ezm, Fz, Tz, nz, hR, z0, z1, z4, Rz, frame0, resV, resP, hst0]
      · have hF1 : rFrame b = (frame0, rEnd (rVec q5).2) := by
          rw [hF0]
          unfold rFin
          by_cases hb9 : (rVec q5).2.bad = 0
          · rw [if_neg (by simp [hb9])]
            by_cases hs9 : (rVec q5).2.s = []
            · exfalso
              apply he
              simp [rEnd, hb9, hs9]
            · rw [if_pos (by simpa using hs9)]
              simp [rEnd, hb9, hs9]
          · rw [if_pos (by simpa using hb9)]
            simp [rEnd, hb9]
        rw [hF1]
        simp [he, Tz, z1]
        refine VA_inl (g := 47) (caps := []) rfl rfl ?_
        try simp
        refine wend_IC T (cz.grow (m := 0)).tk.S fun Hy wly sy oy wy => ?_
        have cy := (cz.grow (m := 0)).oth oy sy
        have Ry := cy.R
        have ny := cy.hn
        have y0 : 0 < Hy.n := by omega
        simp [Ry, y0, frame0, resV, resP, hst0]
    · have hk' : ¬ (((n : Int), q1) : Int × Src).1 = 3   := by first | (simp; done) | (simp; omega)
      have hki : ¬ (n : Int) = 3 := by omega
      try simp [hk, hki]
      refine VA_keep (g := 46) (caps := []) rfl rfl ?_
      try simp
      have c5g := (c5.grow (m := 0))
      refine tlists_KC T c5g.tk c5g.F (by have := c5g.hn; omega) (by omega) (by omega) fun w Hl wll q9 nn x3 x5 x7 x8 x9 hd z l wh hnn hq9 tkl Fl nl l3 l5 l7 hz9 l9 hval yl wwl => ?_
      have R5 : (Heap.at_ _ 0) = .box z12 := c5g.R
      have Rl : Hl.at_ 0 = .box z12 := by rw [yl.at_ 0 (by have := c5g.hn; omega) (by omega), R5]
      have nl5 : 5 ≤ Hl.n := Nat.le_trans c5g.hn yl.n
      obtain ⟨b8, rfl⟩ := hz9
      have cl : M _ b q9 nn _ Hl := ⟨tkl, Fl, Rl, nl5⟩
      cases nn with
      | true =>
        have hF : rFrame b = (frame0, 3) := by
          unfold rFrame
          rw [hkI, if_neg hN0, if_neg hk', ← hq5]
          cases hx : rLists (((n : Int), q1) : Int × Src).1 q5 with
          | mk o r2 =>
            have hx : rLists (n : Int) q5 = (o, r2) := hx
            rw [hx] at hnn
            cases o with
            | none => rfl
            | some y => cases hnn
        rw [hF]
        have T9 := cl.tk.T
        have l90 : 0 < Hl.n := by omega
        have l91 : 1 < Hl.n := by omega
        simp [T9, l90, l91, Rl, frame0, resV, resP, hst0]
      | false =>
        have hq9 := hq9 rfl
        have hval := hval rfl
        have hFr : rFrame b = rFin ⟨n, (rText 6 q1).1, (rText 6 (rText 6 q1).2).1, hd.1, hd.2.1, hd.2.2.1, hd.2.2.2.1, hd.2.2.2.2, z, l, wh, []⟩ q9 := by
          unfold rFrame
          rw [hkI, if_neg hN0, if_neg hk', ← hq5]
          cases hx : rLists (((n : Int), q1) : Int × Src).1 q5 with
          | mk o r2 =>
            have hx : rLists (n : Int) q5 = (o, r2) := hx
            rw [hx] at hnn hq9 hval
            simp only at hq9
            subst hq9
            cases o with
            | none => cases hnn
            | some y =>
              obtain ⟨hd', z', l', w'⟩ := y
              by_cases hb : q9.bad = 0
              · have := hval hb
                simp only [Option.some.injEq, Prod.mk.injEq] at this
                obtain ⟨rfl, rfl, rfl, rfl⟩ := this
                simp only [hx]
              · simp only [hx, rFin]
                rw [if_pos (by simpa using hb), if_pos (by simpa using hb)]
        have d9 := cl
        have F9 := d9.F
        have T9 := d9.tk.T
        have n9 := d9.hn
        have l91 : 1 < _ := Nat.lt_of_lt_of_le (show 1 < 5 by omega) n9
        simp [T9, l91]
        refine VA_inl (g := 47) (caps := []) rfl rfl ?_
        try simp
        refine wend_IC T (d9.grow (m := 0)).tk.S fun Hz wlz sz oz wz => ?_
        have cz := (d9.grow (m := 0)).oth oz sz
        have Fz := cz.F
        have Tz := cz.tk.T
        have Rz := cz.R
        have nz := cz.hn
        have z0 : 0 < Hz.n := by omega
        have z1 : 1 < Hz.n := by omega
        have z4 : 4 < Hz.n := by omega
        have hF0 : rFrame b = rFin ⟨n, (rText 6 q1).1, (rText 6 (rText 6 q1).2).1, hd.1, hd.2.1, hd.2.2.1, hd.2.2.2.1, hd.2.2.2.2, z, l, wh, []⟩ q9 := hFr
        by_cases he : rEnd q9 = 0
        · have hb9 : q9.bad = 0 ∧ q9.s = [] := by
            unfold rEnd at he
            split at he
            · cases he
            · rename_i h
              exact ⟨he, Classical.byContradiction fun hs => h ⟨he, hs⟩⟩
          have hFO : FOK ⟨n, (rText 6 q1).1, (rText 6 (rText 6 q1).2).1, hd.1, hd.2.1, hd.2.2.1, hd.2.2.2.1, hd.2.2.2.2, z, l, wh, []⟩ := lists_FOK (kind := n) (q := q5) (r := q9) (Prod.ext (hval hb9.1) hq9.symm) hb9.1
          have hR := frameRight_ans (P := P) hFO
          have hHl : ∀ {N k x ys}, LN N Hl k x ys → LN N Hz k x ys := fun {N k x ys} hl => LN.oth (hl.grow (m := 0)) (by obtain ⟨a0, _, _, hb⟩ := (cl.grow (m := 0)).tk.S.at_; exact ⟨_, hb⟩) oz
          obtain ⟨i3, X3⟩ := (hHl l3).expH (plainss_En _)
          have X3' := X3 (Hz.grow 0) (fun i hi _ => by simp [hi])
          have y3 := LN.fl l3
          have Z3 := fun c => X3 ((Hz.grow 0).put 0 (.box c)) (fun i hi hx => putz Rz hi hx)
          obtain ⟨i5, X5⟩ := (hHl l5).expH (plainss_En _)
          have X5' := X5 (Hz.grow 0) (fun i hi _ => by simp [hi])
          have y5 := LN.fl l5
          have Z5 := fun c => X5 ((Hz.grow 0).put 0 (.box c)) (fun i hi hx => putz Rz hi hx)
          obtain ⟨i7, X7⟩ := (hHl l7).expH (plainss_En _)
          have X7' := X7 (Hz.grow 0) (fun i hi _ => by simp [hi])
          have y7 := LN.fl l7
          have Z7 := fun c => X7 ((Hz.grow 0).put 0 (.box c)) (fun i hi hx => putz Rz hi hx)
          obtain ⟨i9, X9⟩ := (hHl l9).expH (plainss_EnP _)
          have X9' := X9 (Hz.grow 0) (fun i hi _ => by simp [hi])
          have y9 := LN.fl l9
          have Z9 := fun c => X9 ((Hz.grow 0).put 0 (.box c)) (fun i hi hx => putz Rz hi hx)
          simp only [he]
          by_cases hRR : frameR ⟨n, (rText 6 q1).1, (rText 6 (rText 6 q1).2).1, hd.1, hd.2.1, hd.2.2.1, hd.2.2.2.1, hd.2.2.2.2, z, l, wh, []⟩ = true
          · have hF1 : rFrame b = (⟨n, (rText 6 q1).1, (rText 6 (rText 6 q1).2).1, hd.1, hd.2.1, hd.2.2.1, hd.2.2.2.1, hd.2.2.2.2, z, l, wh, []⟩, 0) := by
              rw [hF0]
              unfold rFin
              rw [if_neg (by simp [hb9.1]), if_neg (by simp [hb9.2]), if_pos hRR]
            rw [hF1]
            rw [hRR] at hR
            try simp [fP, lv, lvP, hst0] at hR
            simp [-Evl.expC, -Evl.cellP, fls, fli, flb, flm, ezs, ezi, ezb, ezm, X3', X5', X7', X9', y3, y5, y7, y9, Z3, Z5, Z7, Z9, Fz, Tz, nz, hR, z0, z1, z4, Rz, resV, resP, hst0]
            try done
          · have hF1 : rFrame b = (frame0, 3) := by
              rw [hF0]
              unfold rFin
              rw [if_neg (by simp [hb9.1]), if_neg (by simp [hb9.2]), if_neg hRR]
            rw [hF1]
            simp only [hRR] at hR
            try simp [fP, lv, lvP, hst0] at hR
            simp [-Evl.expC, ezs, ezi, ezb, ezm, X3', X5', X7', X9', y3, y5, y7, y9, Z3, Z5, Z7, Z9, Fz, Tz, nz, hR, z0, z1, z4, Rz, frame0, resV, resP, hst0]
        · have hF1 : rFrame b = (frame0, rEnd q9) := by
            rw [hF0]
            unfold rFin
            by_cases hb9 : q9.bad = 0
            · rw [if_neg (by simp [hb9])]
              by_cases hs9 : q9.s = []
              · exfalso
                apply he
                simp [rEnd, hb9, hs9]
              · rw [if_pos (by simpa using hs9)]
                simp [rEnd, hb9, hs9]
            · rw [if_pos (by simpa using hb9)]
              simp [rEnd, hb9]
          rw [hF1]
          simp [he, Tz, z1]
          refine VA_inl (g := 47) (caps := []) rfl rfl ?_
          try simp
          refine wend_IC T (cz.grow (m := 0)).tk.S fun Hy wly sy oy wy => ?_
          have cy := (cz.grow (m := 0)).oth oy sy
          have Ry := cy.R
          have ny := cy.hn
          have y0 : 0 < Hy.n := by omega
          simp [Ry, y0, frame0, resV, resP, hst0]
end Go.Evl.Zone

namespace Go.Evl.Zone
open Go Go.Evl
variable {P : Program}
open Go.Evl.Fl
set_option maxHeartbeats 4000000 in
theorem framePut_ans (T : TI P) {f : Frame} (F : FOK f) (hr : frameR f = true) : ans (env P) 9 [.agg (fP f)] = some (lv (pFrame f)) := by
  have T1 := T.toTyped3.toTyped2.toTyped
  have hR := frameRight_ans (P := P) F
  rw [hr] at hR
  have hr0 := hr
  simp only [frameR, Bool.and_eq_true] at hr
  obtain ⟨⟨r1, r2⟩, r3⟩ := hr
  have i1 := idR_len r1
  have i2 := idR_len r2
  have v1 := vL_len (n := f.from_.length) (by unfold most; omega)
  have v2 := vL_len (n := f.to.length) (by unfold most; omega)
  have hM : most = 68719476736 := rfl
  have b0 := vI_len' (n := 0) (by omega)
  have b1 := vI_len' (n := 1) (by omega)
  have b2 := vI_len' (n := 2) (by omega)
  have b3 := vI_len' (n := 3) (by omega)
  refine ans_V rfl rfl ?_
  by_cases hk : f.kind = 3
  · simp only [fP, hk] at hR
    obtain ⟨D1, eD1⟩ : ∃ x, x = ([] : Bytes) ++ vI 3 := ⟨_, rfl⟩
    have lD1 := congrArg List.length eD1
    simp only [List.length_append, ptext_len] at lD1
    have kD1 := wputI (P := P) T1 (b := []) (n := 3) (okN_of (by omega)) (by simp; omega)
    rw [← eD1] at kD1
    simp only [List.length_nil, List.nil_append, lv, En_nil] at lD1 eD1 kD1
    obtain ⟨D2, eD2⟩ : ∃ x, x = D1 ++ ptext f.from_ := ⟨_, rfl⟩
    have lD2 := congrArg List.length eD2
    simp only [List.length_append, ptext_len] at lD2
    have kD2 := putId_ans (P := P) T1 (b := D1) (s := f.from_) (by omega)
    rw [← eD2] at kD2
    obtain ⟨D3, eD3⟩ : ∃ x, x = D2 ++ ptext f.to := ⟨_, rfl⟩
    have lD3 := congrArg List.length eD3
    simp only [List.length_append, ptext_len] at lD3
    have kD3 := putId_ans (P := P) T1 (b := D2) (s := f.to) (by omega)
    rw [← eD3] at kD3
    simp only [hk] at r3
    simp at r3
    obtain ⟨fv1, fv2, fv3⟩ := vec_facts r3.2
    have kD4 := pputVec_ans (P := P) T1 (b := D3) (v := f.floor) fv2 F.floor (by omega)
    simp [c9, hR, hk, kD1, kD2, kD3, kD4]
    simp [pFrame, hk, eD1, eD2, eD3, plainss_En]
  by_cases hk' : f.kind = 1
  · have hk := hk'
    simp only [fP, hk] at hR
    obtain ⟨D1, eD1⟩ : ∃ x, x = ([] : Bytes) ++ vI 1 := ⟨_, rfl⟩
    have lD1 := congrArg List.length eD1
    simp only [List.length_append, ptext_len] at lD1
    have kD1 := wputI (P := P) T1 (b := []) (n := 1) (okN_of (by omega)) (by simp; omega)
    rw [← eD1] at kD1
    simp only [List.length_nil, List.nil_append, lv, En_nil] at lD1 eD1 kD1
    obtain ⟨D2, eD2⟩ : ∃ x, x = D1 ++ ptext f.from_ := ⟨_, rfl⟩
    have lD2 := congrArg List.length eD2
    simp only [List.length_append, ptext_len] at lD2
    have kD2 := putId_ans (P := P) T1 (b := D1) (s := f.from_) (by omega)
    rw [← eD2] at kD2
    obtain ⟨D3, eD3⟩ : ∃ x, x = D2 ++ ptext f.to := ⟨_, rfl⟩
    have lD3 := congrArg List.length eD3
    simp only [List.length_append, ptext_len] at lD3
    have kD3 := putId_ans (P := P) T1 (b := D2) (s := f.to) (by omega)
    rw [← eD3] at kD3
    simp only [hk] at r3
    simp at r3
    have r3L := r3.1.1
    simp only [listsR, Bool.and_eq_true, decide_eq_true_eq] at r3L
    obtain ⟨⟨⟨⟨⟨⟨⟨⟨q1, q2⟩, q3⟩, q4⟩, q5⟩, q6⟩, q7⟩, q8⟩, q9⟩ := r3L
    obtain ⟨fk1, fk2⟩ := know_facts q2 q1
    obtain ⟨fm1, fm2⟩ := mem_facts q5
    obtain ⟨fv1, fv2, fv3⟩ := vec_facts q6
    obtain ⟨fr1, fr2, fr3⟩ := rows_facts q7
    obtain ⟨fi1, fi2, fi3⟩ := items_facts q8
    have vc := vI_len' (n := f.clock) ⟨q3, q4⟩
    have vi := vL_len (n := f.items.length) (by unfold most; omega)
    obtain ⟨D4, eD4⟩ : ∃ x, x = D3 ++ pKnow f.know := ⟨_, rfl⟩
    have lD4 := congrArg List.length eD4
    simp only [List.length_append, ptext_len] at lD4
    have kD4 := pputKnow_ans (P := P) T1 (b := D3) (v := f.know) fk1 F.know (by omega)
    rw [← eD4] at kD4
    obtain ⟨D5, eD5⟩ : ∃ x, x = D4 ++ vI f.clock := ⟨_, rfl⟩
    have lD5 := congrArg List.length eD5
    simp only [List.length_append, ptext_len] at lD5
    have kD5 := wputI (P := P) T1 (b := D4) (n := f.clock) (okN_of ⟨q3, q4⟩) (by omega)
    rw [← eD5] at kD5
    obtain ⟨D6, eD6⟩ : ∃ x, x = D5 ++ pMem f.members ++ pVec f.certs ++ pRows f.rows := ⟨_, rfl⟩
    have lD6 := congrArg List.length eD6
    simp only [List.length_append] at lD6
    have kD6 := pputRows_ans (P := P) T1 (b := D5) (f := f) fv2 fr2 F.mem F.certs F.rows (by omega)
    rw [← eD6] at kD6
    simp only [fP, hk] at kD6
    have hZ := text_ans (P := P) T1 (l := toSI f.zone) (toSI_ok F.zin)
    rw [if_pos r3.1.2, toSI_rs] at hZ
    have lz := zone_len r3.1.2
    have vz := vL_len (n := (textL f.zone).length) (by unfold most; omega)
    obtain ⟨D7, eD7⟩ : ∃ x, x = D6 ++ ptext (textL f.zone) := ⟨_, rfl⟩
    have lD7 := congrArg List.length eD7
    simp only [List.length_append, ptext_len] at lD7
    have kD7 := wputText_ans (P := P) T1 (b := D6) (s := textL f.zone) (by omega)
    rw [← eD7] at kD7
    obtain ⟨D8, eD8⟩ : ∃ x, x = D7 ++ vint f.items.length := ⟨_, rfl⟩
    have lD8 := congrArg List.length eD8
    simp only [List.length_append, ptext_len] at lD8
    have kD8 := wputL (P := P) T1 (b := D7) (n := f.items.length) F.items (by omega)
    rw [← eD8] at kD8
    simp [c9, hR, hk, kD1, kD2, kD3, kD4, kD5, kD6, hZ, kD7, kD8]
    refine ppI_loop (f := f) T fi2 F.items f.items 0 D8 _ rfl (by omega) ⟨0, by simp, by simp [hk], by simp⟩ (by simp) (by simp) (by simp) (by simp) (by omega) ?_
    rintro st' ⟨p, hb, hp, hpn⟩ ha
    simp [hb, hp, hpn, ha, hk]
    simp [pFrame, hk, eD1, eD2, eD3, eD4, eD5, eD6, eD7, eD8, plainss_En]
  by_cases hk2 : f.kind = 2
  · have hk := hk2
    simp only [fP, hk] at hR
    obtain ⟨D1, eD1⟩ : ∃ x, x = ([] : Bytes) ++ vI 2 := ⟨_, rfl⟩
    have lD1 := congrArg List.length eD1
    simp only [List.length_append, ptext_len] at lD1
    have kD1 := wputI (P := P) T1 (b := []) (n := 2) (okN_of (by omega)) (by simp; omega)
    rw [← eD1] at kD1
    simp only [List.length_nil, List.nil_append, lv, En_nil] at lD1 eD1 kD1
    obtain ⟨D2, eD2⟩ : ∃ x, x = D1 ++ ptext f.from_ := ⟨_, rfl⟩
    have lD2 := congrArg List.length eD2
    simp only [List.length_append, ptext_len] at lD2
    have kD2 := putId_ans (P := P) T1 (b := D1) (s := f.from_) (by omega)
    rw [← eD2] at kD2
    obtain ⟨D3, eD3⟩ : ∃ x, x = D2 ++ ptext f.to := ⟨_, rfl⟩
    have lD3 := congrArg List.length eD3
    simp only [List.length_append, ptext_len] at lD3
    have kD3 := putId_ans (P := P) T1 (b := D2) (s := f.to) (by omega)
    rw [← eD3] at kD3
    simp only [hk] at r3
    simp at r3
    have r3L := r3.1
    simp only [listsR, Bool.and_eq_true, decide_eq_true_eq] at r3L
    obtain ⟨⟨⟨⟨⟨⟨⟨⟨q1, q2⟩, q3⟩, q4⟩, q5⟩, q6⟩, q7⟩, q8⟩, q9⟩ := r3L
    obtain ⟨fk1, fk2⟩ := know_facts q2 q1
    obtain ⟨fm1, fm2⟩ := mem_facts q5
    obtain ⟨fv1, fv2, fv3⟩ := vec_facts q6
    obtain ⟨fr1, fr2, fr3⟩ := rows_facts q7
    obtain ⟨fi1, fi2, fi3⟩ := items_facts q8
    have vc := vI_len' (n := f.clock) ⟨q3, q4⟩
    have vi := vL_len (n := f.items.length) (by unfold most; omega)
    obtain ⟨D4, eD4⟩ : ∃ x, x = D3 ++ pKnow f.know := ⟨_, rfl⟩
    have lD4 := congrArg List.length eD4
    simp only [List.length_append, ptext_len] at lD4
    have kD4 := pputKnow_ans (P := P) T1 (b := D3) (v := f.know) fk1 F.know (by omega)
    rw [← eD4] at kD4
    obtain ⟨D5, eD5⟩ : ∃ x, x = D4 ++ vI f.clock := ⟨_, rfl⟩
    have lD5 := congrArg List.length eD5
    simp only [List.length_append, ptext_len] at lD5
    have kD5 := wputI (P := P) T1 (b := D4) (n := f.clock) (okN_of ⟨q3, q4⟩) (by omega)
    rw [← eD5] at kD5
    obtain ⟨D6, eD6⟩ : ∃ x, x = D5 ++ pMem f.members ++ pVec f.certs ++ pRows f.rows := ⟨_, rfl⟩
    have lD6 := congrArg List.length eD6
    simp only [List.length_append] at lD6
    have kD6 := pputRows_ans (P := P) T1 (b := D5) (f := f) fv2 fr2 F.mem F.certs F.rows (by omega)
    rw [← eD6] at kD6
    simp only [fP, hk] at kD6
    obtain ⟨D8, eD8⟩ : ∃ x, x = D6 ++ vint f.items.length := ⟨_, rfl⟩
    have lD8 := congrArg List.length eD8
    simp only [List.length_append, ptext_len] at lD8
    have kD8 := wputL (P := P) T1 (b := D6) (n := f.items.length) F.items (by omega)
    rw [← eD8] at kD8
    simp [c9, hR, hk, kD1, kD2, kD3, kD4, kD5, kD6, kD8]
    refine ppI_loop (f := f) T fi2 F.items f.items 0 D8 _ rfl (by omega) ⟨0, by simp, by simp [hk], by simp⟩ (by simp) (by simp) (by simp) (by simp) (by omega) ?_
    rintro st' ⟨p, hb, hp, hpn⟩ ha
    have k9 := wputI (P := P) T1 (b := D8 ++ (f.items.map pItem).flatten) (n := 1) (okN_of (by omega)) (by simp only [List.length_append]; omega)
    have k10 := wputI (P := P) T1 (b := D8 ++ (f.items.map pItem).flatten) (n := 0) (okN_of (by omega)) (by simp only [List.length_append]; omega)
    obtain ⟨D9, eD9⟩ : ∃ x, x = D8 ++ (f.items.map pItem).flatten := ⟨_, rfl⟩
    rw [← eD9] at k9 k10 ha
    by_cases hw : f.whole = true
    · simp [hb, hp, hpn, ha, hk, hw, k9]
      simp [pFrame, hk, hw, eD1, eD2, eD3, eD4, eD5, eD6, eD8, eD9, plainss_En]
    · simp only [Bool.not_eq_true] at hw
      simp [hb, hp, hpn, ha, hk, hw, k10]
      simp [pFrame, hk, hw, eD1, eD2, eD3, eD4, eD5, eD6, eD8, eD9, plainss_En]
  · simp [hk, hk', hk2] at r3
end Go.Evl.Zone

namespace Go.Evl.Zone
open Go Go.Evl
variable {P : Program}
open Go.Evl.Fl
end Go.Evl.Zone

namespace Go.Evl.Zone
open Go Go.Evl
variable {P : Program}
open Go.Evl.Fl
end Go.Evl.Zone

namespace Go.Evl.Zone
open Go Go.Evl
variable {P : Program}
open Go.Evl.Fl
theorem from1_loop  {v : List Bytes} {ks : List Fr'} {K : Ex → St → Prop} (hL : v.length ≤ most) : ∀ (rest : List Bytes) (i : Nat) (st : St) (a : PV), v.drop i = rest → i ≤ v.length → st.σ 0 = lv v → st.σ 4 = iv i → st.σ 3 = a → Lst st.h 1 a (En (v.take i)) →
    (∀ st' a, st'.σ 3 = a → Lst st'.h 1 a (En v) → VN (env P) 67 st' ks K) → V (env P) 67 (.loop L67_0) st (.blk 0 :: ks) K
  | [], i, st, a, hr, hile, h0, hi, ha, hl, hend => by
    obtain ⟨hii, hlt, hd⟩ := drop_nil hr hile
    rw [hd] at hl
    rw [V_loop]
    simp [L67_0, h0, hi, hlt]
    exact hend _ a (by simp [ha]) (by simpa using hl.grow)
  | q :: rest, i, st, a, hr, hile, h0, hi, ha, hl, hend => by
    obtain ⟨hq, hlt, hr', ht⟩ := drop_cons hr
    have hmq := List.mem_of_getElem? hq
    have hc := En_at hq
    have hw := wrapS (i := i) (by unfold most at hL; omega)
    rw [V_loop]
    simp [L67_0, h0, hi, hlt, hc, hw, ha, chunks, elems, allLen]
    refine VP_app (ys := En (v.take i)) (by repeat (first | exact hl | refine Lst.grow ?_ | refine Lst.putN ?_ (by simp))) (by simp) (by simp) rfl (by simp; omega) fun v' H' wr rd e2 e3 _ => ?_
    simp [h0, hi, hw, e3]
    refine from1_loop hL rest (i + 1) _ v' hr' (by omega) (by simp [h0]) (by simp) (by simp) ?_ hend
    rw [ht, En_append]
    exact e2.grow
theorem from1_ans  {v : List Bytes} (hL : v.length ≤ most) : ans (env P) 67 [lv v] = some (.im (En v) false) := by
  refine ans_V rfl rfl ?_
  simp [c67]
  refine from1_loop hL v 0 _ _ rfl (by omega) (by simp) (by simp) rfl (by simp; exact Lst.nil) ?_
  intro st' a h3 hl
  simp [h3]
  exact (hl.grow (m := 0)).expV (plainss_En _)
theorem from3_loop  {v : List At} {ks : List Fr'} {K : Ex → St → Prop} (hL : v.length ≤ most) : ∀ (rest : List At) (i : Nat) (st : St) (a : PV), v.drop i = rest → i ≤ v.length → st.σ 0 = lv v → st.σ 4 = iv i → st.σ 3 = a → Lst st.h 2 a (En (v.take i)) →
    (∀ st' a, st'.σ 3 = a → Lst st'.h 2 a (En v) → VN (env P) 68 st' ks K) → V (env P) 68 (.loop L68_0) st (.blk 0 :: ks) K
  | [], i, st, a, hr, hile, h0, hi, ha, hl, hend => by
    obtain ⟨hii, hlt, hd⟩ := drop_nil hr hile
    rw [hd] at hl
    rw [V_loop]
    simp [L68_0, h0, hi, hlt]
    exact hend _ a (by simp [ha]) (by simpa using hl.grow)
  | q :: rest, i, st, a, hr, hile, h0, hi, ha, hl, hend => by
    obtain ⟨hq, hlt, hr', ht⟩ := drop_cons hr
    have hmq := List.mem_of_getElem? hq
    have hc := En_at hq
    have hw := wrapS (i := i) (by unfold most at hL; omega)
    rw [V_loop]
    simp [L68_0, h0, hi, hlt, hc, hw, ha, chunks, elems, allLen]
    refine VP_app (ys := En (v.take i)) (by repeat (first | exact hl | refine Lst.grow ?_ | refine Lst.putN ?_ (by simp))) (by simp) (by simp) rfl (by simp; omega) fun v' H' wr rd e2 e3 _ => ?_
    simp [h0, hi, hw, e3]
    refine from3_loop hL rest (i + 1) _ v' hr' (by omega) (by simp [h0]) (by simp) (by simp) ?_ hend
    rw [ht, En_append]
    exact e2.grow
theorem from3_ans  {v : List At} (hL : v.length ≤ most) : ans (env P) 68 [lv v] = some (.im (En v) false) := by
  refine ans_V rfl rfl ?_
  simp [c68]
  refine from3_loop hL v 0 _ _ rfl (by omega) (by simp) (by simp) rfl (by simp; exact Lst.nil) ?_
  intro st' a h3 hl
  simp [h3]
  exact (hl.grow (m := 0)).expV (plainss_En _)
theorem from2_ans {u : Int} {l : List Int} (hL : l.length ≤ most) : ans (env P) 125 [.agg [iv u, lv l]] = some (.agg [iv u, lv l]) := by
  refine ans_V rfl rfl ?_
  simp [c125, chunks, elems, allLen]
  refine VP_appN (ys := En ([] : List Int)) (N := 2) LN.nil (by simp) (by simp) (by simp) (by simp) (by simp; omega) fun v' H' wr rd e2' e3 e4 _ e6 => ?_
  have e2 := e2'.l
  have w0 : ∀ x ∈ wr, ¬ x = 0 := fun x hx => by have := e6 x hx; omega
  have w1 : ∀ x ∈ wr, ¬ x = 1 := fun x hx => by have := e6 x hx; omega
  have b0 := e4 0
  have b1 := e4 1
  simp at b0 b1
  rw [← En_append, List.nil_append] at e2
  cases e2 with
  | im hv hl =>
    subst hv
    simp [b0, b1, e3]
    try exact w0
  | row r xs hv hb hle he hr hl =>
    subst hv
    have hr1 : ¬ r = 1 := by intro e; subst e; rw [b1] at hb; cases hb
    have hp := plainss_En l
    simp only [En_length] at he hle
    simp [e3] at hr
    simp [b0, b1, e3, hb, hr1, hle, he, hp, hr]
    try exact w0
theorem from4_loop  {v : List KRow} (he : ∀ r ∈ v, r.extra.length ≤ most) {ks : List Fr'} {K : Ex → St → Prop} (hL : v.length ≤ most) : ∀ (rest : List KRow) (i : Nat) (st : St) (a : PV), v.drop i = rest → i ≤ v.length → st.σ 0 = lv v → st.σ 4 = iv i → st.σ 3 = a → Lst st.h 3 a (En (v.take i)) →
    (∀ st' a, st'.σ 3 = a → Lst st'.h 3 a (En v) → VN (env P) 66 st' ks K) → V (env P) 66 (.loop L66_0) st (.blk 0 :: ks) K
  | [], i, st, a, hr, hile, h0, hi, ha, hl, hend => by
    obtain ⟨hii, hlt, hd⟩ := drop_nil hr hile
    rw [hd] at hl
    rw [V_loop]
    simp [L66_0, h0, hi, hlt]
    exact hend _ a (by simp [ha]) (by simpa using hl.grow)
  | q :: rest, i, st, a, hr, hile, h0, hi, ha, hl, hend => by
    obtain ⟨hq, hlt, hr', ht⟩ := drop_cons hr
    have hmq := List.mem_of_getElem? hq
    have hc := En_at hq
    have hw := wrapS (i := i) (by unfold most at hL; omega)
    have hS := from2_ans (P := P) (u := q.upto) (l := q.extra) (he q hmq)
    rw [V_loop]
    simp [L66_0, h0, hi, hlt, hc, hw, ha, hS, chunks, elems, allLen]
    refine VP_app (ys := En (v.take i)) (by repeat (first | exact hl | refine Lst.grow ?_ | refine Lst.putN ?_ (by simp))) (by simp) (by simp) rfl (by simp; omega) fun v' H' wr rd e2 e3 _ => ?_
    simp [h0, hi, hw, e3]
    refine from4_loop he hL rest (i + 1) _ v' hr' (by omega) (by simp [h0]) (by simp) (by simp) ?_ hend
    rw [ht, En_append]
    exact e2.grow
theorem from4_ans  {v : List KRow} (he : ∀ r ∈ v, r.extra.length ≤ most) (hL : v.length ≤ most) : ans (env P) 66 [lv v] = some (.im (En v) false) := by
  refine ans_V rfl rfl ?_
  simp [c66]
  refine from4_loop he hL v 0 _ _ rfl (by omega) (by simp) (by simp) rfl (by simp; exact Lst.nil) ?_
  intro st' a h3 hl
  simp [h3]
  exact (hl.grow (m := 0)).expV (plainss_En _)
theorem from10_loop  {v : List MRow} (he : ∀ r ∈ v, r.vec.length ≤ most) {ks : List Fr'} {K : Ex → St → Prop} (hL : v.length ≤ most) : ∀ (rest : List MRow) (i : Nat) (st : St) (a : PV), v.drop i = rest → i ≤ v.length → st.σ 0 = lv v → st.σ 4 = iv i → st.σ 3 = a → Lst st.h 2 a (En (v.take i)) →
    (∀ st' a, st'.σ 3 = a → Lst st'.h 2 a (En v) → VN (env P) 69 st' ks K) → V (env P) 69 (.loop L69_0) st (.blk 0 :: ks) K
  | [], i, st, a, hr, hile, h0, hi, ha, hl, hend => by
    obtain ⟨hii, hlt, hd⟩ := drop_nil hr hile
    rw [hd] at hl
    rw [V_loop]
    simp [L69_0, h0, hi, hlt]
    exact hend _ a (by simp [ha]) (by simpa using hl.grow)
  | q :: rest, i, st, a, hr, hile, h0, hi, ha, hl, hend => by
    obtain ⟨hq, hlt, hr', ht⟩ := drop_cons hr
    have hmq := List.mem_of_getElem? hq
    have hc := En_at hq
    have hw := wrapS (i := i) (by unfold most at hL; omega)
    have hS := from3_ans (P := P) (v := q.vec) (he q hmq)
    rw [V_loop]
    simp [L69_0, h0, hi, hlt, hc, hw, ha, hS, chunks, elems, allLen]
    refine VP_app (ys := En (v.take i)) (by repeat (first | exact hl | refine Lst.grow ?_ | refine Lst.putN ?_ (by simp))) (by simp) (by simp) rfl (by simp; omega) fun v' H' wr rd e2 e3 _ => ?_
    simp [h0, hi, hw, e3]
    refine from10_loop he hL rest (i + 1) _ v' hr' (by omega) (by simp [h0]) (by simp) (by simp) ?_ hend
    rw [ht, En_append]
    exact e2.grow
theorem from10_ans  {v : List MRow} (he : ∀ r ∈ v, r.vec.length ≤ most) (hL : v.length ≤ most) : ans (env P) 69 [lv v] = some (.im (En v) false) := by
  refine ans_V rfl rfl ?_
  simp [c69]
  refine from10_loop he hL v 0 _ _ rfl (by omega) (by simp) (by simp) rfl (by simp; exact Lst.nil) ?_
  intro st' a h3 hl
  simp [h3]
  exact (hl.grow (m := 0)).expV (plainss_En _)
theorem place7_ans (T : TI P) {q : Item} (hs : q.sm) : ans (env P) 126 [cw q.x q.y] = some (.agg [iv q.x, iv q.y]) := by
  have h1 := hs.1
  have h2 := hs.2
  unfold smI at h1 h2
  exact place_ans (P := P) T.toTyped3.toTyped2.toTyped T.t33 (sm_is hs.1) (sm_is hs.2) (by omega) (by omega)
theorem from7_ans (T : TI P) {q : Item} (hs : q.sm) : ans (env P) 127 [.agg (itP q)] = some (.agg (itR q)) := by
  refine ans_V rfl rfl ?_
  have hS := place7_ans (P := P) T (q := q) hs
  simp only [cw] at hS
  simp [c127, hS]
  repeat' (first
    | (refine VG_sp (fun h => ?_) (fun h => ?_) <;> simp [h, hS])
    | (refine VB_sp (fun h => ?_) (fun h => ?_) <;> simp [h, hS]))
  skip
theorem from8_loop  {v : List Item} (T : TI P) (hs : ∀ q ∈ v, q.sm) {ks : List Fr'} {K : Ex → St → Prop} (hL : v.length ≤ most) : ∀ (rest : List Item) (i : Nat) (st : St) (a : PV), v.drop i = rest → i ≤ v.length → st.σ 0 = lvP v → st.σ 4 = iv i → st.σ 3 = a → Lst st.h 9 a (EnR (v.take i)) →
    (∀ st' a, st'.σ 3 = a → Lst st'.h 9 a (EnR v) → VN (env P) 71 st' ks K) → V (env P) 71 (.loop L71_0) st (.blk 0 :: ks) K
  | [], i, st, a, hr, hile, h0, hi, ha, hl, hend => by
    obtain ⟨hii, hlt, hd⟩ := drop_nil hr hile
    rw [hd] at hl
    rw [V_loop]
    simp [L71_0, h0, hi, hlt]
    exact hend _ a (by simp [ha]) (by simpa using hl.grow)
  | q :: rest, i, st, a, hr, hile, h0, hi, ha, hl, hend => by
    obtain ⟨hq, hlt, hr', ht⟩ := drop_cons hr
    have hmq := List.mem_of_getElem? hq
    have hc := EnP_at hq
    have hw := wrapS (i := i) (by unfold most at hL; omega)
    have hS := from7_ans (P := P) T (q := q) (hs q hmq)
    rw [V_loop]
    simp [L71_0, h0, hi, hlt, hc, hw, ha, hS, chunks, elems, allLen]
    refine VP_app (ys := EnR (v.take i)) (by repeat (first | exact hl | refine Lst.grow ?_ | refine Lst.putN ?_ (by simp))) (by simp) (by simp) rfl (by simp; omega) fun v' H' wr rd e2 e3 _ => ?_
    simp [h0, hi, hw, e3]
    refine from8_loop T hs hL rest (i + 1) _ v' hr' (by omega) (by simp [h0]) (by simp) (by simp) ?_ hend
    rw [ht, EnR_append]
    exact e2.grow
theorem from8_ans  {v : List Item} (T : TI P) (hs : ∀ q ∈ v, q.sm) (hL : v.length ≤ most) : ans (env P) 71 [lvP v] = some (.im (EnR v) false) := by
  refine ans_V rfl rfl ?_
  simp [c71]
  refine from8_loop T hs hL v 0 _ _ rfl (by omega) (by simp) (by simp) rfl (by simp; exact Lst.nil) ?_
  intro st' a h3 hl
  simp [h3]
  exact (hl.grow (m := 0)).expV (plainss_EnR _)
theorem from5_ans (T : TI P) {l : List RS} (hl : l.length ≤ most) (hs : ∀ q ∈ l, q.sm) : ans (env P) 70 [.im (stepsV (toSI l)) false] = some (.im (rsV l) false) := by
  have hid : (toSI l).map (fun q => (⟨q.op, q.x, q.y, q.s⟩ : RS)) = l := by
    simp only [toSI, List.map_map]
    have : ((fun q : SI => (⟨q.op, q.x, q.y, q.s⟩ : RS)) ∘ RS.si) = id := rfl
    try rw [this]
    try simp
    try rfl
  have := from_ans (P := P) T.toTyped3.toTyped2.toTyped T.t33 (l := toSI l) (by
    intro q hq
    simp [toSI] at hq
    obtain ⟨a, ha, rfl⟩ := hq
    have := hs a ha
    exact ⟨sm_is this.1, sm_is this.2.1, sm_is this.2.2⟩) (by
    intro q hq
    simp [toSI] at hq
    obtain ⟨a, ha, rfl⟩ := hq
    have h1 := (hs a ha).1
    have h2 := (hs a ha).2.1
    have h3 := (hs a ha).2.2
    unfold smI at h1 h2 h3
    have e1 : a.si.x = a.x := rfl
    have e2 : a.si.y = a.y := rfl
    have e3 : a.si.s = a.s := rfl
    intro z hz
    simp only [List.mem_cons, List.not_mem_nil, or_false, e1, e2, e3] at hz
    rcases hz with rfl | rfl | rfl <;> omega) (by simpa [toSI] using hl)
  rw [hid] at this
  exact this
theorem from12_ans (T : TI P) {f : Frame} (F : FOK f) : ans (env P) 16 [.agg (fP f)] = some (.agg (fR f)) := by
  have k1 := from4_ans (P := P) (v := f.know) F.ext F.know
  have k2 := from1_ans (P := P) (v := f.members) F.mem
  have k3 := from3_ans (P := P) (v := f.certs) F.certs
  have k4 := from10_ans (P := P) (v := f.rows) F.rvec F.rows
  have k5 := from5_ans (P := P) T (l := f.zone) F.zone F.zin
  have k6 := from8_ans (P := P) (v := f.items) T F.ism F.items
  have k7 := from3_ans (P := P) (v := f.floor) F.floor
  refine ans_V rfl rfl ?_
  simp [c16, k1, k2, k3, k4, k5, k6, k7]
end Go.Evl.Zone

namespace Go.Evl.Zone
open Go Go.Evl Go.Evl.Fl
variable {P : Program}
theorem ba_beq (a b : Bytes) : ((⟨a.toArray⟩ : ByteArray) == ⟨b.toArray⟩) = decide (a = b) := by
  have : ((⟨a.toArray⟩ : ByteArray) == ⟨b.toArray⟩) = (a.toArray == b.toArray) := rfl
  rw [this, Bool.eq_iff_iff]
  simp
theorem at2_neq {t ts : TypeId} (hS : Sty P t [(ts, 0), (3, 1)]) (h9 : P.underlying ts = some .string) (h3 : P.underlying 3 = some (.int .i64)) {cx cy : Bool} (a b : At) : evBin P .neq t cx cy (.agg [sv a.id, iv a.n]) (.agg [sv b.id, iv b.n]) = some (bv (decide (a ≠ b))) := by
  have h := (sty_eql (cx := cx) (cy := cy) (xs := [sv a.id, iv a.n]) (ys := [sv b.id, iv b.n]) (vs := [.string ⟨a.id.toArray⟩, .int .i64 a.n]) (us := [.string ⟨b.id.toArray⟩, .int .i64 b.n]) hS (fun p => if p.2 = 0 then (⟨a.id.toArray⟩ : ByteArray) == ⟨b.id.toArray⟩ else a.n == b.n) rfl rfl (by
    intro p hp
    simp only [List.mem_cons, List.not_mem_nil, or_false] at hp
    rcases hp with rfl | rfl
    · exact ⟨_, _, pureRun_part h9 rfl rfl, pureRun_part h9 rfl rfl, pureRun_equal_string h9⟩
    · exact ⟨_, _, pureRun_part h3 rfl rfl, pureRun_part h3 rfl rfl, pureRun_equal_int h3⟩)).2
  rw [h]
  congr 3
  obtain ⟨a1, a2⟩ := a
  obtain ⟨b1, b2⟩ := b
  rw [Bool.eq_iff_iff]
  simp [ba_beq]
theorem at_neq (T : TI P) {cx cy : Bool} (a b : At) : evBin P .neq 147 cx cy (.agg [sv a.id, iv a.n]) (.agg [sv b.id, iv b.n]) = some (bv (decide (a ≠ b))) := at2_neq T.rat T.t9 T.t3 a b
theorem ver2_eq {t ts : TypeId} (hS : Sty P t [(ts, 0), (3, 1), (3, 2)]) (h9 : P.underlying ts = some .string) (h3 : P.underlying 3 = some (.int .i64)) (d : Nat) (a b : Item) : pureRun P (Op.equalIn (d + 2) t (.agg #[.string ⟨a.id.toArray⟩, .int .i64 a.seq, .int .i64 a.stamp]) (.agg #[.string ⟨b.id.toArray⟩, .int .i64 b.seq, .int .i64 b.stamp])) = some (decide (a.id = b.id ∧ a.seq = b.seq ∧ a.stamp = b.stamp)) := by
  have := sty_equal (d := d + 1) (xs := #[.string ⟨a.id.toArray⟩, .int .i64 a.seq, .int .i64 a.stamp]) (ys := #[.string ⟨b.id.toArray⟩, .int .i64 b.seq, .int .i64 b.stamp]) hS (fun p => if p.2 = 0 then (⟨a.id.toArray⟩ : ByteArray) == ⟨b.id.toArray⟩ else if p.2 = 1 then a.seq == b.seq else a.stamp == b.stamp) (by
    intro p hp
    simp only [List.mem_cons, List.not_mem_nil, or_false] at hp
    rcases hp with rfl | rfl | rfl
    · exact ⟨_, _, pureRun_part h9 rfl rfl, pureRun_part h9 rfl rfl, pureRun_equal_string h9⟩
    · exact ⟨_, _, pureRun_part h3 rfl rfl, pureRun_part h3 rfl rfl, pureRun_equal_int h3⟩
    · exact ⟨_, _, pureRun_part h3 rfl rfl, pureRun_part h3 rfl rfl, pureRun_equal_int h3⟩)
  rw [this]
  congr 1
  rw [Bool.eq_iff_iff]
  simp [ba_beq]
theorem place2_eq (T : TI P) (d : Nat) (a b : Item) : pureRun P (Op.equalIn (d + 2) 71 (.agg #[.int .i64 a.x, .int .i64 a.y]) (.agg #[.int .i64 b.x, .int .i64 b.y])) = some (decide (a.x = b.x ∧ a.y = b.y)) := by
  have h3 := T.t3
  have := sty_equal (d := d + 1) (xs := #[.int .i64 a.x, .int .i64 a.y]) (ys := #[.int .i64 b.x, .int .i64 b.y]) T.place (fun p => if p.2 = 0 then a.x == b.x else a.y == b.y) (by
    intro p hp
    simp only [List.mem_cons, List.not_mem_nil, or_false] at hp
    rcases hp with rfl | rfl
    · exact ⟨_, _, pureRun_part h3 rfl rfl, pureRun_part h3 rfl rfl, pureRun_equal_int h3⟩
    · exact ⟨_, _, pureRun_part h3 rfl rfl, pureRun_part h3 rfl rfl, pureRun_equal_int h3⟩)
  rw [this]
  congr 1
  rw [Bool.eq_iff_iff]
  simp
theorem ritem_neq (T : TI P) {cx cy : Bool} (a b : Item) : evBin P .neq 73 cx cy (.agg (itR a)) (.agg (itR b)) = some (bv (decide (a ≠ b))) := by
  have h3 := T.t3
  have h4 := T.t4
  have h9 := T.t9
  have h := (sty_eql (cx := cx) (cy := cy) (xs := itR a) (ys := itR b) (vs := [.int .i64 a.key, .string ⟨a.id.toArray⟩, .int .i64 a.seq, .int .i64 a.stamp, .bool a.dead, .int .i64 a.x, .int .i64 a.y, .string ⟨a.text.toArray⟩, .bool a.held]) (us := [.int .i64 b.key, .string ⟨b.id.toArray⟩, .int .i64 b.seq, .int .i64 b.stamp, .bool b.dead, .int .i64 b.x, .int .i64 b.y, .string ⟨b.text.toArray⟩, .bool b.held]) T.ritem
    (fun p => if p.2 = 0 then a.key == b.key else if p.2 = 1 then decide (a.id = b.id ∧ a.seq = b.seq ∧ a.stamp = b.stamp) else if p.2 = 4 then a.dead == b.dead else if p.2 = 5 then decide (a.x = b.x ∧ a.y = b.y) else if p.2 = 7 then (⟨a.text.toArray⟩ : ByteArray) == ⟨b.text.toArray⟩ else a.held == b.held) rfl rfl (by
    intro p hp
    simp only [List.mem_cons, List.not_mem_nil, or_false] at hp
    rcases hp with rfl | rfl | rfl | rfl | rfl | rfl
    · exact ⟨_, _, pureRun_part h3 rfl rfl, pureRun_part h3 rfl rfl, pureRun_equal_int h3⟩
    · exact ⟨_, _, sty_part T.rver T.rverS, sty_part T.rver T.rverS, ver2_eq T.rver h9 h3 9997 a b⟩
    · exact ⟨_, _, pureRun_part h4 rfl rfl, pureRun_part h4 rfl rfl, pureRun_equal_bool h4⟩
    · exact ⟨_, _, sty_part T.place T.placeS, sty_part T.place T.placeS, place2_eq T 9997 a b⟩
    · exact ⟨_, _, pureRun_part h9 rfl rfl, pureRun_part h9 rfl rfl, pureRun_equal_string h9⟩
    · exact ⟨_, _, pureRun_part h4 rfl rfl, pureRun_part h4 rfl rfl, pureRun_equal_bool h4⟩)).2
  rw [h]
  congr 3
  obtain ⟨a1, a2, a3, a4, a5, a6, a7, a8, a9⟩ := a
  obtain ⟨b1, b2, b3, b4, b5, b6, b7, b8, b9⟩ := b
  rw [Bool.eq_iff_iff]
  simp [ba_beq, or_assoc]
end Go.Evl.Zone

namespace Go.Evl.Zone
open Go Go.Evl
variable {P : Program}
theorem rsame1_loop  {L M : List Bytes} {ks : List Fr'} {K : Ex → St → Prop} (hlen : L.length = M.length) (hL : L.length ≤ most) : ∀ (rest : List Bytes) (i : Nat) (st : St), L.drop i = rest → i ≤ L.length → L.take i = M.take i → st.σ 0 = lv L → st.σ 1 = lv M → st.σ 5 = iv i →
    (∀ st', L ≠ M → st'.σ 4 = bv false → K .ret st') → (∀ st', L = M → VN (env P) 61 st' ks K) → V (env P) 61 (.loop L61_0) st (.blk 0 :: ks) K
  | [], i, st, hr, hi, hp, h0, h1, h5, hret, hend => by
    obtain ⟨he, hlt, ht⟩ := drop_nil hr hi
    rw [V_loop]
    simp [L61_0, h0, h5, hlt]
    refine hend _ ?_
    rw [ht, he, hlen, List.take_length] at hp
    exact hp
  | q :: rest, i, st, hr, hi, hp, h0, h1, h5, hret, hend => by
    obtain ⟨hq, hlt, hr', ht⟩ := drop_cons hr
    have hmq := List.mem_of_getElem? hq
    have hc := En_at hq
    have hm : M[i]? = some (M[i]'(by omega)) := List.getElem?_eq_getElem (by omega)
    generalize M[i]'(by omega) = m at hm
    have hmm := List.mem_of_getElem? hm
    have hd := En_at hm
    have hltM : i < M.length := by omega
    have hw3 := wrapS (i := i) (by unfold most at hL; omega)
    have key : ∀ st', q = m → st'.σ 0 = lv L → st'.σ 1 = lv M → st'.σ 5 = iv ((i + 1 : Nat) : Int) → V (env P) 61 (.loop L61_0) st' (.blk 0 :: ks) K := fun st' e g0 g1 g5 => by
      refine rsame1_loop hlen hL rest (i + 1) st' hr' (by omega) ?_ g0 g1 g5 hret hend
      rw [ht, List.take_add_one, hm, hp, e]; rfl
    have key2 : q ≠ m → L ≠ M := fun hqm e => by
      rw [e] at hq
      rw [hq] at hm
      exact hqm (Option.some.inj hm)
    rw [V_loop]
    have hn := fun t cx cy => evBin_sneq (P := P) (t := t) (cx := cx) (cy := cy) q m
    simp [L61_0, h0, h1, h5, hlt, hltM, hc, hd, hw3, hn]
    repeat' (first
      | (refine VG_sp (fun h => ?_) (fun h => ?_) <;> simp [h, h0, h1, h5, hlt, hltM, hc, hd, hw3, hn])
      | (refine VB_sp (fun h => ?_) (fun h => ?_) <;> simp [h, h0, h1, h5, hlt, hltM, hc, hd, hw3, hn]))
    all_goals first
      | exact hret _ (key2 (by simp_all)) (by simp)
      | exact key _ (by simp_all) (by simp [h0]) (by simp [h1]) (by simp [h5, hw3])
theorem rsame1_ans  {l m : List Bytes} (hl : l.length ≤ most) : ans (env P) 61 [lv l, lv m] = some (bv (decide (l = m))) := by
  refine ans_V rfl rfl ?_
  by_cases hlen : l.length = m.length
  · have hlen' : (l.length : Int) = (m.length : Int) := by omega
    simp [c61, hlen']
    refine rsame1_loop hlen hl l 0 _ rfl (by omega) rfl (by simp) (by simp) (by simp) ?_ ?_
    · intro st' hne h4; simp [h4, hne]
    · intro st' he; simp [he]
  · have hlen' : ¬ (l.length : Int) = (m.length : Int) := by omega
    have hne : l ≠ m := fun e => hlen (by rw [e])
    simp [c61, hlen', hne]
theorem rsame3_loop  {L M : List At} (T : TI P) {ks : List Fr'} {K : Ex → St → Prop} (hlen : L.length = M.length) (hL : L.length ≤ most) : ∀ (rest : List At) (i : Nat) (st : St), L.drop i = rest → i ≤ L.length → L.take i = M.take i → st.σ 0 = lv L → st.σ 1 = lv M → st.σ 5 = iv i →
    (∀ st', L ≠ M → st'.σ 4 = bv false → K .ret st') → (∀ st', L = M → VN (env P) 62 st' ks K) → V (env P) 62 (.loop L62_0) st (.blk 0 :: ks) K
  | [], i, st, hr, hi, hp, h0, h1, h5, hret, hend => by
    obtain ⟨he, hlt, ht⟩ := drop_nil hr hi
    rw [V_loop]
    simp [L62_0, h0, h5, hlt]
    refine hend _ ?_
    rw [ht, he, hlen, List.take_length] at hp
    exact hp
  | q :: rest, i, st, hr, hi, hp, h0, h1, h5, hret, hend => by
    obtain ⟨hq, hlt, hr', ht⟩ := drop_cons hr
    have hmq := List.mem_of_getElem? hq
    have hc := En_at hq
    have hm : M[i]? = some (M[i]'(by omega)) := List.getElem?_eq_getElem (by omega)
    generalize M[i]'(by omega) = m at hm
    have hmm := List.mem_of_getElem? hm
    have hd := En_at hm
    have hltM : i < M.length := by omega
    have hw3 := wrapS (i := i) (by unfold most at hL; omega)
    have key : ∀ st', q = m → st'.σ 0 = lv L → st'.σ 1 = lv M → st'.σ 5 = iv ((i + 1 : Nat) : Int) → V (env P) 62 (.loop L62_0) st' (.blk 0 :: ks) K := fun st' e g0 g1 g5 => by
      refine rsame3_loop T hlen hL rest (i + 1) st' hr' (by omega) ?_ g0 g1 g5 hret hend
      rw [ht, List.take_add_one, hm, hp, e]; rfl
    have key2 : q ≠ m → L ≠ M := fun hqm e => by
      rw [e] at hq
      rw [hq] at hm
      exact hqm (Option.some.inj hm)
    rw [V_loop]
    have hn := fun cx cy => at_neq T (cx := cx) (cy := cy) q m
    simp [L62_0, h0, h1, h5, hlt, hltM, hc, hd, hw3, hn]
    repeat' (first
      | (refine VG_sp (fun h => ?_) (fun h => ?_) <;> simp [h, h0, h1, h5, hlt, hltM, hc, hd, hw3, hn])
      | (refine VB_sp (fun h => ?_) (fun h => ?_) <;> simp [h, h0, h1, h5, hlt, hltM, hc, hd, hw3, hn]))
    all_goals first
      | exact hret _ (key2 (by simp_all)) (by simp)
      | exact key _ (by simp_all) (by simp [h0]) (by simp [h1]) (by simp [h5, hw3])
theorem rsame3_ans  {l m : List At} (T : TI P) (hl : l.length ≤ most) : ans (env P) 62 [lv l, lv m] = some (bv (decide (l = m))) := by
  refine ans_V rfl rfl ?_
  by_cases hlen : l.length = m.length
  · have hlen' : (l.length : Int) = (m.length : Int) := by omega
    simp [c62, hlen']
    refine rsame3_loop T hlen hl l 0 _ rfl (by omega) rfl (by simp) (by simp) (by simp) ?_ ?_
    · intro st' hne h4; simp [h4, hne]
    · intro st' he; simp [he]
  · have hlen' : ¬ (l.length : Int) = (m.length : Int) := by omega
    have hne : l ≠ m := fun e => hlen (by rw [e])
    simp [c62, hlen', hne]
theorem rsame8_loop  {L M : List Item} (T : TI P) {ks : List Fr'} {K : Ex → St → Prop} (hlen : L.length = M.length) (hL : L.length ≤ most) : ∀ (rest : List Item) (i : Nat) (st : St), L.drop i = rest → i ≤ L.length → L.take i = M.take i → st.σ 0 = lvR L → st.σ 1 = lvR M → st.σ 5 = iv i →
    (∀ st', L ≠ M → st'.σ 4 = bv false → K .ret st') → (∀ st', L = M → VN (env P) 65 st' ks K) → V (env P) 65 (.loop L65_0) st (.blk 0 :: ks) K
  | [], i, st, hr, hi, hp, h0, h1, h5, hret, hend => by
    obtain ⟨he, hlt, ht⟩ := drop_nil hr hi
    rw [V_loop]
    simp [L65_0, h0, h5, hlt]
    refine hend _ ?_
    rw [ht, he, hlen, List.take_length] at hp
    exact hp
  | q :: rest, i, st, hr, hi, hp, h0, h1, h5, hret, hend => by
    obtain ⟨hq, hlt, hr', ht⟩ := drop_cons hr
    have hmq := List.mem_of_getElem? hq
    have hc := EnR_at hq
    have hm : M[i]? = some (M[i]'(by omega)) := List.getElem?_eq_getElem (by omega)
    generalize M[i]'(by omega) = m at hm
    have hmm := List.mem_of_getElem? hm
    have hd := EnR_at hm
    have hltM : i < M.length := by omega
    have hw3 := wrapS (i := i) (by unfold most at hL; omega)
    have key : ∀ st', q = m → st'.σ 0 = lvR L → st'.σ 1 = lvR M → st'.σ 5 = iv ((i + 1 : Nat) : Int) → V (env P) 65 (.loop L65_0) st' (.blk 0 :: ks) K := fun st' e g0 g1 g5 => by
      refine rsame8_loop T hlen hL rest (i + 1) st' hr' (by omega) ?_ g0 g1 g5 hret hend
      rw [ht, List.take_add_one, hm, hp, e]; rfl
    have key2 : q ≠ m → L ≠ M := fun hqm e => by
      rw [e] at hq
      rw [hq] at hm
      exact hqm (Option.some.inj hm)
    rw [V_loop]
    have hn := fun cx cy => ritem_neq T (cx := cx) (cy := cy) q m
    simp [L65_0, h0, h1, h5, hlt, hltM, hc, hd, hw3, hn]
    repeat' (first
      | (refine VG_sp (fun h => ?_) (fun h => ?_) <;> simp [h, h0, h1, h5, hlt, hltM, hc, hd, hw3, hn])
      | (refine VB_sp (fun h => ?_) (fun h => ?_) <;> simp [h, h0, h1, h5, hlt, hltM, hc, hd, hw3, hn]))
    all_goals first
      | exact hret _ (key2 (by simp_all)) (by simp)
      | exact key _ (by simp_all) (by simp [h0]) (by simp [h1]) (by simp [h5, hw3])
theorem rsame8_ans  {l m : List Item} (T : TI P) (hl : l.length ≤ most) : ans (env P) 65 [lvR l, lvR m] = some (bv (decide (l = m))) := by
  refine ans_V rfl rfl ?_
  by_cases hlen : l.length = m.length
  · have hlen' : (l.length : Int) = (m.length : Int) := by omega
    simp [c65, hlen']
    refine rsame8_loop T hlen hl l 0 _ rfl (by omega) rfl (by simp) (by simp) (by simp) ?_ ?_
    · intro st' hne h4; simp [h4, hne]
    · intro st' he; simp [he]
  · have hlen' : ¬ (l.length : Int) = (m.length : Int) := by omega
    have hne : l ≠ m := fun e => hlen (by rw [e])
    simp [c65, hlen', hne]
theorem rsame10_loop  {L M : List MRow} (T : TI P) (hv : ∀ a ∈ L, a.vec.length ≤ most) {ks : List Fr'} {K : Ex → St → Prop} (hlen : L.length = M.length) (hL : L.length ≤ most) : ∀ (rest : List MRow) (i : Nat) (st : St), L.drop i = rest → i ≤ L.length → L.take i = M.take i → st.σ 0 = lv L → st.σ 1 = lv M → st.σ 5 = iv i →
    (∀ st', L ≠ M → st'.σ 4 = bv false → K .ret st') → (∀ st', L = M → VN (env P) 63 st' ks K) → V (env P) 63 (.loop L63_0) st (.blk 0 :: ks) K
  | [], i, st, hr, hi, hp, h0, h1, h5, hret, hend => by
    obtain ⟨he, hlt, ht⟩ := drop_nil hr hi
    rw [V_loop]
    simp [L63_0, h0, h5, hlt]
    refine hend _ ?_
    rw [ht, he, hlen, List.take_length] at hp
    exact hp
  | q :: rest, i, st, hr, hi, hp, h0, h1, h5, hret, hend => by
    obtain ⟨hq, hlt, hr', ht⟩ := drop_cons hr
    have hmq := List.mem_of_getElem? hq
    have hc := En_at hq
    have hm : M[i]? = some (M[i]'(by omega)) := List.getElem?_eq_getElem (by omega)
    generalize M[i]'(by omega) = m at hm
    have hmm := List.mem_of_getElem? hm
    have hd := En_at hm
    have hltM : i < M.length := by omega
    have hw3 := wrapS (i := i) (by unfold most at hL; omega)
    have key : ∀ st', q = m → st'.σ 0 = lv L → st'.σ 1 = lv M → st'.σ 5 = iv ((i + 1 : Nat) : Int) → V (env P) 63 (.loop L63_0) st' (.blk 0 :: ks) K := fun st' e g0 g1 g5 => by
      refine rsame10_loop T hv hlen hL rest (i + 1) st' hr' (by omega) ?_ g0 g1 g5 hret hend
      rw [ht, List.take_add_one, hm, hp, e]; rfl
    have key2 : q ≠ m → L ≠ M := fun hqm e => by
      rw [e] at hq
      rw [hq] at hm
      exact hqm (Option.some.inj hm)
    rw [V_loop]
    have hn := fun t cx cy => evBin_sneq (P := P) (t := t) (cx := cx) (cy := cy) q.id m.id
    have hs := rsame3_ans (P := P) (l := q.vec) (m := m.vec) T (hv q hmq)
    simp [L63_0, h0, h1, h5, hlt, hltM, hc, hd, hw3, hn, hs]
    repeat' (first
      | (refine VG_sp (fun h => ?_) (fun h => ?_) <;> simp [h, h0, h1, h5, hlt, hltM, hc, hd, hw3, hn, hs])
      | (refine VB_sp (fun h => ?_) (fun h => ?_) <;> simp [h, h0, h1, h5, hlt, hltM, hc, hd, hw3, hn, hs]))
    all_goals first
      | exact hret _ (key2 (by intro e; cases q; cases m; simp_all)) (by simp)
      | exact key _ (by cases q; cases m; simp_all) (by simp [h0]) (by simp [h1]) (by simp [h5, hw3])
theorem rsame10_ans  {l m : List MRow} (T : TI P) (hv : ∀ a ∈ l, a.vec.length ≤ most) (hl : l.length ≤ most) : ans (env P) 63 [lv l, lv m] = some (bv (decide (l = m))) := by
  refine ans_V rfl rfl ?_
  by_cases hlen : l.length = m.length
  · have hlen' : (l.length : Int) = (m.length : Int) := by omega
    simp [c63, hlen']
    refine rsame10_loop T hv hlen hl l 0 _ rfl (by omega) rfl (by simp) (by simp) (by simp) ?_ ?_
    · intro st' hne h4; simp [h4, hne]
    · intro st' he; simp [he]
  · have hlen' : ¬ (l.length : Int) = (m.length : Int) := by omega
    have hne : l ≠ m := fun e => hlen (by rw [e])
    simp [c63, hlen', hne]
theorem rsame2_loop {L M : List Int} {u w : Int} {ks : List Fr'} {K : Ex → St → Prop} (hlen : L.length = M.length) (hL : L.length ≤ most) : ∀ (rest : List Int) (i : Nat) (st : St), L.drop i = rest → i ≤ L.length → L.take i = M.take i → (∃ a b, st.σ 2 = .ptr a 0 ∧ st.σ 3 = .ptr b 0 ∧ st.h.at_ a = .box [iv u, lv L] ∧ st.h.at_ b = .box [iv w, lv M] ∧ a < st.h.n ∧ b < st.h.n) → st.σ 5 = iv i →
    (∀ st', L ≠ M → st'.σ 4 = bv false → K .ret st') → (∀ st', L = M → VN (env P) 124 st' ks K) → V (env P) 124 (.loop L124_0) st (.blk 0 :: ks) K
  | [], i, st, hr, hi, hp, ⟨a, b, h2, h3, ha, hb, an, bn⟩, h5, hret, hend => by
    obtain ⟨he, hlt, ht⟩ := drop_nil hr hi
    rw [V_loop]
    simp [L124_0, h2, h3, ha, hb, an, bn, h5, hlt]
    refine hend _ ?_
    rw [ht, he, hlen, List.take_length] at hp
    exact hp
  | q :: rest, i, st, hr, hi, hp, ⟨a, b, h2, h3, ha, hb, an, bn⟩, h5, hret, hend => by
    obtain ⟨hq, hlt, hr', ht⟩ := drop_cons hr
    have hc := En_at hq
    have hm : M[i]? = some (M[i]'(by omega)) := List.getElem?_eq_getElem (by omega)
    generalize M[i]'(by omega) = m at hm
    have hd := En_at hm
    have hltM : i < M.length := by omega
    have hw3 := wrapS (i := i) (by unfold most at hL; omega)
    rw [V_loop]
    by_cases hqm : q = m
    · simp [L124_0, h2, h3, ha, hb, an, bn, h5, hlt, hltM, hc, hd, hw3, hqm]
      refine rsame2_loop (u := u) (w := w) hlen hL rest (i + 1) _ hr' (by omega) ?_ ⟨a, b, by simp [h2], by simp [h3], by simp [ha, an], by simp [hb, bn], by simp; omega, by simp; omega⟩ (by simp) hret hend
      rw [ht, List.take_add_one, hm, hp, hqm]; rfl
    · simp [L124_0, h2, h3, ha, hb, an, bn, h5, hlt, hltM, hc, hd, hw3, hqm]
      refine hret _ (fun e => ?_) (by simp)
      rw [e] at hq
      rw [hq] at hm
      exact hqm (Option.some.inj hm)
theorem rsame2_ans {u w : Int} {l m : List Int} (hl : l.length ≤ most) : ans (env P) 124 [.agg [iv u, lv l], .agg [iv w, lv m]] = some (bv (decide (u = w ∧ l = m))) := by
  refine ans_V rfl rfl ?_
  by_cases hu : u = w
  · by_cases hlen : l.length = m.length
    · have hlen' : (l.length : Int) = (m.length : Int) := by omega
      simp [c124, hu, hlen']
      refine rsame2_loop (u := w) (w := w) hlen hl l 0 _ rfl (by omega) rfl ⟨0, 1, by simp, by simp, by simp, by simp, by simp, by simp⟩ (by simp) ?_ ?_
      · intro st' hne h4; simp [h4, hne]
      · intro st' he; simp [he]
    · have hlen' : ¬ (l.length : Int) = (m.length : Int) := by omega
      have hne : l ≠ m := fun e => hlen (by rw [e])
      simp [c124, hu, hlen', hne]
  · simp [c124, hu]
theorem rsame4_loop  {L M : List KRow} (hv : ∀ a ∈ L, a.extra.length ≤ most) {ks : List Fr'} {K : Ex → St → Prop} (hlen : L.length = M.length) (hL : L.length ≤ most) : ∀ (rest : List KRow) (i : Nat) (st : St), L.drop i = rest → i ≤ L.length → L.take i = M.take i → st.σ 0 = lv L → st.σ 1 = lv M → st.σ 5 = iv i →
    (∀ st', L ≠ M → st'.σ 4 = bv false → K .ret st') → (∀ st', L = M → VN (env P) 60 st' ks K) → V (env P) 60 (.loop L60_0) st (.blk 0 :: ks) K
  | [], i, st, hr, hi, hp, h0, h1, h5, hret, hend => by
    obtain ⟨he, hlt, ht⟩ := drop_nil hr hi
    rw [V_loop]
    simp [L60_0, h0, h5, hlt]
    refine hend _ ?_
    rw [ht, he, hlen, List.take_length] at hp
    exact hp
  | q :: rest, i, st, hr, hi, hp, h0, h1, h5, hret, hend => by
    obtain ⟨hq, hlt, hr', ht⟩ := drop_cons hr
    have hmq := List.mem_of_getElem? hq
    have hc := En_at hq
    have hm : M[i]? = some (M[i]'(by omega)) := List.getElem?_eq_getElem (by omega)
    generalize M[i]'(by omega) = m at hm
    have hmm := List.mem_of_getElem? hm
    have hd := En_at hm
    have hltM : i < M.length := by omega
    have hw3 := wrapS (i := i) (by unfold most at hL; omega)
    have key : ∀ st', q = m → st'.σ 0 = lv L → st'.σ 1 = lv M → st'.σ 5 = iv ((i + 1 : Nat) : Int) → V (env P) 60 (.loop L60_0) st' (.blk 0 :: ks) K := fun st' e g0 g1 g5 => by
      refine rsame4_loop hv hlen hL rest (i + 1) st' hr' (by omega) ?_ g0 g1 g5 hret hend
      rw [ht, List.take_add_one, hm, hp, e]; rfl
    have key2 : q ≠ m → L ≠ M := fun hqm e => by
      rw [e] at hq
      rw [hq] at hm
      exact hqm (Option.some.inj hm)
    rw [V_loop]
    have hn := fun t cx cy => evBin_sneq (P := P) (t := t) (cx := cx) (cy := cy) q.id m.id
    have hs := rsame2_ans (P := P) (u := q.upto) (w := m.upto) (l := q.extra) (m := m.extra) (hv q hmq)
    simp [L60_0, h0, h1, h5, hlt, hltM, hc, hd, hw3, hn, hs]
    repeat' (first
      | (refine VG_sp (fun h => ?_) (fun h => ?_) <;> simp [h, h0, h1, h5, hlt, hltM, hc, hd, hw3, hn, hs])
      | (refine VB_sp (fun h => ?_) (fun h => ?_) <;> simp [h, h0, h1, h5, hlt, hltM, hc, hd, hw3, hn, hs]))
    all_goals first
      | exact hret _ (key2 (by intro e; cases q; cases m; simp_all)) (by simp)
      | exact key _ (by cases q; cases m; simp_all) (by simp [h0]) (by simp [h1]) (by simp [h5, hw3])
theorem rsame4_ans  {l m : List KRow} (hv : ∀ a ∈ l, a.extra.length ≤ most) (hl : l.length ≤ most) : ans (env P) 60 [lv l, lv m] = some (bv (decide (l = m))) := by
  refine ans_V rfl rfl ?_
  by_cases hlen : l.length = m.length
  · have hlen' : (l.length : Int) = (m.length : Int) := by omega
    simp [c60, hlen']
    refine rsame4_loop hv hlen hl l 0 _ rfl (by omega) rfl (by simp) (by simp) (by simp) ?_ ?_
    · intro st' hne h4; simp [h4, hne]
    · intro st' he; simp [he]
  · have hlen' : ¬ (l.length : Int) = (m.length : Int) := by omega
    have hne : l ≠ m := fun e => hlen (by rw [e])
    simp [c60, hlen', hne]
theorem frame_ext {f g : Frame} : f = g ↔ f.kind = g.kind ∧ f.from_ = g.from_ ∧ f.to = g.to ∧ f.clock = g.clock ∧ f.whole = g.whole ∧ f.know = g.know ∧ f.members = g.members ∧ f.certs = g.certs ∧ f.rows = g.rows ∧ f.zone = g.zone ∧ f.items = g.items ∧ f.floor = g.floor := by
  constructor
  · rintro rfl; simp
  · cases f; cases g; simp; intros; simp_all
noncomputable instance : DecidableEq Frame := fun a b => Classical.propDecidable (a = b)
theorem rsame12_ans (T : TI P) {f g : Frame} (F : FOK f) : ans (env P) 15 [.agg (fR f), .agg (fR g)] = some (bv (decide (f = g))) := by
  have k1 := rsame4_ans (P := P) (l := f.know) (m := g.know) F.ext F.know
  have k2 := rsame1_ans (P := P) (l := f.members) (m := g.members) F.mem
  have k3 := rsame3_ans (P := P) (l := f.certs) (m := g.certs) T F.certs
  have k4 := rsame10_ans (P := P) (l := f.rows) (m := g.rows) T F.rvec F.rows
  have k5 := refSame_ans (P := P) T.toTyped3.toTyped2 (l := f.zone) (m := g.zone) F.zone
  have k6 := rsame8_ans (P := P) (l := f.items) (m := g.items) T F.items
  have k7 := rsame3_ans (P := P) (l := f.floor) (m := g.floor) T F.floor
  have hs := fun t cx cy a b => evBin_seql (P := P) (t := t) (cx := cx) (cy := cy) a b
  have hb := fun cx cy a b => @evBin_bb P 4 cx cy a b T.t4
  refine ans_V rfl rfl ?_
  simp [c15, k1, k2, k3, k4, k5, k6, k7, hs, hb]
  repeat' (first
    | (refine VG_sp (fun h => ?_) (fun h => ?_) <;> simp [h, k1, k2, k3, k4, k5, k6, k7, hs, hb])
    | (refine VB_sp (fun h => ?_) (fun h => ?_) <;> simp [h, k1, k2, k3, k4, k5, k6, k7, hs, hb]))
  all_goals simp_all [frame_ext]
end Go.Evl.Zone

namespace Go.Evl.Zone
open Go Go.Evl
variable {P : Program}
open Go.Evl.Fl
theorem r6Same_ans {a b : Bytes} : ans (env P) 12 [lv a, lv b] = some (bv (decide (a = b))) := by
  refine ans_V rfl rfl ?_
  have he := fun t cx cy => evBin_seql (P := P) (t := t) (cx := cx) (cy := cy) a b
  simp [c12, elems, bytesOf_En, he]
end Go.Evl.Zone

namespace Go.Evl.Zone
open Go Go.Evl
variable {P : Program}
theorem frame0_FOK : FOK frame0 := by
  constructor <;> simp [frame0]
theorem rFin_fst (f : Frame) (q : Src) : (rFin f q).1 = frame0 ∨ ((rFin f q).1 = f ∧ q.bad = 0) := by
  unfold rFin
  split
  · exact .inl rfl
  · rename_i h
    split
    · exact .inl rfl
    · split
      · exact .inr ⟨rfl, by simpa using h⟩
      · exact .inl rfl
theorem rFrame_FOK (b : Bytes) : FOK (rFrame b).1 := by
  unfold rFrame
  split
  · exact frame0_FOK
  · split
    · rcases rFin_fst ⟨(rI 3 ⟨b, 0⟩).1, (rText 6 (rI 3 ⟨b, 0⟩).2).1, (rText 6 (rText 6 (rI 3 ⟨b, 0⟩).2).2).1, [], 0, [], [], [], [], [], false, (rVec (rText 6 (rText 6 (rI 3 ⟨b, 0⟩).2).2).2).1⟩ (rVec (rText 6 (rText 6 (rI 3 ⟨b, 0⟩).2).2).2).2 with h | ⟨h, hb⟩
      · rw [h]; exact frame0_FOK
      · rw [h]; exact floor_FOK hb
    · split
      · exact frame0_FOK
      · rename_i hd z l w q hl
        rcases rFin_fst ⟨(rI 3 ⟨b, 0⟩).1, (rText 6 (rI 3 ⟨b, 0⟩).2).1, (rText 6 (rText 6 (rI 3 ⟨b, 0⟩).2).2).1, hd.1, hd.2.1, hd.2.2.1, hd.2.2.2.1, hd.2.2.2.2, z, l, w, []⟩ q with h | ⟨h, hb⟩
        · rw [h]; exact frame0_FOK
        · rw [h]; exact lists_FOK hl hb
theorem frameTakes_ans (T : TT P) (told : ans (env P) 11 [] = some (bv true)) {b : Bytes} : ans (env P) 4 [lv b] = some (bv true) := by
  obtain ⟨B, hB⟩ : ∃ B, B = b.take 2000 := ⟨_, rfl⟩
  have hBl : B.length ≤ most := by rw [hB]; simp; unfold most; omega
  obtain ⟨F, e, hFe⟩ : ∃ F e, rFrame B = (F, e) := ⟨_, _, rfl⟩
  have FF := rFrame_FOK B
  rw [hFe] at FF
  have k1 := ptake_ans (P := P) T hBl
  have k2 := rtake_ans (P := P) T.toTI hBl
  rw [hFe] at k1 k2
  have k3 := from12_ans (P := P) T.toTI FF
  have k4 := rsame12_ans (P := P) T.toTI (g := F) FF
  have k5 := r6Same_ans (P := P) (a := B) (b := B)
  have k6 := frameRight_ans (P := P) FF
  have k7 : e = 0 → frameR F = true ∧ ans (env P) 9 [.agg (fP F)] = some (lv B) := fun h => by
    obtain ⟨h1, h2⟩ := rFrame_inv (b := B) (f := F) (by rw [hFe, h])
    exact ⟨h1, by rw [← h2]; exact framePut_ans (P := P) T.toTI FF h1⟩
  have hmn : ∀ (ts : Array TypeId) (t : TypeId), evFun P .min ts t [.int .i64 b.length, .int .i64 2000] = some (iv ((min b.length 2000 : Nat) : Int)) := fun ts t => by
    have : evFun P .min ts t [.int .i64 b.length, .int .i64 2000] = some (.val (.int .i64 (if (2000 : Int) < b.length then 2000 else b.length))) := rfl
    rw [this]
    congr 3
    split <;> omega
  have hsl : (En b).take (min b.length 2000) = En B := by
    rw [hB, En_take]
    congr 1
    rw [List.take_eq_take_iff]
    omega
  have hle : min b.length 2000 ≤ b.length := by omega
  refine ans_V rfl rfl ?_
  have hp := plainss_En B
  have htl : List.take B.length (En B) = En B := by have := List.take_length (l := En B); simpa using this
  simp only [decide_true] at k4 k5
  simp [-List.take_eq_take_iff, c4, hmn, sliceP, hsl, hle, elems, chunks, allLen_En]
  have key : e = 0 ∨ e ≠ 0 := by omega
  by_cases h0 : B = []
  · have e1 : appendP (Heap.empty.grow 1) 0 1 (.im [] true) (En B) = some (.im [] true, Heap.empty.grow 1, [], []) := by rw [h0]; rfl
    have e2 : lv B = .im [] false := by rw [h0]; rfl
    rw [e2] at k1 k2 k5 k7
    simp [fP, fR, lv, lvP, lvR, e2] at k3 k4 k6 k7 k5
    by_cases he : e = 0
    · obtain ⟨k8, k9⟩ := k7 he
      rw [k8] at k6
      simp [e1, k1, k2, told, k3, k4, k5, k6, k9, he, e2]
      done
    · simp [e1, k1, k2, told, k3, k4, k5, he, e2]
      done
  · have hl : ¬ (En B).length = 0 := by simpa using h0
    have e1 : appendP (Heap.empty.grow 1) 0 1 (.im [] true) (En B) = some (.sl 0 1 (En B).length 0 (En B).length, (Heap.empty.grow 1).put 0 (.row 1 (En B) true), [0], []) := by
      unfold appendP
      rw [if_neg hl]
      simp only [List.length_nil, Nat.zero_add, List.nil_append]
      rw [if_pos ⟨rfl, by simpa using hBl⟩]
    obtain ⟨Hx, wr, ho, n1, d1, ⟨w, r1⟩⟩ : ∃ Hx wr, own1 (((Heap.empty.grow 1).put 0 (.row 1 (En B) true)).grow 1) [0] (.tup [.agg (fP F), iv e]) = ⟨.tup [.agg (fP F), iv e], Hx, wr, some [0]⟩ ∧ Hx.n = 2 ∧ Hx.at_ 1 = .dead ∧ ∃ w, Hx.at_ 0 = .row 1 (En B) w := by
      unfold own1
      split
      · exact ⟨_, _, rfl, by simp [Heap.empty], by simp [Heap.empty], ⟨_, by simp [Heap.empty]; rfl⟩⟩
      · exact ⟨_, _, rfl, by rw [freeze_n]; simp [Heap.empty], by rw [freeze_at]; simp [Heap.empty], ⟨_, by rw [freeze_at]; simp [Heap.empty]; rfl⟩⟩
    simp [fP, fR, lv, lvP, lvR] at k3 k4 k6 k7 k5
    by_cases he : e = 0
    · obtain ⟨k8, k9⟩ := k7 he
      rw [k8] at k6
      rw [he] at k1 ho
      simp [e1, hp, htl, k1, ho, n1, d1, r1, k2, told, k3, k4, k5, k6, k9, he]
      done
    · simp [e1, hp, htl, k1, ho, n1, d1, r1, k2, told, k3, k4, k5, he]
      done
end Go.Evl.Zone
