/- The evaluator's texts ZPrim to ZG7, joined. -/
import Derived.Test.YtcenjpdfhelkoaaGreatDoorEv3
import Derived.Lib.AtoiAll
import Derived.Lib.Bytealg
import Derived.Laws.BitsLemmas
set_option linter.all false
set_option linter.deprecated false
set_option linter.unusedVariables false
set_option linter.unusedSimpArgs false
set_option linter.unnecessarySimpa false
/- The zone statements: the library's functions that are taken as told. -/
set_option linter.unusedVariables false
namespace Go.Evl.Zone
open Go Go.Evl

/-- What stands between bytes of a kind. -/
def splitL (c : UInt8) : List UInt8 → List (List UInt8)
  | [] => [[]]
  | b :: l => if b = c then [] :: splitL c l else match splitL c l with
    | x :: xs => (b :: x) :: xs
    | [] => [[b]]

def joinL (sep : List UInt8) : List (List UInt8) → List UInt8
  | [] => []
  | [x] => x
  | x :: y :: r => x ++ sep ++ joinL sep (y :: r)

/-- A number's digits, of 'f' at most. -/
def digL : Nat → Nat → List UInt8 → List UInt8
  | 0, _, acc => acc
  | f + 1, n, acc => if n < 10 then UInt8.ofNat (48 + n) :: acc else digL f (n / 10) (UInt8.ofNat (48 + n % 10) :: acc)

def itoaL (n : Int) : List UInt8 := if n < 0 then 45 :: digL 20 n.natAbs [] else digL 20 n.natAbs []

def strOf (l : List UInt8) : PV := .val (.string ⟨l.toArray⟩)

def strs : List (List PV) → Option (List (List UInt8))
  | [] => some []
  | [.val (.string s)] :: r => (strs r).map fun l => s.data.toList :: l
  | _ :: _ => none

def pSplit (args : List PV) (H : Heap) : Option ORes :=
  match args with
  | [.val (.string s), .val (.string p)] => match p.data.toList with
    | [c] => if s.size < 4294967281 then some ⟨.im ((splitL c s.data.toList).map fun x => [strOf x]) false, H, [], some []⟩ else none
    | _ => none
  | _ => none

def pJoin (args : List PV) (H : Heap) : Option ORes :=
  match args with
  | [.val _, _] => none
  | [x, .val (.string p)] => match elems H 1 x with
    | some (xs, is) => match strs xs with
      | some l => if l.length ≤ 140737488355328 ∧ (joinL p.data.toList l).length ≤ 140737488355328 then some ⟨strOf (joinL p.data.toList l), H, [], some is⟩ else none
      | none => none
    | none => none
  | _ => none

def pItoa (args : List PV) (H : Heap) : Option ORes :=
  match args with
  | [.val (.int .i64 n)] => if -9223372036854775808 ≤ n ∧ n ≤ 9223372036854775807 then some ⟨strOf (itoaL n), H, [], some []⟩ else none
  | _ => none

def pAtoi (args : List PV) (H : Heap) : Option ORes :=
  match args with
  | [.val (.string s)] => if s.size ≤ 281474976710656 then
      match Lib.atoiAll s.data.toList with
      | .ok v => some ⟨.tup [.val (.int .i64 v), .val .nilIface], H, [], some []⟩
      | .range => some ⟨.tup [.val (.int .i64 (Lib.atoiSat s.data.toList)), .ifc], H, [], some []⟩
      | _ => some ⟨.tup [.val (.int .i64 0), .ifc], H, [], some []⟩
    else none
  | _ => none

def pTrunc (args : List PV) (H : Heap) : Option ORes :=
  match args with
  | [.val (.float .f64 b)] => match FloatKind.f64.decode b with
    | .nan _ _ => none
    | d => some ⟨.val (.float .f64 (FloatKind.f64.encode (d.integral .zero))), H, [], some []⟩
  | _ => none

def pCompare (args : List PV) (H : Heap) : Option ORes :=
  match args with
  | [.val (.string a), .val (.string b)] => some ⟨.val (.int .i64 (Lib.compareBytes a.data.toList b.data.toList)), H, [], some []⟩
  | _ => none

def isStr : PV → Bool
  | .val (.string _) => true
  | _ => false

/-- slices.Clone: a row of its own. -/
def pClone (k : Nat) (args : List PV) (H : Heap) : Option ORes :=
  match args with
  | [x] => if isStr x then none else match elems H k x with
    | some (ys, is) => if ys.length = 0 then some ⟨.im [] true, H.grow 1, [], some is⟩
      else if ys.length ≤ most then some ⟨.sl H.n k ys.length 0 ys.length, (H.grow 1).put H.n (.row k ys true), [H.n], some is⟩ else none
    | none => none
  | _ => none

def prim : FuncId → Option (List PV → Heap → Option ORes)
  | 130 => some pSplit
  | 128 => some pJoin
  | 209 => some pAtoi
  | 126 => some pItoa
  | 278 => some pTrunc
  | 252 => some pCompare
  | 119 => some (pClone 1)
  | _ => none

/-- Functions that work on their caller's heap, and whose answer is exported. -/
def inlF : FuncId → Bool
  | 220 => true
  | 255 => true
  | 221 => true
  | 170 => true
  | 87 => true
  | 171 => true
  | 92 => true
  | 88 => true
  | 180 => true
  | 172 => true
  | 89 => true
  | 174 => true
  | 90 => true
  | 173 => true
  | 176 => true
  | 234 => true
  | 91 => true
  | 175 => true
  | 177 => true
  | 178 => true
  | 181 => true
  | 182 => true
  | 236 => true
  | 111 => true
  | 112 => true
  | 115 => true
  | 194 => true
  | 113 => true
  | 193 => true
  | 114 => true
  | _ => false

/-- Functions whose answer is a part of their caller's heap, by the caller. -/
def keepF : FuncId → FuncId → Bool
  | 70, 66 => true
  | 73, 74 => true
  | 22, 86 => true
  | 38, 118 => true
  | 34, 118 => true
  | 32, 118 => true
  | _, _ => false

def howF (f g : FuncId) : How := if inlF g then .inl else if keepF f g then .keep else .own

def env (P : Program) : Env := ⟨P, howF, tab, prim⟩

end Go.Evl.Zone


/- The zone statements: the small functions of numbers. -/

namespace Go.Evl.Zone
open Go Go.Evl Go.Evl.Fl
set_option linter.unusedSimpArgs false
set_option linter.unusedVariables false
attribute [local simp] VB_ite VG_ite
variable {P : Program}

/-- What the zone statements ask of the program's types. -/
structure Typed (P : Program) : Prop where
  t3 : P.underlying 3 = some (.int .i64)
  t5 : P.underlying 5 = some (.int .u8)
  t53 : P.underlying 61 = some (.int .u64)
  t41 : P.underlying 226 = some (.float .f64)

theorem ownE {f g : FuncId} {xs : List O} {dst : Option Nat} {rest : List CI} {i slot slot' : Nat} {log : Log} {d : Option (Nat × List (Nat × Nat))} {K : Ex → St → Prop} {st : St} {ks : List Fr'} (hp : (prim g).isNone = true) (hh : (inlF g || keepF f g) = false) :
    VA (env P) f (.call (.c (.fn g [])) xs) dst rest i slot slot' st log d ks K ↔ VP (env P) f (ownA (env P) g st.h (expAs st.h (xs.map (evO st.σ)))) dst rest i slot' st log d ks K := VA_own hp (by simp only [Bool.or_eq_false_iff] at hh; simp [env, howF, hh.1, hh.2])

@[simp] theorem env_P : (env P).P = P := rfl

attribute [simp] VA_pop ret1 nAlloc allocs start expV expA expC expCs expAs flatV flatA flatC ownE prim inlF keepF Value.oneCell' cellP cellsOf loadC_ptr loadC_ip loadC_rp loadP_ob storeC_ptr storeC_rp fillP setL slice0 ordered look apart hits

theorem evBin_ford {t : TypeId} {cx cy : Bool} {a b : Nat} {m n : Int} (ha : Is a m) (hb : Is b n) :
    evBin P .geq t cx cy (.val (.float .f64 a)) (.val (.float .f64 b)) = some (.val (.bool (decide (n ≤ m)))) ∧
    evBin P .leq t cx cy (.val (.float .f64 a)) (.val (.float .f64 b)) = some (.val (.bool (decide (m ≤ n)))) ∧
    evBin P .eql t cx cy (.val (.float .f64 a)) (.val (.float .f64 b)) = some (.val (.bool (decide (m = n)))) := by
  have ho : FloatKind.f64.format.order a b = some (compare m n) := ha.order hb
  rw [evBin_fgeq, evBin_fleq, evBin_feql, ho]
  simp only [compare, compareOfLessAndEq]
  rcases Int.lt_trichotomy m n with h | h | h
  · have h1 : ¬ n ≤ m := by omega
    have h2 : m ≤ n := by omega
    have h3 : ¬ m = n := by omega
    simp [h, h1, h2, h3]
  · subst h; simp
  · have h0 : ¬ m < n := by omega
    have h1 : n ≤ m := by omega
    have h2 : ¬ m ≤ n := by omega
    have h3 : ¬ m = n := by omega
    simp [h0, h1, h2, h3]

theorem pTrunc_is {b : Nat} {n : Int} {H : Heap} (h : Is b n) : pTrunc [.val (.float .f64 b)] H = some ⟨.val (.float .f64 b), H, [], some []⟩ := by
  have h1 := h.integral
  unfold pTrunc
  simp only
  split
  · rename_i s t hd; rw [hd] at h1; simp [Ieee.Datum.isNaN] at h1
  · rw [h1.1]

theorem trunc_is {b : Nat} {n : Int} (h : Is b n) : ans (env P) 256 [.val (.float .f64 b)] = some (.val (.float .f64 b)) := by
  refine ans_V rfl rfl ?_
  simp [c256, VA_prim (E := env P) (g := 278) (p := pTrunc) rfl, pTrunc_is h]

theorem wholeTo_is {x lo hi : Nat} {m l h : Int} (hx : Is x m) (hl : Is lo l) (hh : Is hi h) : ans (env P) 222 [.val (.float .f64 x), .val (.float .f64 lo), .val (.float .f64 hi)] = some (.val (.bool (decide (l ≤ m) && decide (m ≤ h)))) := by
  refine ans_V rfl rfl ?_
  by_cases h1 : l ≤ m
  · by_cases h2 : m ≤ h
    · simp [c222, (evBin_ford hx hl).1, (evBin_ford hx hh).2.1, (evBin_ford hx hx).2.2, h1, h2, trunc_is hx]
    · simp [c222, (evBin_ford hx hl).1, (evBin_ford hx hh).2.1, h1, h2]
  · simp [c222, (evBin_ford hx hl).1, h1]

theorem is_const {n : Int} {b : Nat} (h : FloatKind.f64.nearest n = b) (hn : n.natAbs < 2 ^ 53) : Is b n := h ▸ Is.nearest hn

theorem is0 : Is 0 0 := is_const (n := 0) (by decide +kernel) (by decide)
theorem isM1000 : Is 13875379345695965184 (-1000) := is_const (n := -1000) (by decide +kernel) (by decide)
theorem is1000 : Is 4652007308841189376 1000 := is_const (n := 1000) (by decide +kernel) (by decide)
theorem is2000 : Is 4656510908468559872 2000 := is_const (n := 2000) (by decide +kernel) (by decide)
theorem is2M : Is 4701340746312056832 2000000 := is_const (n := 2000000) (by decide +kernel) (by decide)
theorem isM2M : Is 13924712783166832640 (-2000000) := is_const (n := -2000000) (by decide +kernel) (by decide)

def near (m : Int) : Bool := decide (-1000 ≤ m) && decide (m ≤ 1000)

theorem whole_is {a b : Nat} {m n : Int} (ha : Is a m) (hb : Is b n) : ans (env P) 202 [.val (.complex .f64 a b)] = some (.val (.bool (near m && near n))) := by
  refine ans_V rfl rfl ?_
  have h1' := wholeTo_is (P := P) ha isM1000 is1000
  have h2' := wholeTo_is (P := P) hb isM1000 is1000
  rw [← near] at h1' h2'
  cases h1 : near m <;> simp [c202, h1', h2', h1]

end Go.Evl.Zone


/- The zone statements: places and steps. -/
namespace Go.Evl.Zone
open Go Go.Evl Go.Evl.Fl
set_option linter.unusedSimpArgs false
set_option linter.unusedVariables false
attribute [local simp] VB_ite VG_ite
variable {P : Program}

def placeV (x y : Int) : PV := .agg [.val (.int .i64 x), .val (.int .i64 y)]

theorem wrap64_id {n : Int} (h : -9223372036854775808 ≤ n ∧ n ≤ 9223372036854775807) : IntKind.i64.wrap n = n := by rw [IntKind.wrap_i64]; omega

theorem spot_ans (T : Typed P) {x y : Int} : ans (env P) 129 [placeV x y] = some (.val (.complex .f64 (FloatKind.f64.nearest x) (FloatKind.f64.nearest y))) := by
  refine ans_V rfl rfl ?_
  have e3 : ∀ n : Int, scal P (Go.convert 3 226 (.int .i64 n)) = some (.val (.float .f64 (FloatKind.f64.nearest n))) := fun n => cv_if (by show (P.underlying 3).isSome = true; rw [T.t3]; rfl) T.t41
  simp [c129, placeV, e3]

/-! ### Steps -/

def stepV (op : Int) (re im sz : Nat) : PV := .agg [.val (.int .i64 op), .val (.complex .f64 re im), .val (.float .f64 sz)]

def needsN (op : Int) : Int := if op = 4 then 1 else if op = 5 ∨ op = 6 then 2 else 0

theorem needs_ans {op : Int} {re im sz : Nat} : ans (env P) 150 [stepV op re im sz] = some (.val (.int .i64 (needsN op))) := by
  refine ans_V rfl rfl ?_
  by_cases h4 : op = 4
  · simp [c150, stepV, needsN, h4]
  · by_cases h5 : op = 5
    · simp [c150, stepV, needsN, h5]
    · by_cases h6 : op = 6
      · simp [c150, stepV, needsN, h6]
      · simp [c150, stepV, needsN, h4, h5, h6]

def rightB (op x y s : Int) : Bool :=
  if op = 2 then near x && near y && (decide (0 ≤ s) && decide (s ≤ 2000))
  else if op = 3 then near x && near y && (decide (-2000000 ≤ s) && decide (s ≤ 2000000))
  else if op = 1 ∨ op = 4 ∨ op = 5 ∨ op = 6 then decide (x = 0) && decide (y = 0) && decide (s = 0)
  else false

theorem ceql0 {a b : Nat} {x y : Int} (ha : Is a x) (hb : Is b y) {t : TypeId} {cx cy : Bool} :
    evBin P .eql t cx cy (.val (.complex .f64 a b)) (.val (.complex .f64 0 0)) = some (.val (.bool (decide (x = 0) && decide (y = 0)))) := by
  have h1 : FloatKind.f64.format.order a 0 = some (compare x 0) := ha.order is0
  have h2 : FloatKind.f64.format.order b 0 = some (compare y 0) := hb.order is0
  rw [evBin_ceql, h1, h2]
  have key : ∀ z : Int, (some (compare z 0) == some Ordering.eq) = decide (z = 0) := fun z => by
    simp only [compare, compareOfLessAndEq]
    rcases Int.lt_trichotomy z 0 with h | h | h
    · have : ¬ z = 0 := by omega
      simp [h, this]
    · simp [h]
    · have h0 : ¬ z < 0 := by omega
      have : ¬ z = 0 := by omega
      simp [h0, this]
  rw [key, key]

theorem right_is {op : Int} {re im sz : Nat} {x y s : Int} (hx : Is re x) (hy : Is im y) (hs : Is sz s) : ans (env P) 149 [stepV op re im sz] = some (.val (.bool (rightB op x y s))) := by
  refine ans_V rfl rfl ?_
  have hw := whole_is (P := P) hx hy
  have h0 := ceql0 (P := P) hx hy (t := 95) (cx := false) (cy := true)
  have hs0 := (evBin_ford (P := P) hs is0 (t := 226) (cx := false) (cy := true)).2.2
  by_cases h2 : op = 2
  · subst h2
    cases hn : (near x && near y) <;> simp [c149, stepV, hw, hn, wholeTo_is hs is0 is2000, rightB]
  · by_cases h3 : op = 3
    · subst h3
      cases hn : (near x && near y) <;> simp [c149, stepV, hw, hn, wholeTo_is hs isM2M is2M, rightB]
    · by_cases h1 : op = 1
      · subst h1
        cases hn : (decide (x = 0) && decide (y = 0)) <;> simp [c149, stepV, h0, hs0, hn, rightB]
      · by_cases h4 : op = 4
        · subst h4
          cases hn : (decide (x = 0) && decide (y = 0)) <;> simp [c149, stepV, h0, hs0, hn, rightB]
        · by_cases h5 : op = 5
          · subst h5
            cases hn : (decide (x = 0) && decide (y = 0)) <;> simp [c149, stepV, h0, hs0, hn, rightB]
          · by_cases h6 : op = 6
            · subst h6
              cases hn : (decide (x = 0) && decide (y = 0)) <;> simp [c149, stepV, h0, hs0, hn, rightB]
            · simp [c149, stepV, h1, h2, h3, h4, h5, h6, rightB]
end Go.Evl.Zone


/- The zone statements: what a step says of a place. -/
namespace Go.Evl.Zone
open Go Go.Evl Go.Evl.Fl
set_option linter.unusedSimpArgs false
set_option linter.unusedVariables false
attribute [local simp] VB_ite VG_ite
variable {P : Program}

def sm (n : Int) : Prop := -3000 ≤ n ∧ n ≤ 3000

def boolsV (t : List Bool) : List (List PV) := t.map fun b => [.val (.bool b)]

end Go.Evl.Zone


/- The zone statements: which zones may be. -/
namespace Go.Evl.Zone
open Go Go.Evl Go.Evl.Fl
set_option linter.unusedSimpArgs false
set_option linter.unusedVariables false
attribute [local simp] VB_ite VG_ite
variable {P : Program}

theorem V_loop {E : Env} {f : FuncId} {b : CC} {st : St} {ks : List Fr'} {K : Ex → St → Prop} : V E f (.loop b) st ks K ↔ V E f b st (.seq (.loop b) :: ks) K := W_loop

/-- A step, with its words. -/
structure SI where
  op : Int
  x : Int
  y : Int
  s : Int
  re : Nat
  im : Nat
  sz : Nat

def SI.ok (q : SI) : Prop := Is q.re q.x ∧ Is q.im q.y ∧ Is q.sz q.s

def SI.cells (q : SI) : List PV := [.val (.int .i64 q.op), .val (.complex .f64 q.re q.im), .val (.float .f64 q.sz)]

def stepsV (l : List SI) : List (List PV) := l.map SI.cells

@[simp] theorem stepsV_length (l : List SI) : (stepsV l).length = l.length := by simp [stepsV]
@[simp] theorem stepsV_len : ∀ (l : List SI), allLen 3 (stepsV l) = true
  | [] => rfl
  | q :: l => by simp only [stepsV, List.map_cons, allLen, SI.cells]; rw [show (List.map SI.cells l) = stepsV l from rfl, stepsV_len l]; rfl
theorem stepsV_get {l : List SI} {i : Nat} {q : SI} (h : l[i]? = some q) : (stepsV l)[i]? = some q.cells := by simp [stepsV, h]

def SI.right (q : SI) : Bool := rightB q.op q.x q.y q.s

/-- How many truths there are behind some steps; none: they may not be. -/
def foldR : List SI → Int → Option Int
  | [], n => some n
  | q :: l, n => if q.right = false ∨ n < needsN q.op then none else foldR l (n + (1 - needsN q.op))

theorem needsN_le (op : Int) : 0 ≤ needsN op ∧ needsN op ≤ 2 := by 
  unfold needsN
  split
  · omega
  · split <;> omega

theorem loop14 {L : List SI} (hok : ∀ q ∈ L, q.ok) {ks : List Fr'} {K : Ex → St → Prop} (hL : L.length ≤ 32) : ∀ (rest : List SI) (i : Nat) (n : Int) (st : St), L.drop i = rest → 0 ≤ n ∧ n ≤ i → st.σ 9 = .im (stepsV L) false → st.σ 10 = .val (.int .i64 L.length) → st.σ 11 = .val (.int .i64 i) → st.σ 3 = .val (.int .i64 n) →
    (∀ st', foldR rest n = none → st'.σ 2 = .val (.bool false) → K .ret st') → (∀ st' m, foldR rest n = some m → st'.σ 3 = .val (.int .i64 m) → VN (env P) 52 st' ks K) → V (env P) 52 (.loop L52_0) st (.blk 0 :: ks) K
  | [], i, n, st, hr, hn, h9, h10, h11, h3, hret, hend => by
    have hi : L.length ≤ i := by
      have := congrArg List.length hr; simp at this; omega
    have hlt : ¬ i < L.length := by omega
    rw [V_loop]
    simp [L52_0, h10, h11, hlt]
    refine hend _ n rfl ?_
    simp [h3]
  | q :: rest, i, n, st, hr, hn, h9, h10, h11, h3, hret, hend => by
    have hq : L[i]? = some q := by
      have : (L.drop i)[0]? = some q := by rw [hr]; rfl
      simpa using this
    have hlt : i < L.length := (List.getElem?_eq_some_iff.1 hq).1
    have hr' : L.drop (i + 1) = rest := by rw [← List.drop_drop, hr]; rfl
    have hqo := hok q (List.mem_of_getElem? hq)
    have hc : ∀ h, (stepsV L)[i]'h = q.cells := fun h => (List.getElem?_eq_some_iff.1 (stepsV_get hq)).2
    have hri := right_is (P := P) (op := q.op) hqo.1 hqo.2.1 hqo.2.2
    have hne := needs_ans (P := P) (op := q.op) (re := q.re) (im := q.im) (sz := q.sz)
    rw [stepV] at hri hne
    have hb := needsN_le q.op
    have hw : IntKind.i64.wrap (1 - needsN q.op) = 1 - needsN q.op := wrap64_id (by omega)
    have hw2 : IntKind.i64.wrap (n + (1 - needsN q.op)) = n + (1 - needsN q.op) := wrap64_id (by omega)
    have hw3 : IntKind.i64.wrap ((i : Int) + 1) = ((i + 1 : Nat) : Int) := by rw [wrap64_id (by omega)]; rfl
    rw [V_loop]
    cases hqr : q.right with
    | false =>
      have hqr' : rightB q.op q.x q.y q.s = false := hqr
      simp [L52_0, h9, h10, h11, h3, hlt, hc, SI.cells, hri, hqr']
      refine hret _ (by simp [foldR, hqr]) ?_
      simp
    | true =>
      have hqr' : rightB q.op q.x q.y q.s = true := hqr
      by_cases hnn : n < needsN q.op
      · simp [L52_0, h9, h10, h11, h3, hlt, hc, SI.cells, hri, hqr', hne, hnn]
        refine hret _ (by simp [foldR, hnn]) ?_
        simp
      · simp [L52_0, h9, h10, h11, h3, hlt, hc, SI.cells, hri, hqr', hne, hnn, hw, hw2, hw3]
        refine loop14 hok hL rest (i + 1) (n + (1 - needsN q.op)) _ hr' (by omega) ?_ ?_ ?_ ?_ ?_ ?_
        · simp [h9]
        · simp [h10]
        · simp
        · simp
        · intro st' hf hs; exact hret st' (by simp [foldR, hqr, hnn, hf]) hs
        · intro st' m hf hs; exact hend st' m (by simp [foldR, hqr, hnn, hf]) hs

def zoneRight (l : List SI) : Bool := decide (l.length ≤ 32) && decide (foldR l 0 = some 1)

theorem zoneRight_ans {l : List SI} (hok : ∀ q ∈ l, q.ok) : ans (env P) 52 [.im (stepsV l) false] = some (.val (.bool (zoneRight l))) := by
  refine ans_V rfl rfl ?_
  by_cases h : l.length ≤ 32
  · have h' : ¬ ((32 : Int) < (l.length : Int)) := by omega
    simp [c52, h']
    refine loop14 hok h l 0 0 _ rfl (by omega) ?_ ?_ ?_ ?_ ?_ ?_
    · simp
    · simp
    · simp
    · simp
    · intro st' hf hs; simp [hs, zoneRight, hf]
    · intro st' m hf hs
      simp [hs, zoneRight, hf, h]
  · have h' : (32 : Int) < (l.length : Int) := by omega
    simp [c52, h', zoneRight, h]

end Go.Evl.Zone


/- The zone statements: whether a place is in a zone. -/
namespace Go.Evl.Zone
open Go Go.Evl Go.Evl.Fl
set_option linter.unusedSimpArgs false
set_option linter.unusedVariables false
attribute [local simp] VB_ite VG_ite
variable {P : Program}

theorem boolsV_length (t : List Bool) : (boolsV t).length = t.length := by simp [boolsV]
end Go.Evl.Zone


/- The zone statements: whether a place is in a zone: the loop. -/
namespace Go.Evl.Zone
open Go Go.Evl Go.Evl.Fl
set_option linter.unusedSimpArgs false
set_option linter.unusedVariables false
attribute [local simp] VB_ite VG_ite
variable {P : Program}

@[simp] theorem freeze_nil (H : Heap) : freeze H [] = H := rfl

end Go.Evl.Zone


/- The zone statements: whether a place is in a zone, whole. -/
namespace Go.Evl.Zone
open Go Go.Evl Go.Evl.Fl
set_option linter.unusedSimpArgs false
set_option linter.unusedVariables false
attribute [local simp] VB_ite VG_ite
variable {P : Program}

end Go.Evl.Zone


/- The zone statements: zones as the program has them. -/
namespace Go.Evl.Zone
open Go Go.Evl Go.Evl.Fl
set_option linter.unusedSimpArgs false
set_option linter.unusedVariables false
attribute [local simp] VB_ite VG_ite
variable {P : Program}

/-- A step as the document has it. -/
structure RS where
  op : Int
  x : Int
  y : Int
  s : Int
  deriving DecidableEq

def RS.cells (q : RS) : List PV := [.val (.int .i64 q.op), .val (.int .i64 q.x), .val (.int .i64 q.y), .val (.int .i64 q.s)]
def rsV (l : List RS) : List (List PV) := l.map RS.cells
noncomputable def RS.si (q : RS) : SI := ⟨q.op, q.x, q.y, q.s, FloatKind.f64.nearest q.x, FloatKind.f64.nearest q.y, FloatKind.f64.nearest q.s⟩
noncomputable def toSI (l : List RS) : List SI := l.map RS.si

@[simp] theorem rsV_length (l : List RS) : (rsV l).length = l.length := by simp [rsV]
@[simp] theorem rsV_len : ∀ (l : List RS), allLen 4 (rsV l) = true
  | [] => rfl
  | q :: l => by simp only [rsV, List.map_cons, allLen, RS.cells]; rw [show (List.map RS.cells l) = rsV l from rfl, rsV_len l]; rfl
theorem rsV_at {l : List RS} {i : Nat} {q : RS} (h : l[i]? = some q) (h' : i < (rsV l).length) : (rsV l)[i] = q.cells := by
  have : l[i]? = some q := h
  simp only [rsV, List.getElem_map]
  rw [(List.getElem?_eq_some_iff.1 h).2]

theorem plainss_si (l : List SI) : plainss (stepsV l) = some (stepsV l) := plainss_ok (by intro y hy; simp [stepsV] at hy; obtain ⟨q, _, rfl⟩ := hy; rfl)

theorem drop_cons {α : Type} {l : List α} {i : Nat} {q : α} {rest : List α} (h : l.drop i = q :: rest) : l[i]? = some q ∧ i < l.length ∧ l.drop (i + 1) = rest ∧ l.take (i + 1) = l.take i ++ [q] := by
  have hq : l[i]? = some q := by
    have : (l.drop i)[0]? = some q := by rw [h]; rfl
    simpa using this
  have hlt := (List.getElem?_eq_some_iff.1 hq).1
  refine ⟨hq, hlt, by rw [← List.drop_drop, h]; rfl, ?_⟩
  rw [List.take_add_one, hq]; rfl

theorem drop_nil {α : Type} {l : List α} {i : Nat} (h : l.drop i = []) (hi : i ≤ l.length) : i = l.length ∧ ¬ i < l.length ∧ l.take i = l := by
  have := congrArg List.length h
  simp at this
  have e : i = l.length := by omega
  exact ⟨e, by omega, by rw [e]; exact List.take_length⟩

theorem wrapS {i : Nat} (h : i < 9223372036854775807) : IntKind.i64.wrap ((i : Int) + 1) = ((i + 1 : Nat) : Int) := by rw [wrap64_id (by omega)]; rfl

theorem loop13 (T : Typed P) {L : List RS} {ks : List Fr'} {K : Ex → St → Prop} (hL : L.length ≤ most) : ∀ (rest : List RS) (i : Nat) (st : St) (v : PV), L.drop i = rest → i ≤ L.length → st.σ 0 = .im (rsV L) false → st.σ 4 = .val (.int .i64 i) → st.σ 3 = v → Lst st.h 3 v (stepsV (toSI (L.take i))) →
    (∀ st' v, st'.σ 3 = v → Lst st'.h 3 v (stepsV (toSI L)) → VN (env P) 59 st' ks K) → V (env P) 59 (.loop L59_0) st (.blk 0 :: ks) K
  | [], i, st, v, hr, hi, h0, h4, h3, hl, hend => by
    obtain ⟨_, hlt, ht⟩ := drop_nil hr hi
    rw [ht] at hl
    rw [V_loop]
    simp [L59_0, h0, h4, hlt]
    exact hend _ v (by simp [h3]) (by simpa using hl.grow)
  | q :: rest, i, st, v, hr, hi, h0, h4, h3, hl, hend => by
    obtain ⟨hq, hlt, hr', ht⟩ := drop_cons hr
    have hc := fun h => rsV_at hq h
    have e6 : ∀ n : Int, scal P (Go.convert 3 226 (.int .i64 n)) = some (.val (.float .f64 (FloatKind.f64.nearest n))) := fun n => cv_if (by rw [T.t3]; rfl) T.t41
    have s2 : ∀ x y : Int, ans (env P) 129 [.agg [.val (.int .i64 x), .val (.int .i64 y)]] = some (.val (.complex .f64 (FloatKind.f64.nearest x) (FloatKind.f64.nearest y))) := fun x y => spot_ans T
    have hw3 := wrapS (i := i) (by unfold most at hL; omega)
    rw [V_loop]
    simp [L59_0, h0, h4, h3, hlt, hc, RS.cells, s2, e6, chunks, elems, allLen]
    obtain ⟨v', H', wr, rd, e1, e2, e3, _⟩ := (hl.grow (m := 1)).app (slot := st.h.n) (zs := [q.si.cells]) (by simp) (by simp) rfl (by simp [toSI]; omega)
    simp only [RS.si, SI.cells] at e1
    simp [e1, hw3, e3, h0, h4]
    refine loop13 T hL rest (i + 1) _ v' hr' (by omega) ?_ ?_ ?_ ?_ hend
    · simp [h0]
    · simp
    · simp
    · rw [ht, show stepsV (toSI (L.take i ++ [q])) = stepsV (toSI (L.take i)) ++ [q.si.cells] by simp [stepsV, toSI]]
      exact e2.grow

theorem to_ans (T : Typed P) {l : List RS} (hl : l.length ≤ most) : ans (env P) 59 [.im (rsV l) false] = some (.im (stepsV (toSI l)) false) := by
  refine ans_V rfl rfl ?_
  simp [c59]
  refine loop13 T hl l 0 _ _ rfl (by omega) (by simp) (by simp) rfl ?_ ?_
  · simp; exact Lst.nil
  · intro st' v h3 hl'
    simp [h3]
    obtain ⟨is, hi⟩ := (hl'.grow (m := 0)).expV (plainss_si _)
    exact ⟨is, by simpa using hi⟩

end Go.Evl.Zone


/- The zone statements: the document's zones: which may be; the same; back from the program's. -/
namespace Go.Evl.Zone
open Go Go.Evl Go.Evl.Fl
set_option linter.unusedSimpArgs false
set_option linter.unusedVariables false
attribute [local simp] VB_ite VG_ite
variable {P : Program}

theorem near_ans {x n : Int} (hn : -9223372036854775807 ≤ n ∧ n ≤ 9223372036854775807) : ans (env P) 158 [.val (.int .i64 x), .val (.int .i64 n)] = some (.val (.bool (decide (-n ≤ x) && decide (x ≤ n)))) := by
  refine ans_V rfl rfl ?_
  have hw : IntKind.i64.wrap (-n) = -n := wrap64_id (by omega)
  by_cases h : -n ≤ x <;> simp [c158, hw, h]

theorem refWhole_ans {x y : Int} : ans (env P) 136 [.agg [.val (.int .i64 x), .val (.int .i64 y)]] = some (.val (.bool (near x && near y))) := by
  refine ans_V rfl rfl ?_
  have h1 : ans (env P) 158 [.val (.int .i64 x), .val (.int .i64 1000)] = some (.val (.bool (near x))) := near_ans (by omega)
  have h2 : ans (env P) 158 [.val (.int .i64 y), .val (.int .i64 1000)] = some (.val (.bool (near y))) := near_ans (by omega)
  cases hx : near x <;> simp [c136, h1, h2, hx]

/-- What the program's types are, as far as the zones' functions ask. -/
structure Typed2 (P : Program) : Prop extends Typed P where
  t33 : P.underlying 95 = some (.complex .f64)
  t59 : ∃ fs : Array Field, P.underlying 120 = some (.struct fs) ∧ fs.toList.map (fun f => (f.type, f.offset)) = [(3, 0), (3, 1), (3, 2), (3, 3)] ∧ (fs.toList.all fun f => f.name != "_") = true
  h59 : P.stoodInHeld 120 = false
  g59 : P.eqGuardType P.depth 120 = false

end Go.Evl.Zone


/- The zone statements: a zone that may be, out of any steps. -/
namespace Go.Evl.Zone
open Go Go.Evl Go.Evl.Fl
set_option linter.unusedSimpArgs false
set_option linter.unusedVariables false
attribute [local simp] VB_ite VG_ite
variable {P : Program}

def u64 (n : Int) : Int := n % 18446744073709551616

end Go.Evl.Zone


/- The zone statements: a zone that may be, out of any steps, whole; it is one. -/
namespace Go.Evl.Zone
open Go Go.Evl Go.Evl.Fl
set_option linter.unusedSimpArgs false
set_option linter.unusedVariables false
attribute [local simp] VB_ite VG_ite
variable {P : Program}

/-! ### It is a zone -/

end Go.Evl.Zone


/- The zone statements: which zones the document lets be. -/
namespace Go.Evl.Zone
open Go Go.Evl Go.Evl.Fl
set_option linter.unusedSimpArgs false
set_option linter.unusedVariables false
variable {P : Program}

set_option maxRecDepth 20000 in
set_option maxHeartbeats 4000000 in
theorem loop27 {L : List RS} {ks : List Fr'} {K : Ex → St → Prop} (hL : L.length ≤ 32) : ∀ (rest : List RS) (i : Nat) (n : Int) (st : St), L.drop i = rest → i ≤ L.length → 0 ≤ n ∧ n ≤ i → st.σ 0 = .im (rsV L) false → st.σ 4 = .val (.int .i64 i) → st.σ 3 = .val (.int .i64 n) →
    (∀ st', foldR (toSI rest) n = none → st'.σ 2 = .val (.bool false) → K .ret st') → (∀ st' m, foldR (toSI rest) n = some m → st'.σ 3 = .val (.int .i64 m) → VN (env P) 63 st' ks K) → V (env P) 63 (.loop L63_0) st (.blk 0 :: ks) K
  | [], i, n, st, hr, hi, hn, h0, h4, h3, hret, hend => by
    obtain ⟨_, hlt, _⟩ := drop_nil hr hi
    rw [V_loop]
    simp [L63_0, h0, h4, hlt]
    exact hend _ n rfl (by simp [h3])
  | q :: rest, i, n, st, hr, hi, hn, h0, h4, h3, hret, hend => by
    obtain ⟨hq, hlt, hr', ht⟩ := drop_cons hr
    have hc := fun h => rsV_at hq h
    have hw3 := wrapS (i := i) (by omega)
    have hwh := refWhole_ans (P := P) (x := q.x) (y := q.y)
    have hns : ans (env P) 158 [.val (.int .i64 q.s), .val (.int .i64 2000000)] = some (.val (.bool (decide (-2000000 ≤ q.s) && decide (q.s ≤ 2000000)))) := near_ans (by omega)
    have wn : IntKind.i64.wrap (n + 1) = n + 1 := wrap64_id (by omega)
    have wm : IntKind.i64.wrap (n - 1) = n - 1 := wrap64_id (by omega)
    -- what comes of a step
    have hfold : foldR (toSI (q :: rest)) n = if q.si.right = false ∨ n < needsN q.op then none else foldR (toSI rest) (n + (1 - needsN q.op)) := rfl
    have hgo : ∀ st', q.si.right = true → ¬ n < needsN q.op → st'.σ 0 = .im (rsV L) false → st'.σ 4 = .val (.int .i64 (i + 1 : Nat)) → st'.σ 3 = .val (.int .i64 (n + (1 - needsN q.op))) → V (env P) 63 (.loop L63_0) st' (.blk 0 :: ks) K := by
      intro st' c1 c2 k0 k4 k3
      have hb := needsN_le q.op
      rw [hfold, if_neg (by simp [c1, c2])] at hret hend
      exact loop27 hL rest (i + 1) _ st' hr' (by omega) (by omega) k0 k4 k3 hret hend
    have hno : ∀ st', (q.si.right = false ∨ n < needsN q.op) → st'.σ 2 = .val (.bool false) → K .ret st' := by
      intro st' c k
      exact hret st' (by rw [hfold, if_pos c]) k
    clear hret hend hfold
    rw [V_loop]
    by_cases c2 : q.op = 2
    · cases hw : (near q.x && near q.y) with
      | false =>
        simp [L63_0, h0, h4, h3, hlt, hc, RS.cells, c2, hwh, hw]
        exact hno _ (.inl (by simp only [SI.right, RS.si, rightB, c2, if_true, hw, Bool.false_and])) (by simp)
      | true =>
        have hri : q.si.right = (decide (0 ≤ q.s) && decide (q.s ≤ 2000)) := by simp only [SI.right, RS.si, rightB, c2, if_true, hw, Bool.true_and]
        by_cases s1 : q.s < 0
        · simp [L63_0, h0, h4, h3, hlt, hc, RS.cells, c2, hwh, hw, s1]
          exact hno _ (.inl (by rw [hri]; simp; omega)) (by simp)
        · by_cases s2 : 2000 < q.s
          · simp [L63_0, h0, h4, h3, hlt, hc, RS.cells, c2, hwh, hw, s1, s2]
            exact hno _ (.inl (by rw [hri]; simp; omega)) (by simp)
          · simp [L63_0, h0, h4, h3, hlt, hc, RS.cells, c2, hwh, hw, s1, s2, wn, hw3]
            refine hgo _ (by rw [hri]; simp; omega) (by simp [needsN, c2]; omega) ?_ ?_ ?_
            · simp [h0]
            · simp
            · simp [needsN, c2]
    · by_cases ccenotaph_cenotaphlaw05_ZoneHas_ : q.op = 3
      · cases hw : (near q.x && near q.y) with
        | false =>
          simp [L63_0, h0, h4, h3, hlt, hc, RS.cells, ccenotaph_cenotaphlaw05_ZoneHas_, hwh, hw]
          exact hno _ (.inl (by simp [SI.right, RS.si, rightB, ccenotaph_cenotaphlaw05_ZoneHas_]; intro h1 h2; simp [h1, h2] at hw)) (by simp)
        | true =>
          have hri : q.si.right = (decide (-2000000 ≤ q.s) && decide (q.s ≤ 2000000)) := by
            simp only [Bool.and_eq_true] at hw
            simp [SI.right, RS.si, rightB, ccenotaph_cenotaphlaw05_ZoneHas_, hw]
          cases hs : (decide (-2000000 ≤ q.s) && decide (q.s ≤ 2000000)) with
          | false =>
            rw [hs] at hns hri
            simp [L63_0, h0, h4, h3, hlt, hc, RS.cells, ccenotaph_cenotaphlaw05_ZoneHas_, hwh, hw, hns]
            exact hno _ (.inl hri) (by simp)
          | true =>
            rw [hs] at hns hri
            simp [L63_0, h0, h4, h3, hlt, hc, RS.cells, ccenotaph_cenotaphlaw05_ZoneHas_, hwh, hw, hns, wn, hw3]
            refine hgo _ hri (by simp [needsN, ccenotaph_cenotaphlaw05_ZoneHas_]; omega) ?_ ?_ ?_
            · simp [h0]
            · simp
            · simp [needsN, ccenotaph_cenotaphlaw05_ZoneHas_]
      · by_cases c : q.op = 1 ∨ q.op = 4 ∨ q.op = 5 ∨ q.op = 6
        · by_cases hz : q.x = 0 ∧ q.y = 0 ∧ q.s = 0
          · obtain ⟨z1, z2, z3⟩ := hz
            have hri : q.si.right = true := by
              rw [show q.si.right = rightB q.op q.x q.y q.s from rfl]
              unfold rightB
              rw [if_neg c2, if_neg ccenotaph_cenotaphlaw05_ZoneHas_, if_pos c, z1, z2, z3]; rfl
            rcases c with c | c | c | c
            · simp [L63_0, h0, h4, h3, hlt, hc, RS.cells, c, z1, z2, z3, wn, hw3]
              refine hgo _ hri (by simp [needsN, c]; omega) ?_ ?_ ?_
              · simp [h0]
              · simp
              · simp [needsN, c]
            · by_cases hlow : n < 1
              · simp [L63_0, h0, h4, h3, hlt, hc, RS.cells, c, z1, z2, z3, wn, hw3, hlow]
                exact hno _ (.inr (by simp [needsN, c]; omega)) (by simp)
              · simp [L63_0, h0, h4, h3, hlt, hc, RS.cells, c, z1, z2, z3, wn, hw3, hlow]
                refine hgo _ hri (by simp [needsN, c]; omega) ?_ ?_ ?_
                · simp [h0]
                · simp
                · simp [needsN, c, h3]
            · by_cases hlow : n < 2
              · simp [L63_0, h0, h4, h3, hlt, hc, RS.cells, c, z1, z2, z3, wn, wm, hw3, hlow]
                exact hno _ (.inr (by simp [needsN, c]; omega)) (by simp)
              · simp [L63_0, h0, h4, h3, hlt, hc, RS.cells, c, z1, z2, z3, wn, wm, hw3, hlow]
                refine hgo _ hri (by simp [needsN, c]; omega) ?_ ?_ ?_
                · simp [h0]
                · simp
                · simp [needsN, c]; omega
            · by_cases hlow : n < 2
              · simp [L63_0, h0, h4, h3, hlt, hc, RS.cells, c, z1, z2, z3, wn, wm, hw3, hlow]
                exact hno _ (.inr (by simp [needsN, c]; omega)) (by simp)
              · simp [L63_0, h0, h4, h3, hlt, hc, RS.cells, c, z1, z2, z3, wn, wm, hw3, hlow]
                refine hgo _ hri (by simp [needsN, c]; omega) ?_ ?_ ?_
                · simp [h0]
                · simp
                · simp [needsN, c]; omega
          · have hri : q.si.right = false := by
              rw [show q.si.right = rightB q.op q.x q.y q.s from rfl]
              unfold rightB
              rw [if_neg c2, if_neg ccenotaph_cenotaphlaw05_ZoneHas_, if_pos c]
              simp only [Bool.and_eq_false_iff, decide_eq_false_iff_not]
              omega
            have hz' : q.x ≠ 0 ∨ q.y ≠ 0 ∨ q.s ≠ 0 := by omega
            by_cases z1 : q.x = 0
            · by_cases z2 : q.y = 0
              · have z3 : ¬ q.s = 0 := by omega
                rcases c with c | c | c | c <;>
                  (simp [L63_0, h0, h4, h3, hlt, hc, RS.cells, c, z1, z2, z3]
                   exact hno _ (.inl hri) (by simp))
              · rcases c with c | c | c | c <;>
                  (simp [L63_0, h0, h4, h3, hlt, hc, RS.cells, c, z1, z2]
                   exact hno _ (.inl hri) (by simp))
            · rcases c with c | c | c | c <;>
                (simp [L63_0, h0, h4, h3, hlt, hc, RS.cells, c, z1]
                 exact hno _ (.inl hri) (by simp))
        · have hri : q.si.right = false := by
            rw [show q.si.right = rightB q.op q.x q.y q.s from rfl]
            unfold rightB
            rw [if_neg c2, if_neg ccenotaph_cenotaphlaw05_ZoneHas_, if_neg c]
          simp only [not_or] at c
          simp [L63_0, h0, h4, h3, hlt, hc, RS.cells, c2, ccenotaph_cenotaphlaw05_ZoneHas_, c]
          exact hno _ (.inl hri) (by simp)

theorem refRight_ans {l : List RS} : ans (env P) 63 [.im (rsV l) false] = some (.val (.bool (zoneRight (toSI l)))) := by
  refine ans_V rfl rfl ?_
  by_cases h1 : l.length < 1
  · have hl : l = [] := List.length_eq_zero_iff.1 (by omega)
    subst hl
    simp [c63]
    decide
  · have h1' : ¬ (l.length : Int) < 1 := by omega
    by_cases h32 : 32 < l.length
    · have h2 : (32 : Int) < (l.length : Int) := by omega
      have hz : zoneRight (toSI l) = false := by simp [zoneRight, toSI]; intro h; omega
      simp [c63, h1', h2, hz]
    · have h2 : ¬ (32 : Int) < (l.length : Int) := by omega
      simp [c63, h1', h2]
      refine loop27 (by omega) l 0 0 _ rfl (by omega) (by omega) (by simp) (by simp) (by simp) ?_ ?_
      · intro st' hf hs
        simp [hs, zoneRight, hf]
      · intro st' m hf hs
        simp [hs, zoneRight, hf]
        simp [toSI]; omega

end Go.Evl.Zone


/- The zone statements: whether a place is in a zone, as the document has it. -/
namespace Go.Evl.Zone
open Go Go.Evl Go.Evl.Fl
set_option linter.unusedSimpArgs false
set_option linter.unusedVariables false
variable {P : Program}

/-- The truths that stand: none yet, or in a row of their own. -/
def Tr (H : Heap) (v : PV) (t : List Bool) : Prop := (v = .im [] true ∧ t = []) ∨ ∃ r xs, Rw H 1 v (boolsV t) r xs

theorem Tr.lst {H : Heap} {v : PV} {t : List Bool} (h : Tr H v t) : Lst H 1 v (boolsV t) := by
  rcases h with ⟨rfl, rfl⟩ | ⟨r, xs, h⟩
  · exact Lst.nil
  · exact h.lst

theorem Tr.len {H : Heap} {v : PV} {t : List Bool} (h : Tr H v t) : lenP false v = some t.length := by
  rw [h.lst.len, boolsV_length]

end Go.Evl.Zone


/- The zone statements: are two zones the same; a zone that is turned. -/
namespace Go.Evl.Zone
open Go Go.Evl Go.Evl.Fl
set_option linter.unusedSimpArgs false
set_option linter.unusedVariables false
variable {P : Program}

/-- What is asked of the program's type of a step. -/
structure Typed3 (P : Program) : Prop extends Typed2 P where
  t51 : ∃ fs : Array Field, P.underlying 228 = some (.struct fs) ∧ fs.toList.map (fun f => (f.type, f.offset)) = [(3, 0), (95, 1), (226, 2)] ∧ (fs.toList.all fun f => f.name != "_") = true
  h51 : P.stoodInHeld 228 = false
  g51 : P.eqGuardType P.depth 228 = false

def SI.rs (q : SI) : RS := ⟨q.op, q.x, q.y, q.s⟩

/-! ### Turned by a quarter -/

end Go.Evl.Zone

