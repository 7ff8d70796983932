/- Part of a proof that a Go function answers true for every input. No condition. -/
import Derived.Below
import Derived.Orders
import Derived.KernelRfl
import Derived.IntWalk
set_option linter.unusedVariables false
set_option linter.unusedSimpArgs false
set_option linter.unusedSectionVars false
/- Words of 32 bits and the numbers that they stand for. No condition. -/
namespace Go.Proofs.YtfichkokppbipaaGreatDoor

def wv : List Nat → Nat
 | [] => 0
 | x :: xs => x + 4294967296 * wv xs
def wOK (ws : List Nat) : Prop := ∀ x ∈ ws, x < 4294967296
def bc : Nat → Nat → List Nat
 | 0, _ => []
 | k + 1, n => n % 4294967296 :: bc k (n / 4294967296)
def dN (ws : List Nat) : List Nat := (ws.reverse.dropWhile (· == 0)).reverse
theorem iL (ws : List Nat) : dN (ws ++ [0]) = dN ws := by simp [dN]
theorem jw (ws : List Nat) {x : Nat} (h : x ≠ 0) : dN (ws ++ [x]) = ws ++ [x] := by simp [dN, h]
theorem wOK.cons {x : Nat} {xs : List Nat} (h : wOK (x :: xs)) : x < 4294967296 ∧ wOK xs := ⟨h x (by simp), fun y hy => h y (by simp [hy])⟩
theorem wOK.append {a b : List Nat} (h : wOK a) (k : wOK b) : wOK (a ++ b) := fun x hx => by
 rcases List.mem_append.1 hx with h1 | h1
 ·exact h x h1
 ·exact k x h1
theorem wOK.one {x : Nat} (h : x < 4294967296) : wOK [x] := fun y hy => by simp at hy; omega
theorem wOK.nil : wOK [] := fun y hy => by simp at hy
theorem wOK.take {a : List Nat} (h : wOK a) (k : Nat) : wOK (a.take k) := fun x hx => h x (List.mem_of_mem_take hx)
theorem wOK.drop {a : List Nat} (h : wOK a) (k : Nat) : wOK (a.drop k) := fun x hx => h x (List.mem_of_mem_drop hx)
theorem wOK.set {a : List Nat} (h : wOK a) (k : Nat) {y : Nat} (hy : y < 4294967296) : wOK (a.set k y) := fun x hx => by
 rcases List.mem_or_eq_of_mem_set hx with h1 | h1
 ·exact h x h1
 ·omega
theorem wOK.get {a : List Nat} (h : wOK a) {k : Nat} (hk : k < a.length) : a[k] < 4294967296 := h _ (List.getElem_mem hk)
theorem wOK.rep0 (k : Nat) : wOK (List.replicate k 0) := fun x hx => by rw [(List.mem_replicate.1 hx).2]; decide

theorem eC (a b : List Nat) : wv (a ++ b) = wv a + 4294967296 ^ a.length * wv b := by
 induction a with
 | nil => simp [wv]
 | cons x xs ih => simp only [List.cons_append, wv, ih, List.length_cons, Nat.pow_succ]; grind
theorem kD (k : Nat) : wv (List.replicate k 0) = 0 := by
 induction k with
 | zero => rfl
 | succ k ih => simp [List.replicate_succ, wv, ih]
theorem pow_pos (k : Nat) : 0 < 4294967296 ^ k := Nat.pow_pos (by decide)
theorem d5 {a : List Nat} (h : wOK a) : wv a < 4294967296 ^ a.length := by
 induction a with
 | nil => simp [wv]
 | cons x xs ih =>
  obtain ⟨h1, h2⟩ := h.cons
  have := ih h2
  simp only [wv, List.length_cons, Nat.pow_succ]
  have h3 : 4294967296 * wv xs + 4294967296 ≤ 4294967296 * 4294967296 ^ xs.length := by
   rw [← Nat.mul_succ]; exact Nat.mul_le_mul_left _ this
  rw [Nat.mul_comm (4294967296 ^ xs.length)]
  omega
theorem aF (k n : Nat) : (bc k n).length = k := by
 induction k generalizing n with
 | zero => rfl
 | succ k ih => simp [bc, ih]
theorem bV (k n : Nat) : wOK (bc k n) := by
 induction k generalizing n with
 | zero => exact wOK.nil
 | succ k ih =>
  intro x hx
  simp only [bc, List.mem_cons] at hx
  rcases hx with rfl | hx
  ·exact Nat.mod_lt _ (by decide)
  ·exact ih _ x hx
theorem cg (k n : Nat) : wv (bc k n) = n % 4294967296 ^ k := by
 induction k generalizing n with
 | zero => simp [bc, wv, Nat.mod_one]
 | succ k ih =>
  simp only [bc, wv, ih, Nat.pow_succ];rw [Nat.mul_comm (4294967296 ^ k) 4294967296, Nat.mod_mul]
theorem kE {a : List Nat} (h : wOK a) : bc a.length (wv a) = a := by
 induction a with
 | nil => rfl
 | cons x xs ih =>
  obtain ⟨h1, h2⟩ := h.cons
  simp only [List.length_cons, bc, wv]
  have e1 : (x + 4294967296 * wv xs) % 4294967296 = x := by rw [Nat.add_mul_mod_self_left, Nat.mod_eq_of_lt h1]
  have e2 : (x + 4294967296 * wv xs) / 4294967296 = wv xs := by rw [Nat.add_mul_div_left _ _ (by decide), Nat.div_eq_of_lt h1, Nat.zero_add]
  rw [e1, e2, ih h2]
theorem jf {a : List Nat} {k n : Nat} (h : wOK a) (hl : a.length = k) (hv : wv a = n) : a = bc k n := by subst hl hv; exact (kE h).symm
theorem lX {a : List Nat} (h : wOK a) (i : Nat) : a.getD i 0 = wv a / 4294967296 ^ i % 4294967296 := by
 induction a generalizing i with
 | nil => simp [wv]
 | cons x xs ih =>
  obtain ⟨h1, h2⟩ := h.cons
  cases i with
  | zero =>
   simp only [List.getD_cons_zero, wv, Nat.pow_zero, Nat.div_one];rw [Nat.add_mul_mod_self_left, Nat.mod_eq_of_lt h1]
  | succ i =>
   simp only [List.getD_cons_succ, wv, ih h2];rw [Nat.pow_succ, Nat.mul_comm (4294967296 ^ i) 4294967296, ← Nat.div_div_eq_div_mul, Nat.add_mul_div_left _ _ (by decide), Nat.div_eq_of_lt h1, Nat.zero_add]
theorem Dd {a : List Nat} {i : Nat} (hi : i < a.length) (y : Nat) : wv (a.set i y) + a[i] * 4294967296 ^ i = wv a + y * 4294967296 ^ i := by
 induction a generalizing i with
 | nil => simp at hi
 | cons x xs ih =>
  cases i with
  | zero => simp only [List.set_cons_zero, wv, List.getElem_cons_zero, Nat.pow_zero]; omega
  | succ i =>
   have hi' : i < xs.length := by simpa using hi
   simp only [List.set_cons_succ, wv, List.getElem_cons_succ, Nat.pow_succ]
   have := ih hi'
   grind
theorem jv {a : List Nat} {i : Nat} (hi : i < a.length) : wv (a.take (i + 1)) = wv (a.take i) + a[i] * 4294967296 ^ i := by
 rw [List.take_add_one, List.getElem?_eq_getElem hi];simp only [Option.toList_some, eC, wv];rw [List.length_take, Nat.min_eq_left (by omega)]
 grind
theorem w9 (a : List Nat) (x : Nat) : wv (a ++ [x]) = wv a + x * 4294967296 ^ a.length := by
 rw [eC]; simp only [wv]; grind

theorem qg (ws : List Nat) : wv (dN ws) = wv ws := by
 induction hn : ws.length generalizing ws with
 | zero => have := List.length_eq_zero_iff.1 hn; subst this; rfl
 | succ n ih =>
  rcases List.eq_nil_or_concat ws with rfl | ⟨vs, x, rfl⟩
  ·rfl
  ·rw [List.concat_eq_append] at hn ⊢
   by_cases hx : x = 0
   ·subst hx; rw [iL, ih vs (by simpa using hn), eC]; simp [wv]
   ·rw [jw _ hx]
theorem uP {ws : List Nat} (h : wOK ws) : wOK (dN ws) := by
 intro x hx
 unfold dN at hx
 have := (List.dropWhile_sublist _).subset (List.mem_reverse.1 hx)
 exact h x (List.mem_reverse.1 this)
theorem zn (ws : List Nat) : (dN ws).length ≤ ws.length := by
 unfold dN
 rw [List.length_reverse];exact Nat.le_trans (List.dropWhile_sublist _).length_le (by simp)
def j4 (ws : List Nat) : Prop := ∀ h : ws ≠ [], ws.getLast h ≠ 0
theorem nV (ws : List Nat) : j4 (dN ws) := by
 induction hn : ws.length generalizing ws with
 | zero => have := List.length_eq_zero_iff.1 hn; subst this; intro h; exact absurd rfl h
 | succ n ih =>
  rcases List.eq_nil_or_concat ws with rfl | ⟨vs, x, rfl⟩
  ·intro h; exact absurd rfl h
  ·rw [List.concat_eq_append] at hn ⊢
   by_cases hx : x = 0
   ·subst hx; rw [iL]; exact ih vs (by simpa using hn)
   ·rw [jw _ hx]; intro h; simpa using hx
def wof (n : Nat) : List Nat := dN (bc (n + 1) n)
theorem D3 (n : Nat) : n < 4294967296 ^ (n + 1) := Nat.lt_of_lt_of_le (Nat.lt_pow_self (by decide)) (Nat.pow_le_pow_right (by decide) (by omega))
theorem aI (n : Nat) : wv (wof n) = n := by
 unfold wof
 rw [qg, cg, Nat.mod_eq_of_lt (D3 n)]
theorem ay (n : Nat) : wOK (wof n) := uP (bV _ _)
theorem ci (n : Nat) : j4 (wof n) := nV _
theorem mJ {ws : List Nat} (h : j4 ws) (hne : ws ≠ []) : 4294967296 ^ (ws.length - 1) ≤ wv ws := by
 rcases List.eq_nil_or_concat ws with rfl | ⟨vs, x, rfl⟩
 ·exact absurd rfl hne
 ·rw [List.concat_eq_append] at h ⊢
  have := h (by simp)
  rw [List.getLast_concat] at this;rw [w9, List.length_append, List.length_singleton, Nat.add_sub_cancel]
  have : 1 * 4294967296 ^ vs.length ≤ x * 4294967296 ^ vs.length := Nat.mul_le_mul_right _ (by omega)
  omega
theorem uQ {a b : List Nat} (ha : wOK a) (hb : wOK b) (ta : j4 a) (tb : j4 b) (h : wv a = wv b) : a = b := by
 have key : ∀ {a b : List Nat}, wOK a → j4 b → wv a = wv b → b.length ≤ a.length := by
  intro a b ha tb h
  by_cases hb : b = []
  ·simp [hb]
  ·have h1 := mJ tb hb
   have h2 := d5 ha
   rw [h] at h2
   have : 4294967296 ^ (b.length - 1) < 4294967296 ^ a.length := by omega
   have := (Nat.pow_lt_pow_iff_right (by decide : 1 < 4294967296)).1 this
   have : b.length ≠ 0 := by simpa using hb
   omega
 have h1 := key ha tb h
 have h2 := key hb ta h.symm
 have hl : a.length = b.length := by omega
 rw [← kE ha, ← kE hb, hl, h]
theorem iq {ws : List Nat} (h : wOK ws) : dN ws = wof (wv ws) :=
 uQ (uP h) (ay _) (nV _) (ci _) (by rw [qg, aI])
theorem uN : wof 0 = [] := rfl
theorem ep {n : Nat} : wof n = [] ↔ n = 0 := by
 refine ⟨fun h => ?_, fun h => by subst h; rfl⟩
 have := aI n
 rw [h] at this; exact this.symm
def wl (n : Nat) : Nat := (wof n).length
theorem qV (n : Nat) : n < 4294967296 ^ wl n := by have := d5 (ay n); rw [aI] at this; exact this
theorem CK {n : Nat} (h : n ≠ 0) : 4294967296 ^ (wl n - 1) ≤ n := by
 have := mJ (ci n) (fun h' => h (ep.1 h'))
 rwa [aI] at this
theorem r9 {n k : Nat} (h : n < 4294967296 ^ k) : wl n ≤ k := by
 by_cases hn : n = 0
 ·subst hn; simp [wl, uN]
 ·have h1 := CK hn
  have : 4294967296 ^ (wl n - 1) < 4294967296 ^ k := by omega
  have := (Nat.pow_lt_pow_iff_right (by decide : 1 < 4294967296)).1 this
  omega
theorem Ep {m n : Nat} (h : wl m < wl n) : m < n := by
 have h1 := qV m
 have h2 : n ≠ 0 := by intro h'; subst h'; simp [wl, uN] at h
 have h3 := CK h2
 have : 4294967296 ^ wl m ≤ 4294967296 ^ (wl n - 1) := Nat.pow_le_pow_right (by decide) (by omega)
 omega
theorem bU {m n : Nat} (h : m ≤ n) : wl m ≤ wl n := by
 rcases Nat.lt_or_ge (wl n) (wl m) with h1 | h1
 ·have := Ep h1; omega
 ·exact h1
theorem zb (m n : Nat) : wl (m + n) ≤ max (wl m) (wl n) + 1 := by
 refine r9 ?_
 have h1 := qV m
 have h2 := qV n
 have h3 : 4294967296 ^ wl m ≤ 4294967296 ^ max (wl m) (wl n) := Nat.pow_le_pow_right (by decide) (by omega)
 have h4 : 4294967296 ^ wl n ≤ 4294967296 ^ max (wl m) (wl n) := Nat.pow_le_pow_right (by decide) (by omega)
 rw [Nat.pow_succ]; show m + n < 4294967296 ^ max (wl m) (wl n) * 4294967296; omega
theorem za (m n : Nat) : wl (m * n) ≤ wl m + wl n := by
 refine r9 ?_;rw [Nat.pow_add]
 by_cases hn : n = 0
 ·subst hn; rw [Nat.mul_zero]; exact Nat.mul_pos (pow_pos _) (pow_pos _)
 ·calc m * n < 4294967296 ^ wl m * n := Nat.mul_lt_mul_of_pos_right (qV m) (by omega)
   _ ≤ 4294967296 ^ wl m * 4294967296 ^ wl n := Nat.mul_le_mul_left _ (Nat.le_of_lt (qV n))
end Go.Proofs.YtfichkokppbipaaGreatDoor

/- Words: differences, products, quotients, as plain laws. No condition. -/
namespace Go.Proofs.YtfichkokppbipaaGreatDoor

theorem bZ (a : List Nat) (i : Nat) : wv (a.take (i + 1)) = wv (a.take i) + a.getD i 0 * 4294967296 ^ i := by
 rcases Nat.lt_or_ge i a.length with h | h
 ·rw [jv h, List.getD_eq_getElem?_getD, List.getElem?_eq_getElem h]; rfl
 ·rw [List.take_of_length_le h, List.take_of_length_le (by omega), List.getD_eq_getElem?_getD, List.getElem?_eq_none h]; simp
theorem il (k n : Nat) : bc (k + 1) n = bc k n ++ [n / 4294967296 ^ k % 4294967296] := by
 have h1 : bc k n ++ [n / 4294967296 ^ k % 4294967296] = bc (k + 1) (n % 4294967296 ^ (k + 1)) := by
  refine jf ((bV _ _).append (wOK.one (Nat.mod_lt _ (by decide)))) (by simp [aF]) ?_;rw [w9, aF, cg, Nat.pow_succ, Nat.mod_mul, Nat.mul_comm]
 have h2 := kE (bV (k + 1) n)
 rw [aF, cg] at h2;rw [h1, h2]
theorem mL {k m n : Nat} (h : m % 4294967296 ^ k = n % 4294967296 ^ k) : bc k m = bc k n := by
 have h2 := kE (bV k m)
 have h3 := kE (bV k n)
 rw [aF, cg] at h2 h3;rw [← h2, h, h3]
theorem uO (k m n : Nat) : bc k (m + n * 4294967296 ^ k) = bc k m := mL (Nat.add_mul_mod_self_right _ _ _)
theorem bb {a : List Nat} (h : wOK a) (i : Nat) : a.getD i 0 < 4294967296 := by
 rw [List.getD_eq_getElem?_getD]
 rcases Nat.lt_or_ge i a.length with h' | h'
 ·rw [List.getElem?_eq_getElem h']; exact h.get h'
 ·rw [List.getElem?_eq_none h']; decide
theorem dT {a : List Nat} {i : Nat} (h : i < a.length) : a.getD i 0 = a[i] := by
 rw [List.getD_eq_getElem?_getD, List.getElem?_eq_getElem h]; rfl
theorem b9 {a : List Nat} (h : wOK a) (i : Nat) : wv (a.take i) < 4294967296 ^ i :=
 Nat.lt_of_lt_of_le (d5 (h.take i)) (Nat.pow_le_pow_right (by decide) (by simp; omega))
theorem jd (a : List Nat) (k : Nat) : wv a = wv (a.take k) + 4294967296 ^ k * wv (a.drop k) := by
 have := eC (a.take k) (a.drop k)
 rw [List.take_append_drop] at this
 rcases Nat.lt_or_ge a.length k with h | h
 ·rw [this, List.drop_eq_nil_of_le (by omega)]; simp [wv]
 ·rw [List.length_take, Nat.min_eq_left h] at this; exact this
theorem iK {a : List Nat} {i : Nat} (hi : i < a.length) (y : Nat) : wv (a.set i y) + a.getD i 0 * 4294967296 ^ i = wv a + y * 4294967296 ^ i := by
 rw [dT hi]; exact Dd hi y
theorem g6 (a : List Nat) (i : Nat) : wv (a.drop i) = a.getD i 0 + 4294967296 * wv (a.drop (i + 1)) := by
 rcases Nat.lt_or_ge i a.length with h | h
 ·rw [List.drop_eq_getElem_cons h, dT h]; rfl
 ·rw [List.drop_eq_nil_of_le h, List.drop_eq_nil_of_le (by omega), List.getD_eq_getElem?_getD, List.getElem?_eq_none h]; simp [wv]
theorem mI {a : List Nat} (h : wOK a) (h0 : wv a = 0) (i : Nat) : a.getD i 0 = 0 := by rw [lX h, h0]; simp
theorem gj (a : List Nat) (i k y : Nat) (hi : i < a.length) : (a.set i y).getD k 0 = if k = i then y else a.getD k 0 := by
 rw [List.getD_eq_getElem?_getD, List.getD_eq_getElem?_getD, List.getElem?_set]
 by_cases h : i = k
 ·subst h; simp [hi]
 ·rw [if_neg h, if_neg (Ne.symm h)]
theorem lY (a : List Nat) (i k : Nat) : (a.drop i).getD k 0 = a.getD (i + k) 0 := by
 rw [List.getD_eq_getElem?_getD, List.getD_eq_getElem?_getD, List.getElem?_drop]
/-! ### Differences -/
def difN (x y : List Nat) (i : Nat) : Nat := 4294967296 ^ i + wv (x.take i) - wv (y.take i)
theorem s6 (x y : List Nat) : difN x y 0 = 1 := by simp [difN, wv]
theorem oU (x : List Nat) {y : List Nat} (hy : wOK y) (i : Nat) : difN x y (i + 1) + (y.getD i 0 + 1) * 4294967296 ^ i = (4294967296 + x.getD i 0) * 4294967296 ^ i + difN x y i := by
 unfold difN
 have h1 := b9 hy i
 have h2 := b9 hy (i + 1)
 rw [bZ, bZ] at *;rw [Nat.pow_succ] at *
 grind
theorem s7 (x : List Nat) {y : List Nat} (hy : wOK y) (i : Nat) : difN x y (i + 1) / 4294967296 ^ i + y.getD i 0 + 1 = 4294967296 + x.getD i 0 + difN x y i / 4294967296 ^ i := by
 have h := oU x hy i
 have hp := pow_pos i
 have h1 : _ / 4294967296 ^ i = _ / 4294967296 ^ i := congrArg (· / 4294967296 ^ i) h
 rw [Nat.add_mul_div_right _ _ hp, Nat.add_comm (_ * _), Nat.add_mul_div_right _ _ hp] at h1
 omega
theorem rD {x y : List Nat} (hx : wOK x) (i : Nat) : difN x y i / 4294967296 ^ i ≤ 1 := by
 unfold difN
 have h1 := b9 hx i
 have : (4294967296 ^ i + wv (x.take i) - wv (y.take i)) / 4294967296 ^ i < 2 := by
  rw [Nat.div_lt_iff_lt_mul (pow_pos i)]; omega
 omega
theorem vQ {x y : List Nat} (hl : y.length ≤ x.length) (h : wv y ≤ wv x) : bc x.length (difN x y x.length) = bc x.length (wv x - wv y) := by
 refine mL ?_
 unfold difN
 rw [List.take_of_length_le (Nat.le_refl _), List.take_of_length_le hl, Nat.add_sub_assoc h]
 simp

/-! ### Products -/
structure WTI (a b : List Nat) (i j : Nat) (out : List Nat) (c : Nat) : Prop where
 ok : wOK out
 len : out.length = a.length + b.length
 hi : ∀ k, i + b.length ≤ k → out.getD k 0 = 0
 val : wv out + c * 4294967296 ^ (i + j) = wv (a.take i) * wv b + a.getD i 0 * wv (b.take j) * 4294967296 ^ i
 cl : c < 4294967296

theorem WTI.bound {a b : List Nat} (ha : wOK a) (hb : wOK b) {i j : Nat} {out : List Nat} {c : Nat} (h : WTI a b i j out c) :
  a.getD i 0 * b.getD j 0 + out.getD (i + j) 0 + c < 18446744073709551616 := by
 have h1 := bb ha i
 have h2 := bb hb j
 have h3 := bb h.ok (i + j)
 have h4 := h.cl
 have : a.getD i 0 * b.getD j 0 ≤ 4294967295 * 4294967295 := Nat.mul_le_mul (by omega) (by omega)
 omega
theorem WTI.step {a b : List Nat} {i j : Nat} {out : List Nat} {c : Nat} (h : WTI a b i j out c) (hi : i < a.length) (hj : j < b.length)
  (hB : a.getD i 0 * b.getD j 0 + out.getD (i + j) 0 + c < 18446744073709551616) :
  WTI a b i (j + 1) (out.set (i + j) ((a.getD i 0 * b.getD j 0 + out.getD (i + j) 0 + c) % 4294967296)) ((a.getD i 0 * b.getD j 0 + out.getD (i + j) 0 + c) / 4294967296) := by
 have hlt : i + j < out.length := by rw [h.len]; omega
 have hs := iK hlt ((a.getD i 0 * b.getD j 0 + out.getD (i + j) 0 + c) % 4294967296)
 have hv := h.val
 refine ⟨h.ok.set _ (Nat.mod_lt _ (by decide)), by rw [List.length_set]; exact h.len, fun k hk => ?_, ?_, by omega⟩
 ·rw [gj _ _ _ _ hlt, if_neg (by omega)]; exact h.hi k hk
 ·rw [bZ, show i + (j + 1) = i + j + 1 from by omega, Nat.pow_succ]
  have hd := Nat.div_add_mod (a.getD i 0 * b.getD j 0 + out.getD (i + j) 0 + c) 4294967296
  generalize (a.getD i 0 * b.getD j 0 + out.getD (i + j) 0 + c) / 4294967296 = q at *;generalize (a.getD i 0 * b.getD j 0 + out.getD (i + j) 0 + c) % 4294967296 = r at *;generalize wv (out.set (i + j) r) = o' at *;rw [Nat.pow_add] at *;generalize 4294967296 ^ i = p at *;generalize 4294967296 ^ j = p' at *
  grind
theorem WTI.row {a b : List Nat} {i : Nat} {out : List Nat} {c : Nat} (h : WTI a b i b.length out c) (hi : i < a.length) :
  WTI a b (i + 1) 0 (out.set (i + b.length) c) 0 := by
 have hlt : i + b.length < out.length := by rw [h.len]; omega
 have hs := iK hlt c
 have h0 := h.hi (i + b.length) (Nat.le_refl _)
 have hv := h.val
 rw [h0] at hs;rw [List.take_of_length_le (Nat.le_refl _)] at hv;refine ⟨h.ok.set _ h.cl, by rw [List.length_set]; exact h.len, fun k hk => ?_, ?_, by decide⟩
 ·rw [gj _ _ _ _ hlt, if_neg (by omega)]; exact h.hi k (by omega)
 ·rw [bZ];simp only [List.take_zero, wv, Nat.mul_zero, Nat.zero_mul, Nat.add_zero] at *;rw [hs, hv]
  grind
theorem WTI.start (a b : List Nat) : WTI a b 0 0 (List.replicate (a.length + b.length) 0) 0 :=
 ⟨wOK.rep0 _, by simp, fun k _ => mI (wOK.rep0 _) (kD _) k, by simp [kD, wv], by decide⟩
theorem WTI.fin {a b : List Nat} {out : List Nat} (h : WTI a b a.length 0 out 0) : out = bc (a.length + b.length) (wv a * wv b) := by
 refine jf h.ok h.len ?_
 have hv := h.val
 simp only [List.take_zero, wv, Nat.mul_zero, Nat.zero_mul, Nat.add_zero, List.take_of_length_le (Nat.le_refl _)] at hv;exact hv

/-! ### Division by a word -/
def shq (a : List Nat) (d i : Nat) : List Nat := List.replicate i 0 ++ bc (a.length - i) (wv (a.drop i) / d)
theorem BE (a : List Nat) (d : Nat) {i : Nat} (hi : i ≤ a.length) : (shq a d i).length = a.length := by simp [shq, aF]; omega
theorem sh_step (a : List Nat) {d : Nat} (hd : 0 < d) (i : Nat) : wv (a.drop i) / d = (wv (a.drop (i + 1)) % d * 4294967296 + a.getD i 0) / d + 4294967296 * (wv (a.drop (i + 1)) / d) ∧
  wv (a.drop i) % d = (wv (a.drop (i + 1)) % d * 4294967296 + a.getD i 0) % d := by
 rw [g6]
 have h := Nat.div_add_mod (wv (a.drop (i + 1))) d
 generalize wv (a.drop (i + 1)) / d = q at *;generalize wv (a.drop (i + 1)) % d = r at *;rw [← h]
 have e : a.getD i 0 + 4294967296 * (d * q + r) = (r * 4294967296 + a.getD i 0) + d * (4294967296 * q) := by grind
 rw [e, Nat.add_mul_div_left _ _ hd, Nat.add_mul_mod_self_left];exact ⟨rfl, rfl⟩
theorem sh_digit {a : List Nat} (ha : wOK a) {d : Nat} (hd : 0 < d) (i : Nat) : (wv (a.drop (i + 1)) % d * 4294967296 + a.getD i 0) / d < 4294967296 := by
 have h1 := bb ha i
 have h2 := Nat.mod_lt (wv (a.drop (i + 1))) hd
 rw [Nat.div_lt_iff_lt_mul hd]
 have : (wv (a.drop (i + 1)) % d + 1) * 4294967296 ≤ d * 4294967296 := Nat.mul_le_mul_right _ h2
 rw [Nat.mul_comm 4294967296 d]; omega
theorem zy {a : List Nat} (ha : wOK a) {d : Nat} (hd : 0 < d) {i : Nat} (hi : i < a.length) :
  (shq a d (i + 1)).set i ((wv (a.drop (i + 1)) % d * 4294967296 + a.getD i 0) / d) = shq a d i := by
 unfold shq
 have e : a.length - i = (a.length - (i + 1)) + 1 := by omega
 rw [e, (sh_step a hd i).1, bc]
 have h := sh_digit ha hd i
 rw [Nat.add_mul_mod_self_left, Nat.mod_eq_of_lt h, Nat.add_mul_div_left _ _ (by decide), Nat.div_eq_of_lt h, Nat.zero_add];rw [List.replicate_succ', List.append_assoc, List.set_append_right _ _ (by simp)]
 simp

/-! ### Bits moved up -/
theorem qC {a : List Nat} (ha : wOK a) (n : Nat) (i : Nat) :
  wv (a.take (i + 1)) * 2 ^ n / 4294967296 ^ i = wv (a.take i) * 2 ^ n / 4294967296 ^ i + a.getD i 0 * 2 ^ n ∧ wv (a.take i) * 2 ^ n / 4294967296 ^ i < 2 ^ n := by
 refine ⟨?_, ?_⟩
 ·rw [bZ]
  have : (wv (a.take i) + a.getD i 0 * 4294967296 ^ i) * 2 ^ n = wv (a.take i) * 2 ^ n + (a.getD i 0 * 2 ^ n) * 4294967296 ^ i := by grind
  rw [this, Nat.add_mul_div_right _ _ (pow_pos i)]
 ·rw [Nat.div_lt_iff_lt_mul (pow_pos i), Nat.mul_comm (2 ^ n)];exact Nat.mul_lt_mul_of_pos_right (b9 ha i) (Nat.two_pow_pos n)

theorem zz {a : List Nat} (ha : wOK a) {n : Nat} (hn : n ≤ 31) (i : Nat) : wv (a.take i) * 2 ^ n < 4294967296 ^ (i + 1) := by
 have h1 := b9 ha i
 have h2 : 2 ^ n ≤ 4294967296 := Nat.le_trans (Nat.pow_le_pow_right (by decide) hn) (by decide)
 have h3 : wv (a.take i) * 2 ^ n ≤ wv (a.take i) * 4294967296 := Nat.mul_le_mul_left _ h2
 have h4 : wv (a.take i) * 4294967296 < 4294967296 ^ i * 4294967296 := Nat.mul_lt_mul_of_pos_right h1 (by decide)
 rw [Nat.pow_succ]; omega
theorem uU {a : List Nat} (ha : wOK a) {n : Nat} (hn : n ≤ 31) {i : Nat} (hi : i < a.length) :
  (bc (a.length + 1) (wv (a.take i) * 2 ^ n)).getD i 0 = wv (a.take i) * 2 ^ n / 4294967296 ^ i ∧ (bc (a.length + 1) (wv (a.take i) * 2 ^ n)).getD (i + 1) 0 = 0 ∧
   wv (bc (a.length + 1) (wv (a.take i) * 2 ^ n)) = wv (a.take i) * 2 ^ n := by
 have h1 := zz ha hn i
 have h2 : 4294967296 ^ (i + 1) ≤ 4294967296 ^ (a.length + 1) := Nat.pow_le_pow_right (by decide) (by omega)
 have h3 := (qC ha n i).2
 have h4 : 2 ^ n ≤ 4294967296 := Nat.le_trans (Nat.pow_le_pow_right (by decide) hn) (by decide)
 have hv : wv (bc (a.length + 1) (wv (a.take i) * 2 ^ n)) = wv (a.take i) * 2 ^ n := by rw [cg, Nat.mod_eq_of_lt (by omega)]
 refine ⟨?_, ?_, hv⟩
 ·rw [lX (bV _ _), hv, Nat.mod_eq_of_lt (by omega)]
 ·rw [lX (bV _ _), hv, Nat.div_eq_of_lt h1]
theorem BF {a : List Nat} (ha : wOK a) {n : Nat} (hn : n ≤ 31) {i : Nat} (hi : i < a.length) :
  ((bc (a.length + 1) (wv (a.take i) * 2 ^ n)).set i (wv (a.take i) * 2 ^ n / 4294967296 ^ i + a.getD i 0 * 2 ^ n % 4294967296)).set (i + 1) (a.getD i 0 * 2 ^ n / 4294967296) = bc (a.length + 1) (wv (a.take (i + 1)) * 2 ^ n) ∧
   wv (a.take i) * 2 ^ n / 4294967296 ^ i + a.getD i 0 * 2 ^ n % 4294967296 < 4294967296 := by
 obtain ⟨h1, h2, h3⟩ := uU ha hn hi
 have hd : a.getD i 0 * 2 ^ n % 4294967296 % 2 ^ n = 0 := by
  have : 4294967296 = 2 ^ n * 2 ^ (32 - n) := by rw [← Nat.pow_add, show n + (32 - n) = 32 from by omega]
  rw [this, Nat.mul_comm (a.getD i 0), Nat.mul_mod_mul_left, Nat.mul_mod_right]
 have hlow : a.getD i 0 * 2 ^ n % 4294967296 < 4294967296 := Nat.mod_lt _ (by decide)
 have hsm := (qC ha n i).2
 have hfit : wv (a.take i) * 2 ^ n / 4294967296 ^ i + a.getD i 0 * 2 ^ n % 4294967296 < 4294967296 := by
  have e : 4294967296 = 2 ^ n * 2 ^ (32 - n) := by rw [← Nat.pow_add, show n + (32 - n) = 32 from by omega]
  obtain ⟨q, hq⟩ := Nat.dvd_of_mod_eq_zero hd
  rw [hq] at hlow ⊢
  have h5 : q < 2 ^ (32 - n) := Nat.lt_of_mul_lt_mul_left (a := 2 ^ n) (by rw [← e]; exact hlow)
  have h6 : 2 ^ n * (q + 1) ≤ 2 ^ n * 2 ^ (32 - n) := Nat.mul_le_mul_left _ h5
  rw [← e, Nat.mul_succ] at h6
  omega
 refine ⟨?_, hfit⟩
 have hhi : a.getD i 0 * 2 ^ n / 4294967296 < 4294967296 := by
  have := bb ha i
  have h4 : 2 ^ n ≤ 4294967296 := Nat.le_trans (Nat.pow_le_pow_right (by decide) hn) (by decide)
  rw [Nat.div_lt_iff_lt_mul (by decide)]
  calc a.getD i 0 * 2 ^ n ≤ a.getD i 0 * 4294967296 := Nat.mul_le_mul_left _ h4
   _ < 4294967296 * 4294967296 := Nat.mul_lt_mul_of_pos_right this (by decide)
 have hl : (bc (a.length + 1) (wv (a.take i) * 2 ^ n)).length = a.length + 1 := aF _ _
 refine jf (((bV _ _).set _ hfit).set _ hhi) (by simp [aF]) ?_
 have s1 := iK (a := bc (a.length + 1) (wv (a.take i) * 2 ^ n)) (i := i) (by omega) (wv (a.take i) * 2 ^ n / 4294967296 ^ i + a.getD i 0 * 2 ^ n % 4294967296)
 have s2 := iK (a := (bc (a.length + 1) (wv (a.take i) * 2 ^ n)).set i (wv (a.take i) * 2 ^ n / 4294967296 ^ i + a.getD i 0 * 2 ^ n % 4294967296)) (i := i + 1) (by rw [List.length_set]; omega) (a.getD i 0 * 2 ^ n / 4294967296)
 rw [gj _ _ _ _ (by omega), if_neg (by omega), h2] at s2;rw [h1, h3] at s1;rw [bZ]
 have hdm := Nat.div_add_mod (a.getD i 0 * 2 ^ n) 4294967296
 rw [Nat.pow_succ] at s2
 have e3 : (wv (a.take i) + a.getD i 0 * 4294967296 ^ i) * 2 ^ n = wv (a.take i) * 2 ^ n + (a.getD i 0 * 2 ^ n) * 4294967296 ^ i := by grind
 simp only [Nat.zero_mul, Nat.add_zero] at s2;rw [e3, s2];generalize a.getD i 0 * 2 ^ n / 4294967296 = hi' at *;generalize a.getD i 0 * 2 ^ n % 4294967296 = lo' at *;generalize a.getD i 0 * 2 ^ n = t at *
 have e4 : t * 4294967296 ^ i = hi' * (4294967296 ^ i * 4294967296) + lo' * 4294967296 ^ i := by rw [← hdm]; grind
 rw [e4];rw [Nat.add_mul] at s1
 omega

/-! ### Long division: the guess of a digit -/
theorem wM {U V g rest top v1 v2 u2 w : Nat} (hV : (v1 * 4294967296 + v2) * w ≤ V) (hU : U < (top * 4294967296 + u2 + 1) * w)
  (he : g * v1 + rest = top) (h : rest * 4294967296 + u2 < g * v2) : U < g * V := by
 have h1 : g * ((v1 * 4294967296 + v2) * w) ≤ g * V := Nat.mul_le_mul_left _ hV
 have h2 : (top * 4294967296 + u2 + 1) * w ≤ g * ((v1 * 4294967296 + v2) * w) := by
  rw [← Nat.mul_assoc];refine Nat.mul_le_mul_right _ ?_
  subst he
  have : g * (v1 * 4294967296 + v2) = g * v1 * 4294967296 + g * v2 := by grind
  rw [this]; omega
 omega
theorem qZ {U V g rest top v1 v2 u2 w : Nat} (hV : (v1 * 4294967296 + v2) * w ≤ V) (hV' : V < (v1 * 4294967296 + v2 + 1) * w) (hU : (top * 4294967296 + u2) * w ≤ U)
  (he : g * v1 + rest = top) (hg : g < 4294967296) (h1 : 2147483648 ≤ v1) (h2 : v2 < 4294967296) (h : g * v2 ≤ rest * 4294967296 + u2 ∨ 4294967296 ≤ rest) : g * V ≤ U + V := by
 have e : g * (v1 * 4294967296 + v2) ≤ top * 4294967296 + u2 := by
  have e1 : g * (v1 * 4294967296 + v2) = g * v1 * 4294967296 + g * v2 := by grind
  rw [e1]
  rcases h with h | h
  ·subst he; omega
  ·have : g * v2 ≤ 4294967296 * 4294967296 := Nat.mul_le_mul (by omega) (by omega)
   subst he
   omega
 have e2 : g * V ≤ g * ((v1 * 4294967296 + v2 + 1) * w) := Nat.mul_le_mul_left _ (by omega)
 have e3 : g * ((v1 * 4294967296 + v2 + 1) * w) = g * (v1 * 4294967296 + v2) * w + g * w := by grind
 have e4 : g * (v1 * 4294967296 + v2) * w ≤ (top * 4294967296 + u2) * w := Nat.mul_le_mul_right _ e
 have e5 : g * w ≤ (v1 * 4294967296 + v2) * w := Nat.mul_le_mul_right _ (by omega)
 omega
end Go.Proofs.YtfichkokppbipaaGreatDoor

/- Words: long division, as plain laws. No condition. -/
namespace Go.Proofs.YtfichkokppbipaaGreatDoor

theorem pO {a : List Nat} (h : wOK a) (m : Nat) : wv (a.drop m) = wv a / 4294967296 ^ m := by
 rw [jd a m, Nat.add_mul_div_left _ _ (pow_pos m), Nat.div_eq_of_lt (b9 h m), Nat.zero_add]
theorem uK {a : List Nat} (h : wOK a) (m : Nat) : wv (a.take m) = wv a % 4294967296 ^ m := by
 rw [jd a m, Nat.add_mul_mod_self_left, Nat.mod_eq_of_lt (b9 h m)]

structure WMS (u v : List Nat) (g j i : Nat) (u' : List Nat) (c b : Nat) : Prop where
 ok : wOK u'
 len : u'.length = u.length
 lo : u'.take j = u.take j
 hi : u'.drop (j + i) = u.drop (j + i)
 val : wv u' + g * wv (v.take i) * 4294967296 ^ j = wv u + (c + b) * 4294967296 ^ (j + i)
 cl : c < 4294967296
 bl : b ≤ 1
theorem WMS.start {u : List Nat} (hu : wOK u) (v : List Nat) (g j : Nat) : WMS u v g j 0 u 0 0 :=
 ⟨hu, rfl, rfl, rfl, by simp [wv], by decide, by decide⟩
theorem WMS.bound {u v : List Nat} (hv : wOK v) {g j i : Nat} {u' : List Nat} {c b : Nat} (h : WMS u v g j i u' c b) (hg : g < 4294967296) : g * v.getD i 0 + c < 18446744073709551616 := by
 have h1 := bb hv i
 have h2 := h.cl
 have : g * v.getD i 0 ≤ 4294967295 * 4294967295 := Nat.mul_le_mul (by omega) (by omega)
 omega
theorem WMS.step {u v : List Nat} (hv : wOK v) {g j i : Nat} {u' : List Nat} {c b : Nat} (h : WMS u v g j i u' c b) (hg : g < 4294967296) (hi : j + i < u.length) :
  WMS u v g j (i + 1) (u'.set (j + i) ((u'.getD (j + i) 0 + 8589934592 - (g * v.getD i 0 + c) % 4294967296 - b) % 4294967296)) ((g * v.getD i 0 + c) / 4294967296)
   (if u'.getD (j + i) 0 < (g * v.getD i 0 + c) % 4294967296 + b then 1 else 0) := by
 have hB := h.bound hv hg
 have hlt : j + i < u'.length := by rw [h.len]; exact hi
 have hx := bb h.ok (j + i)
 have hs := iK hlt ((u'.getD (j + i) 0 + 8589934592 - (g * v.getD i 0 + c) % 4294967296 - b) % 4294967296)
 have hval := h.val
 have hbl := h.bl
 have hd := Nat.div_add_mod (g * v.getD i 0 + c) 4294967296
 have hr : (g * v.getD i 0 + c) % 4294967296 < 4294967296 := Nat.mod_lt _ (by decide)
 have hdig : (u'.getD (j + i) 0 + 8589934592 - (g * v.getD i 0 + c) % 4294967296 - b) % 4294967296 + (g * v.getD i 0 + c) % 4294967296 + b =
   u'.getD (j + i) 0 + 4294967296 * (if u'.getD (j + i) 0 < (g * v.getD i 0 + c) % 4294967296 + b then 1 else 0) := by split <;> omega
 refine ⟨h.ok.set _ (Nat.mod_lt _ (by decide)), by rw [List.length_set]; exact h.len, ?_, ?_, ?_, by omega, by split <;> omega⟩
 ·rw [List.take_set_of_le (by omega)]; exact h.lo
 ·rw [List.drop_set_of_lt (by omega)]
  have := congrArg (List.drop 1) h.hi
  rwa [List.drop_drop, List.drop_drop] at this
 ·rw [bZ, show j + (i + 1) = j + i + 1 from by omega, Nat.pow_succ];generalize (if u'.getD (j + i) 0 < (g * v.getD i 0 + c) % 4294967296 + b then 1 else 0) = b' at *;generalize (u'.getD (j + i) 0 + 8589934592 - (g * v.getD i 0 + c) % 4294967296 - b) % 4294967296 = y at *;generalize (g * v.getD i 0 + c) / 4294967296 = q at *;generalize (g * v.getD i 0 + c) % 4294967296 = r at *;generalize wv (u'.set (j + i) y) = o' at *;generalize u'.getD (j + i) 0 = x at *;rw [Nat.pow_add] at *;generalize 4294967296 ^ i = p at *;generalize 4294967296 ^ j = p' at *;clear hx hlt hB hr hbl
  have h1 : (y + r + b) * (p' * p) = (x + 4294967296 * b') * (p' * p) := by rw [hdig]
  have h2 : (4294967296 * q + r) * (p' * p) = (g * v.getD i 0 + c) * (p' * p) := by rw [hd]
  grind

structure WAB (u v : List Nat) (j i : Nat) (u' : List Nat) (c : Nat) : Prop where
 ok : wOK u'
 len : u'.length = u.length
 lo : u'.take j = u.take j
 hi : u'.drop (j + i) = u.drop (j + i)
 val : wv u' + c * 4294967296 ^ (j + i) = wv u + wv (v.take i) * 4294967296 ^ j
 cl : c ≤ 1
theorem WAB.start {u : List Nat} (hu : wOK u) (v : List Nat) (j : Nat) : WAB u v j 0 u 0 := ⟨hu, rfl, rfl, rfl, by simp [wv], by decide⟩
theorem WAB.step {u v : List Nat} (hv : wOK v) {j i : Nat} {u' : List Nat} {c : Nat} (h : WAB u v j i u' c) (hi : j + i < u.length) :
  WAB u v j (i + 1) (u'.set (j + i) ((u'.getD (j + i) 0 + v.getD i 0 + c) % 4294967296)) ((u'.getD (j + i) 0 + v.getD i 0 + c) / 4294967296) := by
 have hlt : j + i < u'.length := by rw [h.len]; exact hi
 have hx := bb h.ok (j + i)
 have hy := bb hv i
 have hcl := h.cl
 have hs := iK hlt ((u'.getD (j + i) 0 + v.getD i 0 + c) % 4294967296)
 have hval := h.val
 have hd := Nat.div_add_mod (u'.getD (j + i) 0 + v.getD i 0 + c) 4294967296
 refine ⟨h.ok.set _ (Nat.mod_lt _ (by decide)), by rw [List.length_set]; exact h.len, ?_, ?_, ?_, by omega⟩
 ·rw [List.take_set_of_le (by omega)]; exact h.lo
 ·rw [List.drop_set_of_lt (by omega)]
  have := congrArg (List.drop 1) h.hi
  rwa [List.drop_drop, List.drop_drop] at this
 ·rw [bZ, show j + (i + 1) = j + i + 1 from by omega, Nat.pow_succ];generalize (u'.getD (j + i) 0 + v.getD i 0 + c) / 4294967296 = q at *;generalize (u'.getD (j + i) 0 + v.getD i 0 + c) % 4294967296 = r at *;generalize wv (u'.set (j + i) r) = o' at *;generalize u'.getD (j + i) 0 = x at *;rw [Nat.pow_add] at *;generalize 4294967296 ^ i = p at *;generalize 4294967296 ^ j = p' at *;clear hx hlt hcl hy
  have h2 : (4294967296 * q + r) * (p' * p) = (x + v.getD i 0 + c) * (p' * p) := by rw [hd]
  grind

theorem iW {u u' : List Nat} (ho : wOK u) (h : wOK u') {m : Nat} (hd : u'.drop m = u.drop m) (hu : wv u < 4294967296 ^ m) : wv u' < 4294967296 ^ m := by
 rw [jd u' m, hd, pO ho, Nat.div_eq_of_lt hu, Nat.mul_zero, Nat.add_zero];exact b9 h m
theorem uM (u : List Nat) (j : Nat) : wv u = wv (u.take j) + 4294967296 ^ j * wv (u.drop j) := jd u j

theorem WMS.fits {u v : List Nat} {g j : Nat} {u' : List Nat} (h : WMS u v g j (v.length + 1) u' 0 0) (hD : wv (u.drop j) < (g + 1) * wv v) :
  g = wv (u.drop j) / wv v ∧ wv (u'.drop j) = wv (u.drop j) % wv v ∧ wv u' + g * wv v * 4294967296 ^ j = wv u := by
 have hval := h.val
 rw [List.take_of_length_le (by omega)] at hval;simp only [Nat.zero_mul, Nat.add_zero] at hval
 have h1 := uM u' j
 have h2 := uM u j
 rw [h.lo] at h1
 have key : wv (u'.drop j) + g * wv v = wv (u.drop j) := by
  have hp := pow_pos j
  refine Nat.eq_of_mul_eq_mul_left hp ?_
  have : 4294967296 ^ j * (wv (u'.drop j) + g * wv v) = 4294967296 ^ j * wv (u'.drop j) + g * wv v * 4294967296 ^ j := by grind
  rw [this]; omega
 have hlt : wv (u'.drop j) < wv v := by rw [Nat.add_mul] at hD; omega
 refine ⟨?_, ?_, hval⟩
 ·rw [← key, Nat.add_mul_div_right _ _ (by omega), Nat.div_eq_of_lt hlt, Nat.zero_add]
 ·rw [← key, Nat.add_mul_mod_self_right, Nat.mod_eq_of_lt hlt]
theorem WAB.fits {u v : List Nat} (hu : wOK u) {g j : Nat} {u' u'' : List Nat} {c : Nat} (h : WMS u v (g + 1) j (v.length + 1) u' 0 1) (k : WAB u' v j (v.length + 1) u'' c)
  (hU : wv u < 4294967296 ^ (j + (v.length + 1))) (hD : (g + 1) * wv v ≤ wv (u.drop j) + wv v) (hV : 0 < wv v) :
  g = wv (u.drop j) / wv v ∧ wv (u''.drop j) = wv (u.drop j) % wv v ∧ wv u'' + g * wv v * 4294967296 ^ j = wv u := by
 have hval := h.val
 have kval := k.val
 rw [List.take_of_length_le (by omega)] at hval kval
 have hl' := iW hu h.ok h.hi hU
 have hl'' := iW h.ok k.ok k.hi hl'
 have h1 := uM u' j
 have h2 := uM u j
 have h3 := uM u'' j
 rw [k.lo] at h3;rw [h.lo] at h1 h3
 have hcl := k.cl
 have hgd : 4294967296 ^ j * ((g + 1) * wv v) ≤ 4294967296 ^ j * (wv (u.drop j) + wv v) := Nat.mul_le_mul_left _ hD
 have e1 : 4294967296 ^ j * ((g + 1) * wv v) = g * wv v * 4294967296 ^ j + wv v * 4294967296 ^ j := by grind
 have e2 : 4294967296 ^ j * (wv (u.drop j) + wv v) = 4294967296 ^ j * wv (u.drop j) + wv v * 4294967296 ^ j := by grind
 have e3 : (g + 1) * wv v * 4294967296 ^ j = g * wv v * 4294967296 ^ j + wv v * 4294967296 ^ j := by grind
 rw [e3] at hval
 have hVp : 0 < wv v * 4294967296 ^ j := Nat.mul_pos hV (pow_pos j)
 have hc : c = 1 := by
  rcases Nat.lt_or_ge c 1 with h' | h'
  ·have : c = 0 := by omega
   subst this
   simp only [Nat.zero_mul, Nat.add_zero, Nat.zero_add, Nat.one_mul] at hval kval
   omega
  ·omega
 subst hc
 simp only [Nat.zero_add, Nat.one_mul] at hval kval
 have hval2 : wv u'' + g * wv v * 4294967296 ^ j = wv u := by omega
 have key : wv (u''.drop j) + g * wv v = wv (u.drop j) := by
  refine Nat.eq_of_mul_eq_mul_left (pow_pos j) ?_
  have : 4294967296 ^ j * (wv (u''.drop j) + g * wv v) = 4294967296 ^ j * wv (u''.drop j) + g * wv v * 4294967296 ^ j := by grind
  rw [this]; omega
 have hlt : wv (u''.drop j) < wv v := by
  have hb : wv u < (g + 1) * wv v * 4294967296 ^ j := by rw [e3]; omega
  have : wv u'' < wv v * 4294967296 ^ j := by rw [e3] at hb; omega
  rw [h3] at this
  have h5 : 4294967296 ^ j * wv (u''.drop j) < 4294967296 ^ j * wv v := by rw [Nat.mul_comm _ (wv v)]; omega
  exact Nat.lt_of_mul_lt_mul_left h5
 refine ⟨?_, ?_, hval2⟩
 ·rw [← key, Nat.add_mul_div_right _ _ hV, Nat.div_eq_of_lt hlt, Nat.zero_add]
 ·rw [← key, Nat.add_mul_mod_self_right, Nat.mod_eq_of_lt hlt]

structure WDV (U V L k : Nat) (u q : List Nat) (n : Nat) : Prop where
 oku : wOK u
 okq : wOK q
 lenu : u.length = L
 lenq : q.length + k = L
 top : wv (u.drop n) < V
 val : wv u + V * wv q = U
 qz : ∀ m, m < n → q.getD m 0 = 0
theorem WDV.start {u : List Nat} (hu : wOK u) {V k n : Nat} (hn : n + k = u.length) (ht : wv (u.drop n) < V) : WDV (wv u) V u.length k u (List.replicate n 0) n :=
 ⟨hu, wOK.rep0 _, rfl, by simpa using hn, ht, by rw [kD]; omega, fun m _ => mI (wOK.rep0 _) (kD _) m⟩
theorem WDV.step {U V L k : Nat} {u q u' : List Nat} {n g : Nat} (h : WDV U V L k u q (n + 1)) (hu' : wOK u') (hl : u'.length = u.length) (hn : n < q.length)
  (hr : wv (u'.drop n) = wv (u.drop n) % V) (hv : wv u' + g * V * 4294967296 ^ n = wv u) (hgl : g < 4294967296) (hV : 0 < V) : WDV U V L k u' (q.set n g) n := by
 have hs := iK hn g
 rw [h.qz n (by omega)] at hs;refine ⟨hu', h.okq.set _ hgl, by rw [hl]; exact h.lenu, by rw [List.length_set]; exact h.lenq, by rw [hr]; exact Nat.mod_lt _ hV, ?_, fun m hm => ?_⟩
 ·have := h.val
  simp only [Nat.zero_mul, Nat.add_zero] at hs;rw [hs, Nat.mul_add, ← this, ← hv]
  grind
 ·rw [gj _ _ _ _ hn, if_neg (by omega)]; exact h.qz m (by omega)
theorem WDV.fin {U V L k : Nat} {u q : List Nat} (h : WDV U V L k u q 0) (hV : 0 < V) : wv u = U % V ∧ wv q = U / V := by
 have h1 := h.top
 have h2 := h.val
 simp only [List.drop_zero] at h1
 constructor
 ·rw [← h2, Nat.add_mul_mod_self_left, Nat.mod_eq_of_lt h1]
 ·rw [← h2, Nat.add_mul_div_left _ _ hV, Nat.div_eq_of_lt h1, Nat.zero_add]
theorem WDV.digits {U L : Nat} {v u q : List Nat} {n : Nat} (hv : wOK v) (h : WDV U (wv v) L v.length u q (n + 1)) (hk : 2 ≤ v.length) :
  wv v = (v.getD (v.length - 1) 0 * 4294967296 + v.getD (v.length - 2) 0) * 4294967296 ^ (v.length - 2) + wv (v.take (v.length - 2)) ∧
  wv (u.drop n) = ((u.getD (n + v.length) 0 * 4294967296 + u.getD (n + v.length - 1) 0) * 4294967296 + u.getD (n + v.length - 2) 0) * 4294967296 ^ (v.length - 2) + wv ((u.drop n).take (v.length - 2)) ∧
  wv (v.take (v.length - 2)) < 4294967296 ^ (v.length - 2) ∧ wv ((u.drop n).take (v.length - 2)) < 4294967296 ^ (v.length - 2) ∧
  wv u < 4294967296 ^ (n + (v.length + 1)) := by
 obtain ⟨k, hk'⟩ : ∃ k, v.length = k + 2 := ⟨v.length - 2, by omega⟩
 have ht := h.top
 have hvl := d5 hv
 have hud : wOK (u.drop n) := h.oku.drop n
 have hU : wv u < 4294967296 ^ (n + (v.length + 1)) := by
  rw [jd u (n + 1)]
  have h1 := b9 h.oku (n + 1)
  have h2 : wv (u.drop (n + 1)) + 1 ≤ 4294967296 ^ v.length := by omega
  have h3 := Nat.mul_le_mul_left (4294967296 ^ (n + 1)) h2
  rw [← Nat.pow_add] at h3;rw [show n + (v.length + 1) = n + 1 + v.length from by omega];rw [Nat.mul_add] at h3
  omega
 refine ⟨?_, ?_, b9 hv _, b9 hud _, hU⟩
 ·rw [hk', show k + 2 - 1 = k + 1 from by omega, show k + 2 - 2 = k from by omega]
  have e1 := bZ v (k + 1)
  rw [List.take_of_length_le (by omega), bZ v k] at e1;rw [e1, Nat.pow_succ]; grind
 ·rw [hk', show n + (k + 2) - 1 = n + (k + 1) from by omega, show n + (k + 2) - 2 = n + k from by omega]
  have e0 : wv ((u.drop n).take (k + 2 + 1)) = wv (u.drop n) := by
   rw [uK hud, Nat.mod_eq_of_lt];rw [pO h.oku, Nat.div_lt_iff_lt_mul (pow_pos n), ← Nat.pow_add];rw [hk', show n + (k + 2 + 1) = k + 2 + 1 + n from by omega] at hU;exact hU
  have e1 := bZ (u.drop n) (k + 2)
  rw [e0, bZ _ (k + 1), bZ _ k, lY, lY, lY] at e1;rw [show k + 2 - 2 = k from by omega, e1, Nat.pow_succ, Nat.pow_succ]
  grind
theorem iC {v : List Nat} {i : Nat} (h : v.length ≤ i) : v.getD i 0 = 0 := by rw [List.getD_eq_getElem?_getD, List.getElem?_eq_none h]; rfl
theorem WMS.last {u v : List Nat} (hv : wOK v) {g j : Nat} {u' : List Nat} {c b : Nat} (h : WMS u v g j v.length u' c b) (hg : g < 4294967296) (hi : j + v.length < u.length) :
  WMS u v g j (v.length + 1) (u'.set (j + v.length) ((u'.getD (j + v.length) 0 + 8589934592 - c - b) % 4294967296)) 0 (if u'.getD (j + v.length) 0 < c + b then 1 else 0) := by
 have := h.step hv hg hi
 have hc := h.cl
 rw [iC (Nat.le_refl _), Nat.mul_zero, Nat.zero_add, Nat.mod_eq_of_lt hc, Nat.div_eq_of_lt hc] at this;exact this
theorem WMS.pos {u v : List Nat} (hu : wOK u) {g j : Nat} {u' : List Nat} (h : WMS u v g j (v.length + 1) u' 0 1) (hU : wv u < 4294967296 ^ (j + (v.length + 1))) : 0 < g := by
 rcases Nat.eq_zero_or_pos g with h0 | h0
 ·subst h0
  have h1 := iW hu h.ok h.hi hU
  have h2 := h.val
  simp only [Nat.zero_mul, Nat.add_zero, Nat.zero_add, Nat.one_mul] at h2
  omega
 ·exact h0
theorem WAB.last {u v : List Nat} (hv : wOK v) {j : Nat} {u' : List Nat} {c : Nat} (h : WAB u v j v.length u' c) (hi : j + v.length < u.length) :
  WAB u v j (v.length + 1) (u'.set (j + v.length) ((u'.getD (j + v.length) 0 + c) % 4294967296)) ((u'.getD (j + v.length) 0 + c) / 4294967296) := by
 have := h.step hv hi
 rw [iC (Nat.le_refl _), Nat.add_zero] at this;exact this
theorem vC {U V top v1 v2 u2 w : Nat} (hV : (v1 * 4294967296 + v2) * w ≤ V) (hU : U < (top * 4294967296 + u2 + 1) * w) (h1 : 0 < v1) (h2 : u2 < 4294967296) : U < (top / v1 + 1) * V := by
 have hd := Nat.div_add_mod top v1
 have hm := Nat.mod_lt top h1
 have e1 : (top / v1 + 1) * ((v1 * 4294967296 + v2) * w) ≤ (top / v1 + 1) * V := Nat.mul_le_mul_left _ hV
 have e2 : (top * 4294967296 + u2 + 1) * w ≤ (top / v1 + 1) * ((v1 * 4294967296 + v2) * w) := by
  rw [← Nat.mul_assoc];refine Nat.mul_le_mul_right _ ?_;generalize top / v1 = g at *
  have e3 : (g + 1) * (v1 * 4294967296 + v2) = (v1 * g + v1) * 4294967296 + (g + 1) * v2 := by grind
  rw [e3]; omega
 omega
theorem yl (k n : Nat) : (bc (k + 1) n).take k = bc k n := by
 rw [il, List.take_append_of_le_length (by rw [aF]; omega), List.take_of_length_le (by rw [aF]; omega)]
theorem nU {k m : Nat} (n : Nat) (h : m < k) : (bc k n).getD m 0 = n / 4294967296 ^ m % 4294967296 := by
 rw [lX (bV _ _), cg]
 obtain ⟨d, rfl⟩ : ∃ d, k = m + (d + 1) := ⟨k - m - 1, by omega⟩
 rw [Nat.pow_add, Nat.mod_mul, Nat.add_mul_div_left _ _ (pow_pos m), Nat.div_eq_of_lt (Nat.mod_lt _ (pow_pos m)), Nat.zero_add, Nat.pow_succ, Nat.mul_comm _ 4294967296, Nat.mod_mul_right_mod]
theorem sN {a b : List Nat} (hl : a.length = b.length) (h : ∀ m, m < a.length → a.getD m 0 = b.getD m 0) : a = b := by
 apply List.ext_getElem hl
 intro i h1 h2
 have := h i h1
 rwa [dT h1, dT h2] at this
theorem sh {u : List Nat} {n : Nat} (hn : n ≤ 31) (i : Nat) (hu : wOK u) : (u.getD (i + 1) 0 * 4294967296 + u.getD i 0) / 2 ^ n % 4294967296 = wv u / 2 ^ n / 4294967296 ^ i % 4294967296 := by
 rw [Nat.div_div_eq_div_mul, Nat.mul_comm (2 ^ n), ← Nat.div_div_eq_div_mul, ← pO hu, g6, g6]
 have e : 4294967296 = 2 ^ n * 2 ^ (32 - n) := by rw [← Nat.pow_add, show n + (32 - n) = 32 from by omega]
 have e1 : u.getD i 0 + 4294967296 * (u.getD (i + 1) 0 + 4294967296 * wv (u.drop (i + 1 + 1))) = (u.getD (i + 1) 0 * 4294967296 + u.getD i 0) + 2 ^ n * (4294967296 * (2 ^ (32 - n) * wv (u.drop (i + 1 + 1)))) := by
  generalize wv (u.drop (i + 1 + 1)) = z
  have : 2 ^ n * (4294967296 * (2 ^ (32 - n) * z)) = 4294967296 * ((2 ^ n * 2 ^ (32 - n)) * z) := by grind
  rw [this, ← e]; omega
 rw [e1, Nat.add_mul_div_left _ _ (Nat.two_pow_pos n), Nat.add_mul_mod_self_left]
def pM (a b : List Nat) : List Nat := if wv a < wv b then [] else if b.length = 1 then bc a.length (wv a / wv b) else bc (a.length + 1 - b.length) (wv a / wv b)
def pL (a b : List Nat) : List Nat := if wv a < wv b then a else if b.length = 1 then [wv a % wv b] else bc b.length (wv a % wv b)
theorem Cy (a b : List Nat) : wOK (pM a b) := by
 unfold pM; split
 ·exact wOK.nil
 ·split <;> exact bV _ _
theorem AW (a b : List Nat) : (pM a b).length ≤ a.length + 1 := by
 unfold pM; split
 ·simp
 ·split <;> rw [aF] <;> omega
theorem Cw {a b : List Nat} (ha : wOK a) (hb : wOK b) (hn : b ≠ []) (t : j4 b) : wOK (pL a b) := by
 unfold pL; split
 ·exact ha
 ·split
  ·refine wOK.one ?_
   have h1 := mJ t hn
   have h2 := d5 hb
   rename_i h3
   have h4 : 0 < wv b := Nat.lt_of_lt_of_le (pow_pos _) h1
   rw [h3, Nat.pow_one] at h2;exact Nat.lt_trans (Nat.mod_lt _ h4) h2
  ·exact bV _ _
theorem AV (a b : List Nat) : (pL a b).length ≤ a.length + b.length := by
 unfold pL; split
 ·omega
 ·split
  ·simp; omega
  ·rw [aF]; omega
theorem Cu {a b : List Nat} (hb : wOK b) (hn : b ≠ []) (t : j4 b) : wv (pL a b) = wv a % wv b := by
 have h1 := mJ t hn
 have h4 : 0 < wv b := Nat.lt_of_lt_of_le (pow_pos _) h1
 unfold pL; split
 ·rename_i h; rw [Nat.mod_eq_of_lt h]
 ·split
  ·simp [wv]
  ·rw [cg, Nat.mod_eq_of_lt];exact Nat.lt_trans (Nat.mod_lt _ h4) (d5 hb)
theorem Cx {a b : List Nat} (ha : wOK a) (hn : b ≠ []) (t : j4 b) : wv (pM a b) = wv a / wv b := by
 have h1 := mJ t hn
 have h4 : 0 < wv b := Nat.lt_of_lt_of_le (pow_pos _) h1
 have h2 := d5 ha
 unfold pM; split
 ·rename_i h; rw [Nat.div_eq_of_lt h]; rfl
 ·rename_i h
  split
  ·rw [cg, Nat.mod_eq_of_lt];exact Nat.lt_of_le_of_lt (Nat.div_le_self _ _) h2
  ·rw [cg, Nat.mod_eq_of_lt];rw [Nat.div_lt_iff_lt_mul h4]
   have hl : b.length ≤ a.length + 1 := by
    rcases Nat.lt_or_ge (a.length + 1) b.length with h' | h'
    ·have : 4294967296 ^ a.length ≤ 4294967296 ^ (b.length - 1) := Nat.pow_le_pow_right (by decide) (by omega)
     omega
    ·exact h'
   have hbl : b.length ≠ 0 := by simpa using hn
   have : 4294967296 ^ (a.length + 1 - b.length) * 4294967296 ^ (b.length - 1) ≤ 4294967296 ^ (a.length + 1 - b.length) * wv b := Nat.mul_le_mul_left _ h1
   rw [← Nat.pow_add, show a.length + 1 - b.length + (b.length - 1) = a.length from by omega] at this
   omega
end Go.Proofs.YtfichkokppbipaaGreatDoor

/- Rationals: numerators and denominators, and how many words they have. No condition. -/
namespace Go.Proofs.YtfichkokppbipaaGreatDoor

def zl (z : Int) : Nat := wl z.natAbs
theorem nT (z : Int) : zl (-z) = zl z := by unfold zl; rw [Int.natAbs_neg]
theorem dC (x y : Int) : zl (x * y) ≤ zl x + zl y := by unfold zl; rw [Int.natAbs_mul]; exact za _ _
theorem vV (x y : Int) : zl (x + y) ≤ max (zl x) (zl y) + 1 := by
 unfold zl
 exact Nat.le_trans (bU (Int.natAbs_add_le x y)) (zb _ _)
theorem Dc (n : Nat) : zl (n : Int) = wl n := by unfold zl; rw [Int.natAbs_natCast]
theorem y8 {n : Nat} (h : 0 < n) : 1 ≤ wl n := by
 unfold wl
 have := List.length_pos_iff.2 (fun h' => by rw [ep] at h'; omega : wof n ≠ [])
 exact this
theorem y9 : wl 1 = 1 := by
 have := r9 (n := 1) (k := 1) (by decide)
 have := y8 (n := 1) (by decide)
 omega
theorem p8 {n : Int} (h : -9223372036854775808 ≤ n ∧ n ≤ 9223372036854775807) : zl n ≤ 2 := by
 unfold zl
 exact r9 (by show n.natAbs < 18446744073709551616; omega)

def ql (q : Rat) : Nat := max (zl q.num) (wl q.den)
theorem dE (q : Rat) : zl q.num ≤ ql q := Nat.le_max_left _ _
theorem d9 (q : Rat) : zl (q.den : Int) ≤ ql q := by rw [Dc]; exact Nat.le_max_right _ _
theorem wz (q : Rat) : 1 ≤ ql q := Nat.le_trans (y8 (Nat.pos_of_ne_zero q.den_nz)) (Nat.le_max_right _ _)
theorem qU (x : Int) (g : Nat) : (x / (g : Int)).natAbs ≤ x.natAbs := by
 rcases Nat.eq_zero_or_pos g with h | h
 ·subst h; simp
 ·exact Int.natAbs_ediv_le_natAbs x g
theorem gm (x y : Int) : ql (Rat.divInt x y) ≤ max 1 (max (zl x) (zl y)) := by
 unfold ql
 have h1 : zl (Rat.divInt x y).num ≤ zl x := by
  unfold zl
  refine bU ?_;rw [Rat.num_divInt];refine Nat.le_trans (qU _ _) ?_;rw [Int.natAbs_mul]
  have : y.sign.natAbs ≤ 1 := by
   rcases Int.lt_trichotomy y 0 with h | h | h
   ·rw [Int.sign_eq_neg_one_of_neg h]; decide
   ·subst h; decide
   ·rw [Int.sign_eq_one_of_pos h]; decide
  calc y.sign.natAbs * x.natAbs ≤ 1 * x.natAbs := Nat.mul_le_mul_right _ this
   _ = x.natAbs := Nat.one_mul _
 have h2 : wl (Rat.divInt x y).den ≤ max 1 (zl y) := by
  rw [Rat.den_divInt]
  split
  ·rw [y9]; omega
  ·unfold zl
   exact Nat.le_trans (bU (Nat.div_le_self _ _)) (Nat.le_max_right _ _)
 omega
theorem mF (a b : Rat) : a + b = Rat.divInt (a.num * b.den + b.num * a.den) ((a.den : Int) * b.den) := by
 rw [Rat.add_def', ← Rat.divInt_ofNat]; rfl
theorem rC (a b : Rat) : a * b = Rat.divInt (a.num * b.num) ((a.den : Int) * b.den) := by
 rw [Rat.mul_def', ← Rat.divInt_ofNat]; rfl
theorem pC (a : Rat) : Rat.divInt a.num a.den = a := Rat.num_divInt_den a
theorem zV (a b : Rat) : ql (a + b) ≤ ql a + ql b + 1 := by
 rw [mF];refine Nat.le_trans (gm _ _) ?_
 have h1 := vV (a.num * b.den) (b.num * a.den)
 have h2 := dC a.num b.den
 have h3 := dC b.num a.den
 have h4 := dC a.den b.den
 have h5 := dE a
 have h6 := d9 a
 have h7 := dE b
 have h8 := d9 b
 omega
theorem zU (a b : Rat) : ql (a * b) ≤ ql a + ql b := by
 rw [rC];refine Nat.le_trans (gm _ _) ?_
 have h2 := dC a.num b.num
 have h4 := dC a.den b.den
 have h5 := dE a
 have h6 := d9 a
 have h7 := dE b
 have h8 := d9 b
 have h9 := wz a
 omega
theorem tR (a : Rat) : ql (-a) = ql a := by
 unfold ql
 rw [Rat.neg_num, Rat.neg_den, nT]
theorem zT (a b : Rat) : ql (a - b) ≤ ql a + ql b + 1 := by
 have := zV a (-b)
 rwa [tR, ← Rat.sub_eq_add_neg] at this
theorem DB (n : Int) : ql (n : Rat) = max (zl n) 1 := by
 unfold ql
 rw [Rat.num_intCast, Rat.den_intCast, y9]
theorem rB (n : Int) : Rat.divInt n 1 = (n : Rat) := by
 rw [Rat.divInt_eq_div]
 show (n : Rat) / ((1 : Int) : Rat) = n
 rw [Rat.intCast_one]
 grind
theorem xH (x y : Int) : (Rat.divInt x y).num = (y.sign * x) / (Int.gcd x y : Int) := by rw [Rat.num_divInt, Int.gcd_comm]
theorem x8 {x y : Int} (h : y ≠ 0) : ((Rat.divInt x y).den : Int) = (y.natAbs : Int) / (Int.gcd x y : Int) := by
 rw [Rat.den_divInt, if_neg h, Int.gcd_comm]; rfl
/-! ### Bounds put together -/
theorem eJ {a k m : Nat} (h : a ≤ k) (hk : Nat.ble k m = true) : a ≤ m := Nat.le_trans h (Nat.le_of_ble_eq_true hk)
theorem r6 {x y : Int} {k l : Nat} (hx : zl x ≤ k) (hy : zl y ≤ l) : zl (x * y) ≤ k + l := Nat.le_trans (dC x y) (Nat.add_le_add hx hy)
theorem aU {x y : Rat} {k l : Nat} (hx : ql x ≤ k) (hy : ql y ≤ l) : ql (x * y) ≤ k + l := Nat.le_trans (zU x y) (Nat.add_le_add hx hy)
theorem yC {x y : Rat} {k l : Nat} (hx : ql x ≤ k) (hy : ql y ≤ l) : ql (x + y) ≤ k + l + 1 := Nat.le_trans (zV x y) (Nat.add_le_add_right (Nat.add_le_add hx hy) 1)
theorem sC {x y : Rat} {k l : Nat} (hx : ql x ≤ k) (hy : ql y ≤ l) : ql (x - y) ≤ k + l + 1 := Nat.le_trans (zT x y) (Nat.add_le_add_right (Nat.add_le_add hx hy) 1)
theorem sE {x : Rat} {k : Nat} (hx : ql x ≤ k) : ql (-x) ≤ k := by rw [tR]; exact hx
theorem im {x : Rat} {k : Nat} (hx : ql x ≤ k) : zl x.num ≤ k := Nat.le_trans (dE x) hx
theorem io {x : Rat} {k : Nat} (hx : ql x ≤ k) : zl (x.den : Int) ≤ k := Nat.le_trans (d9 x) hx
theorem tS {x y : Int} {k : Nat} (hk : Nat.ble 1 k = true) (hx : zl x ≤ k) (hy : zl y ≤ k) : ql (Rat.divInt x y) ≤ k :=
 Nat.le_trans (gm x y) (Nat.max_le.2 ⟨Nat.le_of_ble_eq_true hk, Nat.max_le.2 ⟨hx, hy⟩⟩)
end Go.Proofs.YtfichkokppbipaaGreatDoor

/- Rotations as pairs of integers. No condition. -/
namespace Go.Proofs.YtfichkokppbipaaGreatDoor

def Fy (p q : Int) : Bool := decide (q < 0) || (decide (q = 0) && decide (p < 0))
def rg (p q : Int) : Int := if Fy p q then -(Int.gcd p q : Int) else (Int.gcd p q : Int)
def rP (p q : Int) : Int := if p = 0 ∧ q = 0 then 0 else p / rg p q
def rQ (p q : Int) : Int := if p = 0 ∧ q = 0 then 1 else q / rg p q

def Fg (p q : Int) : Rat := Rat.divInt (rQ p q * rQ p q - rP p q * rP p q) (rQ p q * rQ p q + rP p q * rP p q)
def EE (p q : Int) : Rat := Rat.divInt (rQ p q * rP p q + rP p q * rQ p q) (rQ p q * rQ p q + rP p q * rP p q)
def thP (p q r s : Int) : Int := rP (rQ p q * rP r s + rP p q * rQ r s) (rQ p q * rQ r s - rP p q * rP r s)
def thQ (p q r s : Int) : Int := rQ (rQ p q * rP r s + rP p q * rQ r s) (rQ p q * rQ r s - rP p q * rP r s)
end Go.Proofs.YtfichkokppbipaaGreatDoor

/- Roots of a forest over numbers, and the numbers of its trees. No condition. -/
namespace Go.Proofs.YtfichkokppbipaaGreatDoor

def fnd (r : List Nat) : Nat → Nat → Nat
 | 0, v => v
 | k + 1, v => if r.getD v 0 = v then v else fnd r k (r.getD v 0)
def fd (r : List Nat) (v : Nat) : Nat := fnd r v v
def RG (r : List Nat) : Prop := ∀ v, r.getD v 0 ≤ v
def uni (r : List Nat) (f t : Nat) : List Nat := r.set (max (fd r f) (fd r t)) (min (fd r f) (fd r t))
def num (r : List Nat) : Nat → List Nat × Nat
 | 0 => ([], 0)
 | v + 1 => if fd r v = v then ((num r v).1 ++ [(num r v).2], (num r v).2 + 1) else ((num r v).1 ++ [(num r v).1.getD (fd r v) 0], (num r v).2)
end Go.Proofs.YtfichkokppbipaaGreatDoor

/- Components of a graph: the least member of each, by joined trees and by repeated minima. No condition. -/
namespace Go.Proofs.YtfichkokppbipaaGreatDoor

inductive Cnn (ps : List (Nat × Nat)) : Nat → Nat → Prop
 | refl (a : Nat) : Cnn ps a a
 | step {a b c : Nat} (h : Cnn ps a b) (hp : (b, c) ∈ ps ∨ (c, b) ∈ ps) : Cnn ps a c
section
variable {ps : List (Nat × Nat)} {a b c : Nat}
theorem Cnn.trans (h : Cnn ps a b) (h' : Cnn ps b c) : Cnn ps a c := by
 induction h' with
 | refl => exact h
 | step _ hp ih => exact .step ih hp
theorem Cnn.one (hp : (a, b) ∈ ps ∨ (b, a) ∈ ps) : Cnn ps a b := .step (.refl a) hp
theorem Cnn.symm (h : Cnn ps a b) : Cnn ps b a := by
 induction h with
 | refl => exact .refl _
 | step _ hp ih => exact (Cnn.one hp.symm).trans ih
theorem Cnn.mono {qs : List (Nat × Nat)} (hs : ∀ p ∈ ps, p ∈ qs) (h : Cnn ps a b) : Cnn qs a b := by
 induction h with
 | refl => exact .refl _
 | step _ hp ih => exact .step ih (hp.imp (hs _) (hs _))
theorem Cnn.nil (h : Cnn [] a b) : a = b := by
 induction h with
 | refl => rfl
 | step _ hp _ => rcases hp with hp | hp <;> cases hp
theorem Cnn.lt {n : Nat} (hn : ∀ p ∈ ps, p.1 < n ∧ p.2 < n) (h : Cnn ps a b) (ha : a < n) : b < n := by
 induction h with
 | refl => exact ha
 | step _ hp _ => exact hp.elim (fun hp => (hn _ hp).2) (fun hp => (hn _ hp).1)
end

/-! ### By repeated minima -/
end Go.Proofs.YtfichkokppbipaaGreatDoor

/- Cosine and sine; sums over links. No condition. -/
namespace Go.Proofs.YtfichkokppbipaaGreatDoor

end Go.Proofs.YtfichkokppbipaaGreatDoor

/- Rotations as pairs up to a factor. No condition. -/
namespace Go.Proofs.YtfichkokppbipaaGreatDoor

def nz (a : Int × Int) : Prop := ¬ (a.1 = 0 ∧ a.2 = 0)
def Px (a b : Int × Int) : Prop := a.1 * b.2 = b.1 * a.2
theorem Px.refl (a : Int × Int) : Px a a := rfl
theorem Px.symm {a b : Int × Int} (h : Px a b) : Px b a := Eq.symm h
def cs2 (a : Int × Int) : Rat := ((a.2 * a.2 - a.1 * a.1 : Int) : Rat) / ((a.2 * a.2 + a.1 * a.1 : Int) : Rat)
end Go.Proofs.YtfichkokppbipaaGreatDoor

/- Powers of rotations, their orders; transforms. No condition. -/
namespace Go.Proofs.YtfichkokppbipaaGreatDoor

def Cn2 (a : Int × Int) : Prop := Nat.Coprime a.1.natAbs a.2.natAbs ∧ (0 < a.2 ∨ (a.2 = 0 ∧ 0 < a.1))
theorem Cn2.nz {a : Int × Int} (h : Cn2 a) : nz a := fun e => by
 rcases h.2 with h | h <;> omega
end Go.Proofs.YtfichkokppbipaaGreatDoor

/- Which powers are the identity; transforms; marks. No condition. -/
namespace Go.Proofs.YtfichkokppbipaaGreatDoor

end Go.Proofs.YtfichkokppbipaaGreatDoor

/- Sums and determinants of rationals. No condition. -/
namespace Go.Proofs.YtfichkokppbipaaGreatDoor

def sm : Nat → (Nat → Rat) → Rat
 | 0, _ => 0
 | n + 1, f => sm n f + f n
theorem az {f g : Nat → Rat} : ∀ {n : Nat}, (∀ i, i < n → f i = g i) → sm n f = sm n g
 | 0, _ => rfl
 | n + 1, h => by simp only [sm]; rw [az (n := n) (fun i hi => h i (by omega)), h n (by omega)]
theorem tA : ∀ n : Nat, sm n (fun _ => 0) = 0
 | 0 => rfl
 | n + 1 => by simp only [sm]; rw [tA n]; grind
theorem gJ {n : Nat} {f : Nat → Rat} (h : ∀ i, i < n → f i = 0) : sm n f = 0 := by rw [az h, tA]
theorem kg (x y : Rat) (f g : Nat → Rat) : ∀ n : Nat, sm n (fun i => x * f i + y * g i) = x * sm n f + y * sm n g
 | 0 => by simp only [sm]; grind
 | n + 1 => by simp only [sm]; rw [kg x y f g n]; grind
theorem iu (f g : Nat → Rat) (n : Nat) : sm n (fun i => f i + g i) = sm n f + sm n g := by
 have := kg 1 1 f g n
 rw [az (g := fun i => 1 * f i + 1 * g i) (fun i _ => by grind), this]; grind
theorem gU (x : Rat) (f : Nat → Rat) (n : Nat) : sm n (fun i => x * f i) = x * sm n f := by
 have := kg x 0 f f n
 rw [az (g := fun i => x * f i + 0 * f i) (fun i _ => by grind), this]; grind
theorem tC (f : Nat → Rat) (n : Nat) : sm n (fun i => - f i) = - sm n f := by
 have := gU (-1) f n
 rw [az (g := fun i => (-1) * f i) (fun i _ => by grind), this]; grind
theorem kJ (f : Nat → Nat → Rat) (m : Nat) : ∀ n : Nat, sm n (fun i => sm m (fun j => f i j)) = sm m (fun j => sm n (fun i => f i j))
 | 0 => by simp only [sm]; rw [tA]
 | n + 1 => by simp only [sm]; rw [kJ f m n, ← iu]
theorem d7 {n j : Nat} (f : Nat → Rat) (hj : j < n) (h : ∀ i, i < n → i ≠ j → f i = 0) : sm n f = f j := by
 induction n with
 | zero => omega
 | succ n ih =>
  simp only [sm]
  by_cases hn : j = n
  ·subst hn
   rw [gJ (fun i hi => h i (by omega) (by omega))]; grind
  ·rw [ih (by omega) (fun i hi hne => h i (by omega) hne), h n (by omega) (by omega)]; grind
theorem tB {n a b : Nat} (f : Nat → Rat) (ha : a < n) (hb : b < n) (hab : a ≠ b) : sm n f = f a + f b + sm n (fun i => if i = a ∨ i = b then 0 else f i) := by
 have e : sm n f = sm n (fun i => (if i = a then f a else 0) + ((if i = b then f b else 0) + (if i = a ∨ i = b then 0 else f i))) := az fun i _ => by
  by_cases h1 : i = a
  ·subst h1; rw [if_pos rfl, if_neg hab, if_pos (Or.inl rfl)]; grind
  ·by_cases h2 : i = b
   ·subst h2; rw [if_neg h1, if_pos rfl, if_pos (Or.inr rfl)]; grind
   ·rw [if_neg h1, if_neg h2, if_neg (by omega)]; grind
 rw [e, iu, iu, d7 (j := a) _ ha (fun i _ h => if_neg h), d7 (j := b) _ hb (fun i _ h => if_neg h), if_pos rfl, if_pos rfl]
 grind
def sk (i k : Nat) : Nat := if k < i then k else k + 1
theorem CQ (i k : Nat) : sk i k ≠ i := by unfold sk; split <;> omega
theorem m9 {i k n : Nat} (h : k < n) : sk i k < n + 1 := by unfold sk; split <;> omega
theorem bW (n : Nat) (f : Nat → Rat) : sm (n + 1) f = sm n f + f n := rfl
theorem xk (f : Nat → Rat) {i : Nat} : ∀ {n : Nat}, i ≤ n → sm n (fun k => f (sk i k)) = sm (n + 1) (fun l => if l = i then 0 else f l)
 | 0, h => by
  have : i = 0 := by omega
  subst this
  rw [bW];simp only [sm, if_true]; grind
 | n + 1, h => by
  rw [bW (n + 1)]
  by_cases hi : i = n + 1
  ·subst hi
   have e1 : sm (n + 1) (fun k => f (sk (n + 1) k)) = sm (n + 1) (fun l => if l = n + 1 then 0 else f l) := az fun k hk => by
    rw [if_neg (by omega)]; unfold sk; rw [if_pos hk]
   rw [e1];simp only [if_true]; grind
  ·have ih := xk f (i := i) (n := n) (by omega)
   have e2 : sk i n = n + 1 := by unfold sk; rw [if_neg (by omega)]
   rw [bW n (fun k => f (sk i k)), ih, e2];rw [if_neg (show ¬ n + 1 = i by omega)]
def sgD : Nat → Rat
 | 0 => 1
 | n + 1 => - sgD n
def dt : Nat → (Nat → Nat → Rat) → Rat
 | 0, _ => 1
 | n + 1, A => sm (n + 1) (fun i => sgD i * A i 0 * dt n (fun r c => A (sk i r) (c + 1)))
theorem a7 : ∀ {n : Nat} {A B : Nat → Nat → Rat}, (∀ i j, i < n → j < n → A i j = B i j) → dt n A = dt n B
 | 0, _, _, _ => rfl
 | n + 1, A, B, h => by
  simp only [dt];refine az fun i hi => ?_;rw [h i 0 hi (by omega), a7 (n := n) (fun r c hr hc => h (sk i r) (c + 1) (m9 hr) (by omega))]
theorem wR : ∀ {n : Nat} {A B C : Nat → Nat → Rat} (r : Nat) (x y : Rat), r < n → (∀ c, c < n → A r c = x * B r c + y * C r c) → (∀ i c, i < n → c < n → i ≠ r → A i c = B i c ∧ A i c = C i c) → dt n A = x * dt n B + y * dt n C
 | 0, _, _, _, r, _, _, h, _, _ => by omega
 | n + 1, A, B, C, r, x, y, hr, h1, h2 => by
  simp only [dt];rw [← kg];refine az fun i hi => ?_
  by_cases hir : i = r
  ·subst hir
   have e1 : dt n (fun r c => A (sk i r) (c + 1)) = dt n (fun r c => B (sk i r) (c + 1)) := a7 fun a b ha hb => (h2 (sk i a) (b + 1) (m9 ha) (by omega) (CQ i a)).1
   have e2 : dt n (fun r c => A (sk i r) (c + 1)) = dt n (fun r c => C (sk i r) (c + 1)) := a7 fun a b ha hb => (h2 (sk i a) (b + 1) (m9 ha) (by omega) (CQ i a)).2
   rw [← e2, ← e1, h1 0 (by omega)]; grind
  ·have e3 := (h2 i 0 hi (by omega) hir)
   obtain ⟨q, hq, hq2⟩ : ∃ q, q < n ∧ sk i q = r := by
    by_cases hlt : r < i
    ·exact ⟨r, by omega, by unfold sk; rw [if_pos hlt]⟩
    ·exact ⟨r - 1, by omega, by unfold sk; rw [if_neg (by omega)]; omega⟩
   have ih := wR (n := n) (A := fun r c => A (sk i r) (c + 1)) (B := fun r c => B (sk i r) (c + 1)) (C := fun r c => C (sk i r) (c + 1)) q x y hq
    (fun c hc => by simp only [hq2]; exact h1 (c + 1) (by omega))
    (fun a c ha hc hne => h2 (sk i a) (c + 1) (m9 ha) (by omega) (fun e => hne (by
     have : sk i a = sk i q := e.trans hq2.symm
     unfold sk at this; split at this <;> split at this <;> omega)))
   rw [ih, e3.1]
   have : B i 0 = C i 0 := e3.1.symm.trans e3.2
   rw [← this]; grind
def nb (r i : Nat) : Nat := if i = r then r + 1 else if i = r + 1 then r else i
theorem nN : ∀ {n : Nat} {A : Nat → Nat → Rat} (r : Nat), r + 1 < n → dt n (fun i c => A (nb r i) c) = - dt n A
 | 0, _, r, h => by omega
 | n + 1, A, r, hr => by
  simp only [dt];rw [← tC];rw [tB (a := r) (b := r + 1) _ (by omega) hr (by omega), tB (n := n + 1) (a := r) (b := r + 1) (fun i => - (sgD i * A i 0 * dt n (fun r c => A (sk i r) (c + 1)))) (by omega) hr (by omega)]
  have e0 : nb r r = r + 1 := by unfold nb; rw [if_pos rfl]
  have e1 : nb r (r + 1) = r := by unfold nb; rw [if_neg (by omega), if_pos rfl]
  have m1 : dt n (fun q c => A (nb r (sk r q)) (c + 1)) = dt n (fun q c => A (sk (r + 1) q) (c + 1)) := a7 fun q c _ _ => by
   have : nb r (sk r q) = sk (r + 1) q := by unfold nb sk; (repeat' split) <;> omega
   rw [this]
  have m2 : dt n (fun q c => A (nb r (sk (r + 1) q)) (c + 1)) = dt n (fun q c => A (sk r q) (c + 1)) := a7 fun q c _ _ => by
   have : nb r (sk (r + 1) q) = sk r q := by unfold nb sk; (repeat' split) <;> omega
   rw [this]
  have m3 : sm (n + 1) (fun i => if i = r ∨ i = r + 1 then 0 else sgD i * A (nb r i) 0 * dt n (fun q c => A (nb r (sk i q)) (c + 1))) =
    sm (n + 1) (fun i => if i = r ∨ i = r + 1 then 0 else -(sgD i * A i 0 * dt n (fun q c => A (sk i q) (c + 1)))) := az fun i hi => by
   by_cases h : i = r ∨ i = r + 1
   ·rw [if_pos h, if_pos h]
   ·rw [if_neg h, if_neg h]
    have e2 : nb r i = i := by unfold nb; rw [if_neg (by omega), if_neg (by omega)]
    rw [e2]
    by_cases hlt : i < r
    ·have ih := nN (n := n) (A := fun q c => A (sk i q) (c + 1)) (r - 1) (by omega)
     have : dt n (fun q c => A (nb r (sk i q)) (c + 1)) = dt n (fun q c => A (sk i (nb (r - 1) q)) (c + 1)) := a7 fun q c _ _ => by
      have : nb r (sk i q) = sk i (nb (r - 1) q) := by unfold nb sk; (repeat' split) <;> omega
      rw [this]
     rw [this, ih]; grind
    ·have ih := nN (n := n) (A := fun q c => A (sk i q) (c + 1)) r (by omega)
     have : dt n (fun q c => A (nb r (sk i q)) (c + 1)) = dt n (fun q c => A (sk i (nb r q)) (c + 1)) := a7 fun q c _ _ => by
      have : nb r (sk i q) = sk i (nb r q) := by unfold nb sk; (repeat' split) <;> omega
      rw [this]
     rw [this, ih]; grind
  rw [e0, e1, m1, m2, m3]
  have s : sgD (r + 1) = - sgD r := rfl
  rw [s]; grind
end Go.Proofs.YtfichkokppbipaaGreatDoor

/- Determinants: rows and columns. No condition. -/
namespace Go.Proofs.YtfichkokppbipaaGreatDoor

theorem Ec {n : Nat} {A : Nat → Nat → Rat} (r : Nat) (hr : r + 1 < n) (h : ∀ c, c < n → A r c = A (r + 1) c) : dt n A = 0 := by
 have h1 := nN (A := A) r hr
 have h2 : dt n (fun i c => A (nb r i) c) = dt n A := a7 fun i c _ hc => by
  unfold nb
  by_cases h0 : i = r
  ·rw [if_pos h0, h0]; exact (h c hc).symm
  ·rw [if_neg h0]
   by_cases h0' : i = r + 1
   ·rw [if_pos h0', h0']; exact h c hc
   ·rw [if_neg h0']
 rw [h2] at h1; grind
theorem uw {n : Nat} : ∀ (d : Nat) {A : Nat → Nat → Rat} (r : Nat), r + d + 1 < n → (∀ c, c < n → A r c = A (r + d + 1) c) → dt n A = 0
 | 0, A, r, hr, h => Ec r (by omega) h
 | d + 1, A, r, hr, h => by
  have h1 := nN (A := A) (r + d + 1) (by omega)
  have h2 : dt n (fun i c => A (nb (r + d + 1) i) c) = 0 := uw d r (by omega) fun c hc => by
   have e1 : nb (r + d + 1) r = r := by unfold nb; (repeat' split) <;> omega
   have e2 : nb (r + d + 1) (r + d + 1) = r + (d + 1) + 1 := by unfold nb; (repeat' split) <;> omega
   rw [e1, e2]; exact h c hc
  rw [h2] at h1; grind
theorem Cr {n : Nat} {A : Nat → Nat → Rat} {r s : Nat} (hr : r < n) (hs : s < n) (hne : r ≠ s) (h : ∀ c, c < n → A r c = A s c) : dt n A = 0 := by
 rcases Nat.lt_or_gt_of_ne hne with hlt | hlt
 ·exact uw (s - r - 1) r (by omega) (fun c hc => by rw [h c hc]; congr 1; omega)
 ·exact uw (r - s - 1) s (by omega) (fun c hc => by rw [← h c hc]; congr 1; omega)
theorem nO {n : Nat} {A B : Nat → Nat → Rat} {r s : Nat} (x : Rat) (hr : r < n) (hs : s < n) (hne : r ≠ s) (h1 : ∀ c, c < n → B r c = A r c + x * A s c) (h2 : ∀ i c, i < n → c < n → i ≠ r → B i c = A i c) : dt n B = dt n A := by
 have := wR (A := B) (B := A) (C := fun i c => if i = r then A s c else A i c) r 1 x hr (fun c hc => by simp only [if_true]; rw [h1 c hc]; grind) (fun i c hi hc hir => ⟨h2 i c hi hc hir, by rw [if_neg hir]; exact h2 i c hi hc hir⟩)
 rw [this, Cr (A := fun i c => if i = r then A s c else A i c) hr hs hne (fun c _ => by simp only [if_true]; rw [if_neg (Ne.symm hne)])]
 grind
theorem Cs {n : Nat} {A B : Nat → Nat → Rat} {r : Nat} (x : Rat) (hr : r < n) (h1 : ∀ c, c < n → B r c = x * A r c) (h2 : ∀ i c, i < n → c < n → i ≠ r → B i c = A i c) : dt n B = x * dt n A := by
 have := wR (A := B) (B := A) (C := A) r x 0 hr (fun c hc => by rw [h1 c hc]; grind) (fun i c hi hc hir => ⟨h2 i c hi hc hir, h2 i c hi hc hir⟩)
 rw [this]; grind
theorem rz : ∀ {n : Nat} {A B C : Nat → Nat → Rat} (k : Nat) (x y : Rat), k < n → (∀ i, i < n → A i k = x * B i k + y * C i k) → (∀ i c, i < n → c < n → c ≠ k → A i c = B i c ∧ A i c = C i c) → dt n A = x * dt n B + y * dt n C
 | 0, _, _, _, k, _, _, h, _, _ => by omega
 | n + 1, A, B, C, k, x, y, hk, h1, h2 => by
  simp only [dt];rw [← kg];refine az fun i hi => ?_
  rcases k with _ | k
  ·have e1 : dt n (fun r c => A (sk i r) (c + 1)) = dt n (fun r c => B (sk i r) (c + 1)) := a7 fun a b ha hb => (h2 (sk i a) (b + 1) (m9 ha) (by omega) (by omega)).1
   have e2 : dt n (fun r c => A (sk i r) (c + 1)) = dt n (fun r c => C (sk i r) (c + 1)) := a7 fun a b ha hb => (h2 (sk i a) (b + 1) (m9 ha) (by omega) (by omega)).2
   rw [← e2, ← e1, h1 i hi]; grind
  ·have ih := rz (n := n) (A := fun r c => A (sk i r) (c + 1)) (B := fun r c => B (sk i r) (c + 1)) (C := fun r c => C (sk i r) (c + 1)) k x y (by omega)
    (fun a ha => h1 (sk i a) (m9 ha)) (fun a c ha hc hne => h2 (sk i a) (c + 1) (m9 ha) (by omega) (by omega))
   have e3 := h2 i 0 hi (by omega) (by omega)
   rw [ih, e3.1]
   have : B i 0 = C i 0 := e3.1.symm.trans e3.2
   rw [← this]; grind
def s2 (i l : Nat) : Rat := if l < i then sgD i * sgD l else - (sgD i * sgD l)
def p2 (i l q : Nat) : Nat := if i < l then sk i (sk (l - 1) q) else sk i (sk l q)
theorem B6 {i l : Nat} (h : i ≠ l) (q : Nat) : p2 i l q = p2 l i q := by
 unfold p2 sk; (repeat' split) <;> omega
theorem AR (n : Nat) (A : Nat → Nat → Rat) : dt (n + 2) A = sm (n + 2) (fun i => sm (n + 2) (fun l => if l = i then 0 else s2 i l * (A i 0 * A l 1) * dt n (fun q c => A (p2 i l q) (c + 2)))) := by
 show sm (n + 2) (fun i => sgD i * A i 0 * dt (n + 1) (fun r c => A (sk i r) (c + 1))) = _
 refine az fun i hi => ?_
 show sgD i * A i 0 * sm (n + 1) (fun k => sgD k * A (sk i k) 1 * dt n (fun r c => A (sk i (sk k r)) (c + 2))) = _
 rw [← gU]
 have := xk (fun l => s2 i l * (A i 0 * A l 1) * dt n (fun q c => A (p2 i l q) (c + 2))) (i := i) (n := n + 1) (by omega)
 rw [← this];refine az fun k hk => ?_
 have e : dt n (fun r c => A (sk i (sk k r)) (c + 2)) = dt n (fun q c => A (p2 i (sk i k) q) (c + 2)) := a7 fun q c _ _ => by
  have : sk i (sk k q) = p2 i (sk i k) q := by unfold p2 sk; (repeat' split) <;> omega
  rw [this]
 rw [e]
 by_cases hki : k < i
 ·have e1 : sk i k = k := by unfold sk; rw [if_pos hki]
  rw [e1]; unfold s2; rw [if_pos hki]; grind
 ·have e1 : sk i k = k + 1 := by unfold sk; rw [if_neg hki]
  have e2 : sgD (k + 1) = - sgD k := rfl
  rw [e1]; unfold s2; rw [if_neg (by omega), e2]; grind
theorem ry : ∀ {n : Nat} {A : Nat → Nat → Rat} (k : Nat), k + 1 < n → dt n (fun i c => A i (nb k c)) = - dt n A
 | 0, _, _, h => by omega
 | 1, _, _, h => by omega
 | n + 2, A, k, hk => by
  rcases k with _ | k
  ·rw [AR, AR, kJ, ← tC];refine az fun i _ => ?_;rw [← tC];refine az fun l _ => ?_
   by_cases hil : i = l
   ·rw [if_pos hil, if_pos hil.symm]; grind
   ·rw [if_neg hil, if_neg (Ne.symm hil)]
    have e1 : dt n (fun q c => A (p2 l i q) (nb 0 (c + 2))) = dt n (fun q c => A (p2 i l q) (c + 2)) := a7 fun q c _ _ => by
     rw [B6 (Ne.symm hil)]
     have : nb 0 (c + 2) = c + 2 := by unfold nb; (repeat' split) <;> omega
     rw [this]
    have e2 : nb 0 0 = 1 := rfl
    have e3 : nb 0 1 = 0 := rfl
    have e4 : s2 l i = - s2 i l := by
     unfold s2
     rcases Nat.lt_or_gt_of_ne hil with h | h
     ·rw [if_pos h, if_neg (by omega)]; grind
     ·rw [if_neg (by omega), if_pos h]; grind
    rw [e1, e2, e3, e4]; grind
  ·show sm (n + 2) _ = - sm (n + 2) _
   rw [← tC];refine az fun i _ => ?_
   have ih := ry (n := n + 1) (A := fun r c => A (sk i r) (c + 1)) k (by omega)
   have e1 : dt (n + 1) (fun r c => A (sk i r) (nb (k + 1) (c + 1))) = dt (n + 1) (fun r c => A (sk i r) (nb k c + 1)) := a7 fun r c _ _ => by
    have : nb (k + 1) (c + 1) = nb k c + 1 := by unfold nb; (repeat' split) <;> omega
    rw [this]
   have e2 : nb (k + 1) 0 = 0 := by unfold nb; (repeat' split) <;> omega
   show sgD i * A i (nb (k + 1) 0) * dt (n + 1) (fun r c => A (sk i r) (nb (k + 1) (c + 1))) = _
   rw [e1, e2, ih]; grind
end Go.Proofs.YtfichkokppbipaaGreatDoor

/- Determinants: columns, triangles, minors, Cramer's rule. No condition. -/
namespace Go.Proofs.YtfichkokppbipaaGreatDoor

theorem Ed {n : Nat} {A : Nat → Nat → Rat} (k : Nat) (hk : k + 1 < n) (h : ∀ i, i < n → A i k = A i (k + 1)) : dt n A = 0 := by
 have h1 := ry (A := A) k hk
 have h2 : dt n (fun i c => A i (nb k c)) = dt n A := a7 fun i c hi _ => by
  unfold nb
  by_cases h0 : c = k
  ·rw [if_pos h0, h0]; exact (h i hi).symm
  ·rw [if_neg h0]
   by_cases h0' : c = k + 1
   ·rw [if_pos h0', h0']; exact h i hi
   ·rw [if_neg h0']
 rw [h2] at h1; grind
theorem uy {n : Nat} : ∀ (d : Nat) {A : Nat → Nat → Rat} (k : Nat), k + d + 1 < n → (∀ i, i < n → A i k = A i (k + d + 1)) → dt n A = 0
 | 0, A, k, hk, h => Ed k (by omega) h
 | d + 1, A, k, hk, h => by
  have h1 := ry (A := A) (k + d + 1) (by omega)
  have h2 : dt n (fun i c => A i (nb (k + d + 1) c)) = 0 := uy d k (by omega) fun i hi => by
   have e1 : nb (k + d + 1) k = k := by unfold nb; (repeat' split) <;> omega
   have e2 : nb (k + d + 1) (k + d + 1) = k + (d + 1) + 1 := by unfold nb; (repeat' split) <;> omega
   rw [e1, e2]; exact h i hi
  rw [h2] at h1; grind
theorem x6 {n : Nat} {A : Nat → Nat → Rat} {k l : Nat} (hk : k < n) (hl : l < n) (hne : k ≠ l) (h : ∀ i, i < n → A i k = A i l) : dt n A = 0 := by
 rcases Nat.lt_or_gt_of_ne hne with hlt | hlt
 ·exact uy (l - k - 1) k (by omega) (fun i hi => by rw [h i hi]; congr 1; omega)
 ·exact uy (k - l - 1) l (by omega) (fun i hi => by rw [← h i hi]; congr 1; omega)
theorem uz {n : Nat} {A B : Nat → Nat → Rat} {k l : Nat} (x : Rat) (hk : k < n) (hl : l < n) (hne : k ≠ l) (h1 : ∀ i, i < n → B i k = A i k + x * A i l) (h2 : ∀ i c, i < n → c < n → c ≠ k → B i c = A i c) : dt n B = dt n A := by
 have := rz (A := B) (B := A) (C := fun i c => if c = k then A i l else A i c) k 1 x hk (fun i hi => by simp only [if_true]; rw [h1 i hi]; grind) (fun i c hi hc hck => ⟨h2 i c hi hc hck, by rw [if_neg hck]; exact h2 i c hi hc hck⟩)
 rw [this, x6 (A := fun i c => if c = k then A i l else A i c) hk hl hne (fun i _ => by simp only [if_true]; rw [if_neg (Ne.symm hne)])]
 grind
theorem BD (q : Nat) : sk 0 q = q + 1 := by unfold sk; rw [if_neg (by omega)]
theorem ux {n : Nat} {A : Nat → Nat → Rat} (h : ∀ i, 0 < i → i < n + 1 → A i 0 = 0) : dt (n + 1) A = A 0 0 * dt n (fun i c => A (i + 1) (c + 1)) := by
 show sm (n + 1) _ = _
 rw [d7 (j := 0) _ (by omega) (fun i hi hne => by rw [h i (by omega) hi]; grind)]
 have e : sgD 0 = 1 := rfl
 rw [e, a7 (A := fun r c => A (sk 0 r) (c + 1)) (B := fun i c => A (i + 1) (c + 1)) (fun i c _ _ => by rw [BD])]
 grind
def pr : Nat → (Nat → Rat) → Rat
 | 0, _ => 1
 | n + 1, f => f 0 * pr n (fun i => f (i + 1))
theorem qO : ∀ {n : Nat} {f g : Nat → Rat}, (∀ i, i < n → f i = g i) → pr n f = pr n g
 | 0, _, _, _ => rfl
 | n + 1, f, g, h => by simp only [pr]; rw [h 0 (by omega), qO (n := n) (fun i hi => h (i + 1) (by omega))]
theorem nM : ∀ {n : Nat} {A : Nat → Nat → Rat}, (∀ i j, i < n → j < i → A i j = 0) → dt n A = pr n (fun i => A i i)
 | 0, _, _ => rfl
 | n + 1, A, h => by
  rw [ux (fun i h0 hi => h i 0 hi h0), nM (n := n) (fun i j hi hj => h (i + 1) (j + 1) (by omega) (by omega))]; rfl
theorem x5 {n : Nat} {A : Nat → Nat → Rat} (x : Nat → Rat) {k : Nat} (hk : k < n) : ∀ m, m ≤ n → dt n (fun i c => if c = k then sm m (fun j => x j * A i j) else A i c) = sm m (fun j => if j = k then x k * dt n A else 0)
 | 0, _ => by
  have := rz (A := fun i c => if c = k then sm 0 (fun j => x j * A i j) else A i c) (B := fun i c => if c = k then sm 0 (fun j => x j * A i j) else A i c) (C := fun i c => if c = k then sm 0 (fun j => x j * A i j) else A i c) k 0 0 hk (fun i _ => by simp only [if_true, sm]; grind) (fun i c _ _ _ => ⟨rfl, rfl⟩)
  rw [this]; simp only [sm]; grind
 | m + 1, hm => by
  have := rz (A := fun i c => if c = k then sm (m + 1) (fun j => x j * A i j) else A i c) (B := fun i c => if c = k then sm m (fun j => x j * A i j) else A i c) (C := fun i c => if c = k then A i m else A i c) k 1 (x m) hk (fun i _ => by simp only [if_true, sm]; grind) (fun i c _ _ hc => ⟨by rw [if_neg hc, if_neg hc], by rw [if_neg hc, if_neg hc]⟩)
  rw [this, x5 x hk m (by omega), bW]
  by_cases h : m = k
  ·rw [if_pos h, a7 (A := fun i c => if c = k then A i m else A i c) (B := A) (fun i c _ _ => by
    by_cases hc : c = k
    ·rw [if_pos hc, hc, h]
    ·rw [if_neg hc]), h]; grind
  ·rw [if_neg h, x6 (A := fun i c => if c = k then A i m else A i c) (k := k) (l := m) hk (by omega) (fun e => h e.symm) (fun i _ => by simp only [if_true]; rw [if_neg h])]; grind
theorem uB {n : Nat} {A : Nat → Nat → Rat} {x b : Nat → Rat} {k : Nat} (hk : k < n) (h : ∀ i, i < n → sm n (fun j => A i j * x j) = b i) : x k * dt n A = dt n (fun i c => if c = k then b i else A i c) := by
 have h1 := x5 (A := A) x hk n (Nat.le_refl _)
 rw [d7 (j := k) _ hk (fun i _ hne => if_neg hne), if_pos rfl] at h1;rw [← h1];refine a7 fun i c hi _ => ?_
 by_cases hc : c = k
 ·rw [if_pos hc, if_pos hc, ← h i hi]; exact az fun j _ => by grind
 ·rw [if_neg hc, if_neg hc]
end Go.Proofs.YtfichkokppbipaaGreatDoor

/- The matrix-tree theorem: determinants of Laplacians count spanning forests. No condition. -/
namespace Go.Proofs.YtfichkokppbipaaGreatDoor

structure WL where
 f : Nat
 t : Nat
 w : Rat
def uu (p : Nat → Nat) (x : WL) (i : Nat) : Rat := (if p x.f = i then 1 else 0) - (if p x.t = i then 1 else 0)
structure VP (n : Nat) (p : Nat → Nat) : Prop where
 lt : ∀ v, v < n → p v < n
 id : ∀ v, v < n → p (p v) = p v
end Go.Proofs.YtfichkokppbipaaGreatDoor

/- The matrix-tree theorem: both ends in sight; the theorem. No condition. -/
namespace Go.Proofs.YtfichkokppbipaaGreatDoor

end Go.Proofs.YtfichkokppbipaaGreatDoor

/- The matrix-tree theorem. No condition. -/
namespace Go.Proofs.YtfichkokppbipaaGreatDoor

end Go.Proofs.YtfichkokppbipaaGreatDoor

/- The factors L and D of a symmetric matrix. No condition. -/
namespace Go.Proofs.YtfichkokppbipaaGreatDoor

theorem eP {f : Nat → Rat} {m : Nat} : ∀ {n : Nat}, m ≤ n → (∀ k, m ≤ k → k < n → f k = 0) → sm n f = sm m f
 | 0, h, _ => by
  have : m = 0 := by omega
  rw [this]
 | n + 1, h, hz => by
  by_cases e : m = n + 1
  ·rw [e]
  ·rw [bW, hz n (by omega) (by omega), eP (n := n) (by omega) (fun k h1 h2 => hz k h1 (by omega))]; grind
theorem x3 {n : Nat} {A : Nat → Nat → Rat} (x : Nat → Rat) {r : Nat} (hr : r < n) : ∀ m, m ≤ r → dt n (fun i c => if i = r then A r c + sm m (fun k => x k * A k c) else A i c) = dt n A
 | 0, _ => a7 fun i c _ _ => by
  by_cases h : i = r
  ·rw [if_pos h, h]; simp only [sm]; grind
  ·rw [if_neg h]
 | m + 1, hm => by
  rw [← x3 (A := A) x hr m (by omega)];refine nO (r := r) (s := m) (x m) hr (by omega) (by omega) (fun c _ => ?_) (fun i c _ _ hi => ?_)
  ·simp only [if_true];rw [if_neg (show ¬ m = r by omega), bW]; grind
  ·rw [if_neg hi, if_neg hi]
theorem AT {n : Nat} {L U : Nat → Nat → Rat} (h1 : ∀ i, i < n → L i i = 1) (h2 : ∀ i k, i < n → k < n → i < k → L i k = 0) : dt n (fun i c => sm n (fun k => L i k * U k c)) = dt n U := by
 have row : ∀ i c, i < n → sm n (fun k => L i k * U k c) = U i c + sm i (fun k => L i k * U k c) := fun i c hi => by
  rw [eP (m := i + 1) (by omega) (fun k hk hkn => by rw [h2 i k hi hkn (by omega)]; grind), bW, h1 i hi]; grind
 have key : ∀ m, m ≤ n → dt n (fun i c => if i < m then U i c else sm n (fun k => L i k * U k c)) = dt n (fun i c => sm n (fun k => L i k * U k c)) := by
  intro m
  induction m with
  | zero => intro _; exact a7 fun i c _ _ => if_neg (by omega)
  | succ m ih =>
   intro hm
   rw [← ih (by omega)]
   have := x3 (n := n) (A := fun i c => if i < m + 1 then U i c else sm n (fun k => L i k * U k c)) (fun k => L m k) (r := m) (by omega) m (Nat.le_refl _)
   rw [← this];refine a7 fun i c hi _ => ?_
   by_cases h : i = m
   ·subst h
    rw [if_pos rfl, if_pos (show i < i + 1 by omega), if_neg (show ¬ i < i by omega), row i c hi]
    congr 1
    refine az fun k hk => ?_;rw [if_pos (show k < i + 1 by omega)]
   ·rw [if_neg h]
    by_cases h' : i < m
    ·rw [if_pos (by omega), if_pos h']
    ·rw [if_neg (by omega), if_neg h']
 rw [← key n (Nat.le_refl _)];exact a7 fun i c hi _ => if_pos hi
def lr (B l : Nat → Nat → Rat) (d : Nat → Rat) (i : Nat) : Nat → Nat → Rat
 | 0, _ => 0
 | j + 1, c => if c = j then (B i j - sm j (fun k => lr B l d i j k * l j k * d k)) / d j else lr B l d i j c
theorem uc (B l : Nat → Nat → Rat) (d : Nat → Rat) (i : Nat) {j c : Nat} : ∀ {m : Nat}, c < j → j ≤ m → lr B l d i m c = lr B l d i j c
 | 0, h, h' => by omega
 | m + 1, h, h' => by
  by_cases e : j = m + 1
  ·rw [e]
  ·simp only [lr]; rw [if_neg (by omega)]; exact uc B l d i (m := m) h (by omega)
theorem E4 (B l : Nat → Nat → Rat) (d : Nat → Rat) (i : Nat) {j m : Nat} (h : j < m) : lr B l d i m j = (B i j - sm j (fun k => lr B l d i m k * l j k * d k)) / d j := by
 rw [uc B l d i (j := j + 1) (m := m) (by omega) (by omega)];simp only [lr, if_true];rw [az (f := fun k => lr B l d i j k * l j k * d k) (g := fun k => lr B l d i m k * l j k * d k) (fun k hk => by rw [uc B l d i (j := j) (m := m) hk (by omega)])]
theorem CV (B l : Nat → Nat → Rat) (d : Nat → Rat) (i : Nat) : ∀ {m c : Nat}, m ≤ c → lr B l d i m c = 0
 | 0, _, _ => rfl
 | m + 1, c, h => by simp only [lr]; rw [if_neg (by omega)]; exact CV B l d i (by omega)
theorem nC {B l l' : Nat → Nat → Rat} {d d' : Nat → Rat} {i : Nat} : ∀ {m : Nat} (c : Nat), (∀ j k, j < m → k < j → l j k = l' j k) → (∀ k, k < m → d k = d' k) → lr B l d i m c = lr B l' d' i m c
 | 0, _, _, _ => rfl
 | m + 1, c, hl, hd => by
  simp only [lr];rw [nC (m := m) c (fun j k h1 h2 => hl j k (by omega) h2) (fun k hk => hd k (by omega)), hd m (by omega)];rw [az (f := fun k => lr B l d i m k * l m k * d k) (g := fun k => lr B l' d' i m k * l' m k * d' k) (fun k hk => by rw [nC (m := m) k (fun j k h1 h2 => hl j k (by omega) h2) (fun k hk => hd k (by omega)), hl m k (by omega) hk, hd k (by omega)])]
def fac (B : Nat → Nat → Rat) : Nat → (Nat → Nat → Rat) × (Nat → Rat)
 | 0 => (fun _ _ => 0, fun _ => 0)
 | i + 1 => (fun r c => if r = i then (if c = i then 1 else lr B (fac B i).1 (fac B i).2 i i c) else (fac B i).1 r c,
   fun k => if k = i then B i i - sm i (fun j => lr B (fac B i).1 (fac B i).2 i i j * lr B (fac B i).1 (fac B i).2 i i j * (fac B i).2 j) else (fac B i).2 k)
def LL (B : Nat → Nat → Rat) (r c : Nat) : Rat := (fac B (r + 1)).1 r c
def DD (B : Nat → Nat → Rat) (k : Nat) : Rat := (fac B (k + 1)).2 k
theorem jq (B : Nat → Nat → Rat) {r c : Nat} : ∀ {m : Nat}, r < m → (fac B m).1 r c = LL B r c ∧ (fac B m).2 r = DD B r
 | 0, h => by omega
 | m + 1, h => by
  by_cases e : r = m
  ·subst e; exact ⟨rfl, rfl⟩
  ·simp only [fac]; rw [if_neg e, if_neg e]; exact jq B (m := m) (by omega)
theorem ye (B : Nat → Nat → Rat) {i c : Nat} (h : c ≠ i) : LL B i c = lr B (LL B) (DD B) i i c := by
 show (fac B (i + 1)).1 i c = _
 simp only [fac, if_true];rw [if_neg h];exact nC c (fun j k h1 _ => (jq B h1).1) (fun k hk => (jq B (c := 0) hk).2)
theorem cC (B : Nat → Nat → Rat) (i : Nat) : LL B i i = 1 := by
 show (fac B (i + 1)).1 i i = _
 simp only [fac, if_true]
theorem gS (B : Nat → Nat → Rat) {i c : Nat} (h : i < c) : LL B i c = 0 := by
 rw [ye B (by omega)]; exact CV _ _ _ _ (by omega)
theorem yf (B : Nat → Nat → Rat) {i j : Nat} (h : j < i) (hd : DD B j ≠ 0) : LL B i j * DD B j = B i j - sm j (fun k => LL B i k * LL B j k * DD B k) := by
 rw [ye B (by omega), E4 _ _ _ _ h];rw [az (f := fun k => lr B (LL B) (DD B) i i k * LL B j k * DD B k) (g := fun k => LL B i k * LL B j k * DD B k) (fun k hk => by rw [← ye B (show k ≠ i by omega)])]
 grind
theorem Bd (B : Nat → Nat → Rat) (i : Nat) : DD B i = B i i - sm i (fun j => LL B i j * LL B i j * DD B j) := by
 show (fac B (i + 1)).2 i = _
 simp only [fac, if_true]
 congr 1
 refine az fun j hj => ?_
 have e : lr B (fac B i).1 (fac B i).2 i i j = LL B i j := by
  rw [ye B (by omega)];exact nC j (fun j k h1 _ => (jq B h1).1) (fun k hk => (jq B (c := 0) hk).2)
 rw [e, (jq B (c := 0) hj).2]
theorem ldl {B : Nat → Nat → Rat} {n : Nat} (hs : ∀ i j, i < n → j < n → B i j = B j i) (hd : ∀ k, k + 1 < n → DD B k ≠ 0) {i j : Nat} (hi : i < n) (hj : j < n) : sm n (fun k => LL B i k * (DD B k * LL B j k)) = B i j := by
 have low : ∀ i j, i < n → j ≤ i → sm n (fun k => LL B i k * (DD B k * LL B j k)) = B i j := by
  intro i j hi hji
  rw [eP (m := j + 1) (by omega) (fun k hk _ => by rw [gS B (show j < k by omega)]; grind), bW, cC]
  by_cases e : j = i
  ·subst e
   have := Bd B j
   rw [cC, az (g := fun k => LL B j k * LL B j k * DD B k) (fun k _ => by grind)]; grind
  ·have := yf B (i := i) (j := j) (by omega) (hd j (by omega))
   rw [az (g := fun k => LL B i k * LL B j k * DD B k) (fun k _ => by grind)]; grind
 rcases Nat.le_total j i with h | h
 ·exact low i j hi h
 ·rw [hs i j hi hj, ← low j i hj h]
  exact az fun k _ => by grind
theorem mE {B : Nat → Nat → Rat} {n : Nat} (hs : ∀ i j, i < n → j < n → B i j = B j i) (hd : ∀ k, k + 1 < n → DD B k ≠ 0) : dt n B = pr n (DD B) := by
 rw [a7 (A := B) (B := fun i c => sm n (fun k => LL B i k * (fun k c => DD B k * LL B c k) k c)) (fun i c hi hc => (ldl hs hd hi hc).symm)];rw [AT (L := LL B) (U := fun k c => DD B k * LL B c k) (fun i _ => cC B i) (fun i k _ _ h => gS B h)];rw [nM (fun i j _ hj => by rw [gS B hj]; grind)]
 exact qO fun i _ => by rw [cC]; grind
end Go.Proofs.YtfichkokppbipaaGreatDoor

/- Definite forms; solving by the factors. No condition. -/
namespace Go.Proofs.YtfichkokppbipaaGreatDoor

def fm (n : Nat) (B : Nat → Nat → Rat) (x : Nat → Rat) : Rat := sm n (fun i => x i * sm n (fun j => B i j * x j))
theorem m8 (f : Nat → Rat) (x : Rat) (n : Nat) : sm n (fun i => f i * x) = sm n f * x := by
 rw [az (g := fun i => x * f i) (fun i _ => by grind), gU]; grind
theorem ud {B : Nat → Nat → Rat} {n : Nat} (hs : ∀ i j, i < n → j < n → B i j = B j i) (hd : ∀ k, k + 1 < n → DD B k ≠ 0) (x : Nat → Rat) {i : Nat} (hi : i < n) :
  sm n (fun j => B i j * x j) = sm n (fun k => LL B i k * (DD B k * sm n (fun j => LL B j k * x j))) := by
 rw [az (g := fun j => sm n (fun k => LL B i k * (DD B k * (LL B j k * x j)))) (fun j hj => by
  rw [← ldl hs hd hi hj, ← m8]
  exact az fun k _ => by grind), kJ]
 refine az fun k _ => ?_;rw [← gU, ← gU]
theorem Ax {B : Nat → Nat → Rat} {n : Nat} (hs : ∀ i j, i < n → j < n → B i j = B j i) (hd : ∀ k, k + 1 < n → DD B k ≠ 0) (x : Nat → Rat) :
  fm n B x = sm n (fun k => DD B k * (sm n (fun j => LL B j k * x j) * sm n (fun j => LL B j k * x j))) := by
 unfold fm
 rw [az (g := fun i => sm n (fun k => LL B i k * x i * (DD B k * sm n (fun j => LL B j k * x j)))) (fun i hi => by
  rw [ud hs hd x hi, ← gU]
  exact az fun k _ => by grind), kJ]
 refine az fun k _ => ?_;rw [m8]; grind
theorem iY (x : Rat) : 0 ≤ x * x := by
 rcases (show 0 ≤ x ∨ x ≤ 0 by grind) with h | h
 ·exact Rat.mul_nonneg h h
 ·have := Rat.mul_nonneg (show 0 ≤ -x by grind) (show 0 ≤ -x by grind); grind
theorem xl {n : Nat} {f : Nat → Rat} (h : ∀ i, i < n → 0 ≤ f i) : 0 ≤ sm n f := by
 induction n with
 | zero => show (0 : Rat) ≤ 0; grind
 | succ n ih =>
  rw [bW]
  have h1 := ih fun i hi => h i (by omega)
  have h2 := h n (by omega)
  grind
theorem zu {n : Nat} {f : Nat → Rat} (h : ∀ i, i < n → 0 ≤ f i) {k : Nat} (hk : k < n) (hp : 0 < f k) : 0 < sm n f := by
 induction n with
 | zero => omega
 | succ n ih =>
  rw [bW]
  by_cases e : k = n
  ·subst e
   have := xl (n := k) fun i hi => h i (by omega)
   grind
  ·have h1 := ih (fun i hi => h i (by omega)) (by omega)
   have h2 := h n (by omega)
   grind
def bsx (L : Nat → Nat → Rat) (b : Nat → Rat) (n : Nat) : Nat → Nat → Rat
 | 0, _ => 0
 | s + 1, i => if i + s + 1 = n then b i - sm n (fun j => if i < j then L j i * bsx L b n s j else 0) else bsx L b n s i
theorem kz (L : Nat → Nat → Rat) (b : Nat → Rat) {n i : Nat} : ∀ {m s : Nat}, n ≤ i + s → s ≤ m → bsx L b n m i = bsx L b n s i
 | 0, s, h, h' => by
  have : s = 0 := by omega
  rw [this]
 | m + 1, s, h, h' => by
  by_cases e : s = m + 1
  ·rw [e]
  ·simp only [bsx]; rw [if_neg (by omega)]; exact kz L b (m := m) h (by omega)
theorem wW {L : Nat → Nat → Rat} {b : Nat → Rat} {n : Nat} (h1 : ∀ i, i < n → L i i = 1) (h2 : ∀ i k, i < n → k < n → i < k → L i k = 0) {m : Nat} (hm : m < n) : sm n (fun i => L i m * bsx L b n n i) = b m := by
 have e1 : bsx L b n n m = b m - sm n (fun j => if m < j then L j m * bsx L b n n j else 0) := by
  rw [kz L b (m := n) (s := n - m) (by omega) (by omega)]
  obtain ⟨s, hs⟩ : ∃ s, n - m = s + 1 := ⟨n - m - 1, by omega⟩
  rw [hs];simp only [bsx]
  rw [if_pos (by omega), az (f := fun j => if m < j then L j m * bsx L b n s j else 0) (g := fun j => if m < j then L j m * bsx L b n n j else 0) (fun j hj => by
   by_cases h : m < j
   ·rw [if_pos h, if_pos h, kz L b (m := n) (s := s) (i := j) (by omega) (by omega)]
   ·rw [if_neg h, if_neg h])]
 have e2 : sm n (fun i => L i m * bsx L b n n i) = sm n (fun i => (if i = m then bsx L b n n m else 0) + (if m < i then L i m * bsx L b n n i else 0)) := az fun i hi => by
  by_cases h : i = m
  ·subst h; rw [if_pos rfl, if_neg (by omega), h1 i hi]; grind
  ·by_cases h' : m < i
   ·rw [if_neg h, if_pos h']; grind
   ·rw [if_neg h, if_neg h', h2 i m hi hm (by omega)]; grind
 rw [e2, iu, d7 (j := m) _ hm (fun i _ h => if_neg h), if_pos rfl]
 grind
theorem EW {B : Nat → Nat → Rat} {n : Nat} (hs : ∀ i j, i < n → j < n → B i j = B j i) (hd : ∀ k, k < n → 0 < DD B k) {x : Nat → Rat} (hx : ∃ i, i < n ∧ x i ≠ 0) : 0 < fm n B x := by
 rw [Ax hs (fun k hk => by have := hd k (by omega); grind)]
 have ne : ∃ k, k < n ∧ sm n (fun j => LL B j k * x j) ≠ 0 := by
  refine Classical.byContradiction fun hcon => ?_
  have hz : ∀ k, k < n → sm n (fun j => LL B j k * x j) = 0 := fun k hk => Classical.byContradiction fun e => hcon ⟨k, hk, e⟩
  have all : ∀ d k, k < n → n ≤ k + d + 1 → x k = 0 := by
   intro d
   induction d with
   | zero =>
    intro k hk hd
    have := hz k hk
    rw [d7 (j := k) _ hk (fun i hi hne => by rw [gS B (show i < k by omega)]; grind), cC] at this
    grind
   | succ d ih =>
    intro k hk hd
    have := hz k hk
    rw [d7 (j := k) _ hk (fun i hi hne => by
     rcases Nat.lt_or_gt_of_ne hne with h | h
     ·rw [gS B h]; grind
     ·rw [ih i hi (by omega)]; grind), cC] at this
    grind
  obtain ⟨i, h1, h2⟩ := hx
  exact h2 (all n i h1 (by omega))
 obtain ⟨k, hk, hne⟩ := ne
 refine zu (fun i hi => Rat.mul_nonneg (by have := hd i hi; grind) (iY _)) hk ?_
 have h1 := hd k hk
 have h2 : 0 < sm n (fun j => LL B j k * x j) * sm n (fun j => LL B j k * x j) := by
  have := iY (sm n (fun j => LL B j k * x j))
  have h3 : sm n (fun j => LL B j k * x j) * sm n (fun j => LL B j k * x j) ≠ 0 := fun e => by
   rcases Rat.mul_eq_zero.1 e with h | h <;> exact hne h
  grind
 exact Rat.mul_pos h1 h2
theorem z7 {B : Nat → Nat → Rat} {n : Nat} (hs : ∀ i j, i < n → j < n → B i j = B j i) (hp : ∀ x : Nat → Rat, (∃ i, i < n ∧ x i ≠ 0) → 0 < fm n B x) : ∀ k, k < n → 0 < DD B k := by
 intro k
 induction k using Nat.strongRecOn with
 | ind k ih =>
  intro hk
  have hb := fun m (hm : m < k + 1) => wW (L := LL B) (b := fun i => if i = k then 1 else 0) (n := k + 1) (fun i _ => cC B i) (fun i c _ _ h => gS B h) hm
  generalize hX : bsx (LL B) (fun i => if i = k then 1 else 0) (k + 1) (k + 1) = X at hb
  have hk1 : X k = 1 := by
   have := hb k (by omega)
   rw [if_pos rfl, d7 (j := k) _ (by omega) (fun i hi hne => by rw [gS B (show i < k by omega)]; grind), cC] at this
   grind
  have h1 := Ax (B := B) (n := k + 1) (fun i j hi hj => hs i j (by omega) (by omega)) (fun m hm => by have := ih m (by omega) (by omega); grind) X
  rw [d7 (j := k) _ (by omega) (fun m hm hne => by rw [hb m hm, if_neg hne]; grind), hb k (by omega), if_pos rfl] at h1
  have h2 := hp (fun i => if i < k + 1 then X i else 0) ⟨k, hk, by rw [if_pos (by omega), hk1]; grind⟩
  have h3 : fm n B (fun i => if i < k + 1 then X i else 0) = fm (k + 1) B X := by
   unfold fm
   rw [eP (m := k + 1) (by omega) (fun i hi _ => by simp only; rw [if_neg (by omega)]; grind)];refine az fun i hi => ?_
   show (if i < k + 1 then X i else 0) * sm n (fun j => B i j * (if j < k + 1 then X j else 0)) = _
   rw [if_pos hi, eP (m := k + 1) (by omega) (fun j hj _ => by rw [if_neg (by omega)]; grind)]
   congr 1
   exact az fun j hj => by rw [if_pos hj]
  rw [h3, h1] at h2
  grind
end Go.Proofs.YtfichkokppbipaaGreatDoor

/- Determinants of restricted matrices; too few links. No condition. -/
namespace Go.Proofs.YtfichkokppbipaaGreatDoor

def rs (S : Nat → Bool) (A : Nat → Nat → Rat) (l : List Nat) (i j : Nat) : Rat := if S (l.getD i 0) = true ∧ S (l.getD j 0) = true then A (l.getD i 0) (l.getD j 0) else if i = j then 1 else 0
end Go.Proofs.YtfichkokppbipaaGreatDoor

/- The form of a Laplacian. No condition. -/
namespace Go.Proofs.YtfichkokppbipaaGreatDoor

theorem Ex {n : Nat} {x : WL} (y : Nat → Rat) (hf : x.f < n) (ht : x.t < n) : sm n (fun i => uu id x i * y i) = y x.f - y x.t := by
 unfold uu
 rw [az (g := fun i => (if i = x.f then y x.f else 0) + (if i = x.t then - y x.t else 0)) (fun i _ => by
  simp only [id]
  by_cases h1 : x.f = i
  ·by_cases h2 : x.t = i
   ·rw [if_pos h1, if_pos h2, if_pos h1.symm, if_pos h2.symm, ← h1, h1, h2]; grind
   ·rw [if_pos h1, if_neg h2, if_pos h1.symm, if_neg (fun e => h2 e.symm), h1]; grind
  ·by_cases h2 : x.t = i
   ·rw [if_neg h1, if_pos h2, if_neg (fun e => h1 e.symm), if_pos h2.symm, h2]; grind
   ·rw [if_neg h1, if_neg h2, if_neg (fun e => h1 e.symm), if_neg (fun e => h2 e.symm)]; grind), iu, d7 (j := x.f) _ hf (fun i _ h => if_neg h), d7 (j := x.t) _ ht (fun i _ h => if_neg h), if_pos rfl, if_pos rfl]
 grind
end Go.Proofs.YtfichkokppbipaaGreatDoor

/- The Laplacian of what hangs on the ground is positive definite. No condition. -/
namespace Go.Proofs.YtfichkokppbipaaGreatDoor

theorem Ef {ls : List WL} {y : Nat → Rat} (h : ∀ x ∈ ls, y x.f = y x.t) {u v : Nat} (hc : Cnn (ls.map fun x => (x.f, x.t)) u v) : y u = y v := by
 induction hc with
 | refl => rfl
 | step _ hp ih =>
  rw [ih]
  rcases hp with hp | hp
  ·obtain ⟨x, hx, e⟩ := List.mem_map.1 hp
   cases e; exact h x hx
  ·obtain ⟨x, hx, e⟩ := List.mem_map.1 hp
   cases e; exact (h x hx).symm
end Go.Proofs.YtfichkokppbipaaGreatDoor

/- Effective resistance: by trees and forests. No condition. -/
namespace Go.Proofs.YtfichkokppbipaaGreatDoor

end Go.Proofs.YtfichkokppbipaaGreatDoor

/- Solving by the factors. No condition. -/
namespace Go.Proofs.YtfichkokppbipaaGreatDoor

def fws (L : Nat → Nat → Rat) (b : Nat → Rat) : Nat → Nat → Rat
 | 0, _ => 0
 | i + 1, c => if c = i then b i - sm i (fun j => L i j * fws L b i j) else fws L b i c
def fwv (L : Nat → Nat → Rat) (b : Nat → Rat) (i : Nat) : Rat := fws L b (i + 1) i
theorem vF (L : Nat → Nat → Rat) (b : Nat → Rat) {c : Nat} : ∀ {m : Nat}, c < m → fws L b m c = fwv L b c
 | 0, h => by omega
 | m + 1, h => by
  by_cases e : c = m
  ·subst e; rfl
  ·simp only [fws]; rw [if_neg e]; exact vF L b (m := m) (by omega)
theorem ug (L : Nat → Nat → Rat) (b : Nat → Rat) (i : Nat) : fwv L b i = b i - sm i (fun j => L i j * fwv L b j) := by
 show fws L b (i + 1) i = _
 simp only [fws, if_true]
 congr 1
 exact az fun j hj => by rw [vF L b hj]
def slv (B : Nat → Nat → Rat) (b : Nat → Rat) (n : Nat) : Nat → Rat := bsx (LL B) (fun k => fwv (LL B) b k / DD B k) n n
theorem tD {B : Nat → Nat → Rat} {n : Nat} {b : Nat → Rat} (hs : ∀ i j, i < n → j < n → B i j = B j i) (hd : ∀ k, k < n → DD B k ≠ 0) {i : Nat} (hi : i < n) : sm n (fun j => B i j * slv B b n j) = b i := by
 rw [ud hs (fun k hk => hd k (by omega)) _ hi]
 rw [az (g := fun k => LL B i k * fwv (LL B) b k) (fun k hk => by
  have := wW (L := LL B) (b := fun k => fwv (LL B) b k / DD B k) (n := n) (fun i _ => cC B i) (fun i c _ _ h => gS B h) hk
  show LL B i k * (DD B k * sm n (fun j => LL B j k * bsx (LL B) (fun k => fwv (LL B) b k / DD B k) n n j)) = _
  rw [this]
  have := hd k hk
  grind)]
 rw [eP (m := i + 1) (by omega) (fun k hk _ => by rw [gS B (show i < k by omega)]; grind), bW, cC]
 have := ug (LL B) b i
 grind
theorem zw {B : Nat → Nat → Rat} {n : Nat} {b x : Nat → Rat} (hs : ∀ i j, i < n → j < n → B i j = B j i) (hd : ∀ k, k < n → 0 < DD B k) (hx : ∀ i, i < n → sm n (fun j => B i j * x j) = b i) {i : Nat} (hi : i < n) : x i = slv B b n i := by
 have hd' : ∀ k, k < n → DD B k ≠ 0 := fun k hk => by have := hd k hk; grind
 refine Classical.byContradiction fun hne => ?_
 have h1 := EW hs hd (x := fun j => x j - slv B b n j) ⟨i, hi, by grind⟩
 have h2 : fm n B (fun j => x j - slv B b n j) = 0 := by
  unfold fm
  refine gJ fun k hk => ?_;rw [az (g := fun j => 1 * (B k j * x j) + (-1) * (B k j * slv B b n j)) (fun j _ => by grind), kg, hx k hk, tD hs hd' hk]
  grind
 rw [h2] at h1
 grind
end Go.Proofs.YtfichkokppbipaaGreatDoor

/- Elimination with exchanges gives the determinant. No condition. -/
namespace Go.Proofs.YtfichkokppbipaaGreatDoor

def swp (r s i : Nat) : Nat := if i = r then s else if i = s then r else i
theorem xZ {n : Nat} {A : Nat → Nat → Rat} {r s : Nat} (hr : r < n) (hs : s < n) (hne : r ≠ s) : dt n (fun i c => A (swp r s i) c) = - dt n A := by
 have h1 : dt n (fun i c => if i = r then A r c + A s c else A i c) = dt n A := nO 1 hr hs hne (fun c _ => by simp only [if_true]; grind) (fun i c _ _ hi => if_neg hi)
 have h2 : dt n (fun i c => if i = r then A r c + A s c else if i = s then - A r c else A i c) = dt n (fun i c => if i = r then A r c + A s c else A i c) := nO (r := s) (s := r) (-1) hs hr (Ne.symm hne) (fun c _ => by
  rw [if_neg (Ne.symm hne), if_pos rfl, if_neg (Ne.symm hne), if_pos rfl]; grind) (fun i c _ _ hi => by rw [if_neg hi])
 have h3 : dt n (fun i c => if i = r then A s c else if i = s then - A r c else A i c) = dt n (fun i c => if i = r then A r c + A s c else if i = s then - A r c else A i c) := nO (r := r) (s := s) 1 hr hs hne (fun c _ => by
  rw [if_pos rfl, if_pos rfl, if_neg (Ne.symm hne), if_pos rfl]; grind) (fun i c _ _ hi => by rw [if_neg hi, if_neg hi])
 have h4 : dt n (fun i c => A (swp r s i) c) = (-1) * dt n (fun i c => if i = r then A s c else if i = s then - A r c else A i c) := Cs (r := s) (-1) hs (fun c _ => by
  unfold swp
  rw [if_neg (Ne.symm hne), if_pos rfl, if_neg (Ne.symm hne), if_pos rfl]; grind) (fun i c _ _ hi => by
  unfold swp
  by_cases h : i = r
  ·rw [if_pos h, if_pos h]
  ·rw [if_neg h, if_neg hi, if_neg h, if_neg hi])
 rw [h4, h3, h2, h1]; grind
theorem x4 {n : Nat} {A : Nat → Nat → Rat} (x : Nat → Rat) : ∀ m, m ≤ n → dt n (fun i c => if 0 < i ∧ i < m then A i c + x i * A 0 c else A i c) = dt n A
 | 0, _ => a7 fun i c _ _ => if_neg (by omega)
 | m + 1, h => by
  rw [← x4 (A := A) x m (by omega)]
  by_cases h0 : m = 0
  ·subst h0
   exact a7 fun i c _ _ => by rw [if_neg (by omega), if_neg (by omega)]
  ·refine nO (r := m) (s := 0) (x m) (by omega) (by omega) h0 (fun c _ => ?_) (fun i c _ _ hi => ?_)
   ·rw [if_pos ⟨by omega, by omega⟩, if_neg (show ¬ (0 < m ∧ m < m) by omega), if_neg (show ¬ (0 < 0 ∧ 0 < m) by omega)]
   ·by_cases hh : 0 < i ∧ i < m
    ·rw [if_pos ⟨hh.1, by omega⟩, if_pos hh]
    ·rw [if_neg (by omega), if_neg hh]
def piv (f : Nat → Rat) (n : Nat) : Nat → Nat → Nat
 | 0, _ => n
 | d + 1, k => if f k = 0 then piv f n d (k + 1) else k
theorem qP (f : Nat → Rat) (n : Nat) : ∀ (d k : Nat), k + d = n → (piv f n d k < n ∧ k ≤ piv f n d k ∧ f (piv f n d k) ≠ 0) ∨ (piv f n d k = n ∧ ∀ i, k ≤ i → i < n → f i = 0)
 | 0, k, h => Or.inr ⟨rfl, fun i h1 h2 => by omega⟩
 | d + 1, k, h => by
  simp only [piv]
  by_cases e : f k = 0
  ·rw [if_pos e]
   rcases qP f n d (k + 1) (by omega) with ⟨h1, h2, h3⟩ | ⟨h1, h2⟩
   ·exact Or.inl ⟨h1, by omega, h3⟩
   ·refine Or.inr ⟨h1, fun i hi hin => ?_⟩
    by_cases hik : i = k
    ·rw [hik]; exact e
    ·exact h2 i (by omega) hin
  ·rw [if_neg e]; exact Or.inl ⟨by omega, Nat.le_refl _, e⟩
def el : Nat → (Nat → Nat → Rat) → Rat
 | 0, _ => 1
 | n + 1, A =>
  let k := piv (fun i => A i 0) (n + 1) (n + 1) 0
  if k = n + 1 then 0
  else (if k = 0 then 1 else -1) * (A k 0 * el n (fun i c => A (swp 0 k (i + 1)) (c + 1) - A (swp 0 k (i + 1)) 0 / A k 0 * A k (c + 1)))
theorem C5 : ∀ (n : Nat) (A : Nat → Nat → Rat), el n A = dt n A
 | 0, _ => rfl
 | n + 1, A => by
  simp only [el]
  rcases qP (fun i => A i 0) (n + 1) (n + 1) 0 (by omega) with ⟨h1, _, h3⟩ | ⟨h1, h2⟩
  ·rw [if_neg (by omega)];generalize piv (fun i => A i 0) (n + 1) (n + 1) 0 = k at *
   have hs : dt (n + 1) (fun i c => A (swp 0 k i) c) = (if k = 0 then 1 else -1) * dt (n + 1) A := by
    by_cases hk : k = 0
    ·rw [if_pos hk, a7 (B := A) (fun i c _ _ => by
      have : swp 0 k i = i := by unfold swp; (repeat' split) <;> omega
      rw [this])]; grind
    ·rw [if_neg hk, xZ (by omega) h1 (Ne.symm hk)]; grind
   have e0 : swp 0 k 0 = k := by unfold swp; rw [if_pos rfl]
   have he := x4 (n := n + 1) (A := fun i c => A (swp 0 k i) c) (fun i => - (A (swp 0 k i) 0 / A k 0)) (n + 1) (Nat.le_refl _)
   rw [ux (fun i h0 hi => by
    rw [if_pos ⟨h0, hi⟩, e0]; grind), if_neg (by omega), e0] at he
   rw [C5 n]
   rw [a7 (B := fun i c => A (swp 0 k (i + 1)) (c + 1) - A (swp 0 k (i + 1)) 0 / A k 0 * A k (c + 1)) (fun i c hi _ => by
    rw [if_pos ⟨by omega, by omega⟩]; grind)] at he
   rw [he, hs]
   split <;> grind
  ·rw [if_pos h1, a7 (B := fun i c => if c = 0 then 0 else A i c) (fun i c hi _ => by
    by_cases hc : c = 0
    ·rw [if_pos hc, hc]; exact h2 i (by omega) hi
    ·rw [if_neg hc])]
   have := ux (n := n) (A := fun i c => if c = 0 then 0 else A i c) (fun i _ _ => if_pos rfl)
   rw [this, if_pos rfl]; grind
end Go.Proofs.YtfichkokppbipaaGreatDoor

/- Leading minors and pivots; permuted matrices. No condition. -/
namespace Go.Proofs.YtfichkokppbipaaGreatDoor

theorem ib : ∀ (n : Nat) (f : Nat → Rat), pr (n + 1) f = pr n f * f n
 | 0, f => by simp only [pr]; grind
 | n + 1, f => by
  show f 0 * pr (n + 1) (fun i => f (i + 1)) = f 0 * pr n (fun i => f (i + 1)) * f (n + 1)
  rw [ib n]; grind
theorem tW {f : Nat → Rat} : ∀ {n : Nat}, (∀ i, i < n → 0 < f i) → 0 < pr n f
 | 0, _ => by show (0 : Rat) < 1; decide
 | n + 1, h => by
  rw [ib];exact Rat.mul_pos (tW (n := n) fun i hi => h i (by omega)) (h n (by omega))
theorem wE {B : Nat → Nat → Rat} {n : Nat} (hs : ∀ i j, i < n → j < n → B i j = B j i) : (∀ k, k ≤ n → 0 < dt k B) ↔ ∀ k, k < n → 0 < DD B k := by
 have hdt : ∀ k, k ≤ n → (∀ j, j < k → 0 < DD B j) → dt (k) B = pr k (DD B) := fun k hk hp =>
  mE (fun i j hi hj => hs i j (by omega) (by omega)) (fun j hj => by have := hp j (by omega); grind)
 constructor
 ·intro h k
  induction k using Nat.strongRecOn with
  | ind k ih =>
   intro hk
   have h1 : dt (k + 1) B = pr (k + 1) (DD B) := mE (fun i j hi hj => hs i j (by omega) (by omega)) (fun j hj => by have := ih j (by omega) (by omega); grind)
   have h2 := hdt k (by omega) (fun j hj => ih j hj (by omega))
   have h3 := h (k + 1) (by omega)
   have h4 := h k (by omega)
   rw [ib, ← h2] at h1;rw [h1] at h3;refine Classical.byContradiction fun hcon => ?_
   have h5 : 0 ≤ - DD B k := by grind
   have h6 := Rat.mul_nonneg (show 0 ≤ dt k B by grind) h5
   grind
 ·intro h k hk
  rw [hdt k hk (fun j hj => h j (by omega))];exact tW fun i hi => h i (by omega)
theorem yS {n : Nat} {A : Nat → Nat → Rat} {r s : Nat} (hr : r < n) (hs : s < n) (hne : r ≠ s) : dt n (fun i c => A i (swp r s c)) = - dt n A := by
 have h1 : dt n (fun i c => if c = r then A i r + A i s else A i c) = dt n A := uz 1 hr hs hne (fun i _ => by simp only [if_true]; grind) (fun i c _ _ hc => if_neg hc)
 have h2 : dt n (fun i c => if c = r then A i r + A i s else if c = s then - A i r else A i c) = dt n (fun i c => if c = r then A i r + A i s else A i c) := uz (k := s) (l := r) (-1) hs hr (Ne.symm hne) (fun i _ => by
  rw [if_neg (Ne.symm hne), if_pos rfl, if_neg (Ne.symm hne), if_pos rfl]; grind) (fun i c _ _ hc => by rw [if_neg hc])
 have h3 : dt n (fun i c => if c = r then A i s else if c = s then - A i r else A i c) = dt n (fun i c => if c = r then A i r + A i s else if c = s then - A i r else A i c) := uz (k := r) (l := s) 1 hr hs hne (fun i _ => by
  rw [if_pos rfl, if_pos rfl, if_neg (Ne.symm hne), if_pos rfl]; grind) (fun i c _ _ hc => by rw [if_neg hc, if_neg hc])
 have h4 := rz (A := fun i c => A i (swp r s c)) (B := fun i c => if c = r then A i s else if c = s then - A i r else A i c) (C := fun i c => if c = r then A i s else if c = s then - A i r else A i c) s (-1) 0 hs (fun i _ => by
  unfold swp
  rw [if_neg (Ne.symm hne), if_pos rfl, if_neg (Ne.symm hne), if_pos rfl]; grind) (fun i c _ _ hc => by
  unfold swp
  by_cases h : c = r
  ·rw [if_pos h, if_pos h]; exact ⟨rfl, rfl⟩
  ·rw [if_neg h, if_neg hc, if_neg h, if_neg hc]; exact ⟨rfl, rfl⟩)
 rw [h4, h3, h2, h1]; grind
theorem AS {n : Nat} {A : Nat → Nat → Rat} {r s : Nat} (hr : r < n) (hs : s < n) (hne : r ≠ s) : dt n (fun i c => A (swp r s i) (swp r s c)) = dt n A := by
 rw [xZ (A := fun i c => A i (swp r s c)) hr hs hne, yS hr hs hne]; grind
end Go.Proofs.YtfichkokppbipaaGreatDoor

/- Any order of rows and columns. No condition. -/
namespace Go.Proofs.YtfichkokppbipaaGreatDoor

theorem eL (r s i : Nat) : swp r s (swp r s i) = i := by unfold swp; (repeat' split) <;> omega
theorem l5 {r s i n : Nat} (hr : r < n) (hs : s < n) (hi : i < n) : swp r s i < n := by unfold swp; (repeat' split) <;> omega
theorem rx {n : Nat} : ∀ (m : Nat) {A : Nat → Nat → Rat} {e : Nat → Nat}, m ≤ n → (∀ i, i < n → e i < n) → (∀ i j, i < n → j < n → e i = e j → i = j) → (∀ i, m ≤ i → i < n → e i = i) → dt n (fun i c => A (e i) (e c)) = dt n A
 | 0, A, e, _, _, _, h => a7 fun i c hi hc => by rw [h i (by omega) hi, h c (by omega) hc]
 | m + 1, A, e, hm, h1, h2, h3 => by
  by_cases hv : e m = m
  ·exact rx m (by omega) h1 h2 (fun i hi hin => by
    by_cases hh : i = m
    ·rw [hh]; exact hv
    ·exact h3 i (by omega) hin)
  ·have lv := h1 m (by omega)
   have := rx m (A := fun i c => A (swp m (e m) i) (swp m (e m) c)) (e := fun i => swp m (e m) (e i)) (by omega) (fun i hi => l5 (by omega) lv (h1 i hi))
    (fun i j hi hj hij => h2 i j hi hj (by
     have := congrArg (swp m (e m)) hij
     rwa [eL, eL] at this))
    (fun i hi hin => by
     by_cases hh : i = m
     ·subst hh; unfold swp; rw [if_neg hv, if_pos rfl]
     ·have e1 := h3 i (by omega) hin
      have e2 : i ≠ e m := fun e' => hh (h2 i m hin (by omega) (e1.trans e'))
      show swp m (e m) (e i) = i
      rw [e1]; unfold swp; rw [if_neg hh, if_neg e2])
   rw [AS (by omega) lv (Ne.symm hv)] at this;rw [← this]
   exact a7 fun i c _ _ => by rw [eL, eL]
theorem qr {n : Nat} : ∀ (m : Nat) {f : Nat → Rat} {e : Nat → Nat}, m ≤ n → (∀ i, i < n → e i < n) → (∀ i j, i < n → j < n → e i = e j → i = j) → (∀ i, m ≤ i → i < n → e i = i) → sm n (fun i => f (e i)) = sm n f
 | 0, f, e, _, _, _, h => az fun i hi => by rw [h i (by omega) hi]
 | m + 1, f, e, hm, h1, h2, h3 => by
  by_cases hv : e m = m
  ·exact qr m (by omega) h1 h2 (fun i hi hin => by
    by_cases hh : i = m
    ·rw [hh]; exact hv
    ·exact h3 i (by omega) hin)
  ·have lv := h1 m (by omega)
   have := qr m (f := fun i => f (swp m (e m) i)) (e := fun i => swp m (e m) (e i)) (by omega) (fun i hi => l5 (by omega) lv (h1 i hi))
    (fun i j hi hj hij => h2 i j hi hj (by
     have := congrArg (swp m (e m)) hij
     rwa [eL, eL] at this))
    (fun i hi hin => by
     by_cases hh : i = m
     ·subst hh; unfold swp; rw [if_neg hv, if_pos rfl]
     ·have e1 := h3 i (by omega) hin
      have e2 : i ≠ e m := fun e' => hh (h2 i m hin (by omega) (e1.trans e'))
      show swp m (e m) (e i) = i
      rw [e1]; unfold swp; rw [if_neg hh, if_neg e2])
   have e3 : sm n (fun i => f (swp m (e m) i)) = sm n f := by
    have lm : m < n := by omega
    have hne : m ≠ e m := Ne.symm hv
    rw [tB (a := m) (b := e m) _ lm lv hne, tB (a := m) (b := e m) f lm lv hne]
    have a1 : swp m (e m) m = e m := by unfold swp; rw [if_pos rfl]
    have a2 : swp m (e m) (e m) = m := by unfold swp; rw [if_neg hv, if_pos rfl]
    rw [a1, a2, az (f := fun i => if i = m ∨ i = e m then 0 else f (swp m (e m) i)) (g := fun i => if i = m ∨ i = e m then 0 else f i) (fun i _ => by
     by_cases hh : i = m ∨ i = e m
     ·rw [if_pos hh, if_pos hh]
     ·rw [if_neg hh, if_neg hh]
      have : swp m (e m) i = i := by unfold swp; rw [if_neg (by omega), if_neg (by omega)]
      rw [this])]
    grind
   rw [e3] at this;rw [← this]
   exact az fun i _ => by rw [eL]
end Go.Proofs.YtfichkokppbipaaGreatDoor

/- How great determinants of integers are; words of what the factors hold. No condition. -/
namespace Go.Proofs.YtfichkokppbipaaGreatDoor

def IB (k : Nat) (q : Rat) : Prop := ∃ z : Int, q = (z : Rat) ∧ z.natAbs ≤ 2 ^ k
theorem IB.mono {k l : Nat} {q : Rat} (h : IB k q) (hl : k ≤ l) : IB l q := by
 obtain ⟨z, h1, h2⟩ := h
 exact ⟨z, h1, Nat.le_trans h2 (Nat.pow_le_pow_right (by decide) hl)⟩
theorem IB.mul {k l : Nat} {p q : Rat} (h : IB k p) (h' : IB l q) : IB (k + l) (p * q) := by
 obtain ⟨z, rfl, h2⟩ := h
 obtain ⟨y, rfl, h3⟩ := h'
 refine ⟨z * y, by rw [Rat.intCast_mul], ?_⟩;rw [Int.natAbs_mul, Nat.pow_add];exact Nat.mul_le_mul h2 h3
theorem IB.neg {k : Nat} {p : Rat} (h : IB k p) : IB k (-p) := by
 obtain ⟨z, rfl, h2⟩ := h
 exact ⟨-z, by rw [Rat.intCast_neg], by rw [Int.natAbs_neg]; exact h2⟩
theorem rN : IB 0 1 := ⟨1, rfl, by decide⟩
theorem C8 : ∀ i, IB 0 (sgD i)
 | 0 => rN
 | i + 1 => (C8 i).neg
theorem yh {k : Nat} {f : Nat → Rat} : ∀ n : Nat, (∀ i, i < n → IB k (f i)) → ∃ z : Int, sm n f = (z : Rat) ∧ z.natAbs ≤ n * 2 ^ k
 | 0, _ => ⟨0, rfl, by simp⟩
 | n + 1, h => by
  obtain ⟨z, h1, h2⟩ := yh n (fun i hi => h i (by omega))
  obtain ⟨y, h3, h4⟩ := h n (by omega)
  refine ⟨z + y, by rw [bW, h1, h3, Rat.intCast_add], ?_⟩
  have := Int.natAbs_add_le z y
  rw [Nat.add_mul, Nat.one_mul]
  omega
theorem Fs {k n : Nat} {f : Nat → Rat} (hn : n ≤ 16) (h : ∀ i, i < n → IB k (f i)) : IB (k + 4) (sm n f) := by
 obtain ⟨z, h1, h2⟩ := yh n h
 refine ⟨z, h1, Nat.le_trans h2 ?_⟩;rw [Nat.pow_add, Nat.mul_comm];exact Nat.mul_le_mul_left _ hn
theorem vT {m : Nat} : ∀ {n : Nat} {A : Nat → Nat → Rat}, n ≤ 16 → (∀ i j, i < n → j < n → IB m (A i j)) → IB (n * (m + 4)) (dt n A)
 | 0, _, _, _ => by rw [Nat.zero_mul]; exact rN
 | n + 1, A, hn, h => by
  have ih := fun i => vT (m := m) (n := n) (A := fun r c => A (sk i r) (c + 1)) (by omega)
  have hs : IB (0 + m + n * (m + 4) + 4) (dt (n + 1) A) := Fs hn fun i hi =>
   ((C8 i).mul (h i 0 hi (by omega))).mul (ih i fun r c hr hc => h _ _ (m9 hr) (by omega))
  exact hs.mono (by rw [Nat.succ_mul]; omega)
theorem y5 {z : Int} {k j : Nat} (h : z.natAbs ≤ 2 ^ k) (hk : k < 32 * j) : zl z ≤ j := by
 unfold zl
 refine r9 ?_;refine Nat.lt_of_le_of_lt h ?_
 have : (4294967296 : Nat) ^ j = 2 ^ (32 * j) := by rw [Nat.pow_mul]
 rw [this];exact Nat.pow_lt_pow_right (by decide) hk
theorem jm {q N D : Rat} {k j : Nat} (hN : IB k N) (hD : IB k D) (h0 : D ≠ 0) (h : q * D = N) (hk : k < 32 * j) : ql q ≤ j := by
 obtain ⟨x, rfl, h1⟩ := hN
 obtain ⟨y, rfl, h2⟩ := hD
 have e : q = Rat.divInt x y := by rw [Rat.divInt_eq_div, ← h]; grind
 rw [e];exact tS (Nat.ble_eq_true_of_le (by omega)) (y5 h1 hk) (y5 h2 hk)
theorem vh {f : Nat → Rat} : ∀ {n : Nat}, (∀ i, i < n → f i ≠ 0) → pr n f ≠ 0
 | 0, _ => by show (1 : Rat) ≠ 0; decide
 | n + 1, h => by
  rw [ib]
  intro e
  rcases Rat.mul_eq_zero.1 e with e | e
  ·exact vh (n := n) (fun i hi => h i (by omega)) e
  ·exact h n (by omega) e

section
variable {B : Nat → Nat → Rat} {n m J : Nat}
theorem C9 (hs : ∀ i j, i < n → j < n → B i j = B j i) {i : Nat} (hi : i < n) (hd : ∀ k, k < i → DD B k ≠ 0) : DD B i * dt i B = dt (i + 1) B ∧ dt i B ≠ 0 := by
 have h1 : dt (i + 1) B = pr (i + 1) (DD B) := mE (fun a b ha hb => hs a b (by omega) (by omega)) (fun k hk => hd k (by omega))
 have h2 : dt i B = pr i (DD B) := mE (fun a b ha hb => hs a b (by omega) (by omega)) (fun k hk => hd k (by omega))
 rw [h1, h2, ib];exact ⟨by grind, vh hd⟩
theorem Fr (hs : ∀ i j, i < n → j < n → B i j = B j i) {i j : Nat} (hi : i < n) (hj : j < i) (hd : ∀ k, k ≤ j → DD B k ≠ 0) :
  LL B i j * dt (j + 1) B = dt (j + 1) (fun r c => if c = j then B i r else B r c) := by
 have hb := fun c (hc : c < j + 1) => wW (L := LL B) (b := fun c => LL B i c) (n := j + 1) (fun i _ => cC B i) (fun i c _ _ h => gS B h) hc
 generalize hX : bsx (LL B) (fun c => LL B i c) (j + 1) (j + 1) = X at hb
 have e1 : X j = LL B i j := by
  have := hb j (by omega)
  rw [d7 (j := j) _ (by omega) (fun r hr hne => by rw [gS B (show r < j by omega)]; grind), cC] at this;rw [← this]; grind
 have hs' : ∀ a b, a < j + 1 → b < j + 1 → B a b = B b a := fun a b ha hb => hs a b (by omega) (by omega)
 rw [← e1];refine uB (by omega) (fun r hr => ?_);rw [ud hs' (fun k hk => hd k (by omega)) X hr];rw [az (g := fun k => LL B r k * (DD B k * LL B i k)) (fun k hk => by rw [hb k hk])];rw [eP (m := r + 1) (by omega) (fun k hk _ => by rw [gS B (show r < k by omega)]; grind), bW, cC]
 by_cases e : r = i
 ·omega
 have := yf B (i := i) (j := r) (by omega) (hd r (by omega))
 rw [az (g := fun k => LL B i k * LL B r k * DD B k) (fun k _ => by grind)]; grind
end
end Go.Proofs.YtfichkokppbipaaGreatDoor

/- Potentials and effective resistance. No condition. -/
namespace Go.Proofs.YtfichkokppbipaaGreatDoor

def LU (u : Nat → Rat) : List WL → Nat → Rat
 | [], _ => 0
 | x :: xs, i => LU u xs i + x.w * (uu id x i * (u x.f - u x.t))
def EN (u v : Nat → Rat) : List WL → Rat
 | [] => 0
 | x :: xs => EN u v xs + x.w * ((u x.f - u x.t) * (v x.f - v x.t))
def dl (i v : Nat) : Rat := if v = i then 1 else 0
section
variable {n : Nat}
theorem CP {u v : Nat → Rat} : ∀ {ls : List WL}, (∀ x ∈ ls, x.f < n ∧ x.t < n) → sm n (fun i => v i * LU u ls i) = EN u v ls
 | [], _ => gJ fun j _ => by simp only [LU]; grind
 | x :: xs, h => by
  obtain ⟨h1, h2⟩ := h x (List.mem_cons_self ..)
  have ih := CP (u := u) (v := v) (ls := xs) fun y hy => h y (List.mem_cons_of_mem _ hy)
  rw [az (g := fun i => v i * LU u xs i + (x.w * (u x.f - u x.t)) * (uu id x i * v i)) (fun j _ => by simp only [LU]; grind), iu, gU, ih, Ex v h1 h2];simp only [EN]; grind
theorem Bc {u : Nat → Rat} : ∀ {ls : List WL}, (∀ x ∈ ls, 0 < x.w) → 0 ≤ EN u u ls
 | [], _ => by show (0 : Rat) ≤ 0; grind
 | x :: xs, h => by
  have h1 := Bc (u := u) (ls := xs) fun y hy => h y (List.mem_cons_of_mem _ hy)
  have h2 := Rat.mul_nonneg (show 0 ≤ x.w by have := h x (List.mem_cons_self ..); grind) (iY (u x.f - u x.t))
  simp only [EN]; grind
theorem uI {u : Nat → Rat} : ∀ {ls : List WL}, (∀ x ∈ ls, 0 < x.w) → EN u u ls ≤ 0 → ∀ x ∈ ls, u x.f = u x.t
 | [], _, _ => fun _ h => by cases h
 | x :: xs, h, hz => by
  have hw := h x (List.mem_cons_self ..)
  have h1 := Bc (u := u) (ls := xs) fun y hy => h y (List.mem_cons_of_mem _ hy)
  have h2 := Rat.mul_nonneg (show 0 ≤ x.w by grind) (iY (u x.f - u x.t))
  simp only [EN] at hz
  have e2 : x.w * ((u x.f - u x.t) * (u x.f - u x.t)) = 0 := by grind
  intro z hz'
  rcases List.mem_cons.1 hz' with rfl | hz'
  ·rcases Rat.mul_eq_zero.1 e2 with e | e
   ·grind
   ·rcases Rat.mul_eq_zero.1 e with e | e <;> grind
  ·exact uI (ls := xs) (fun y hy => h y (List.mem_cons_of_mem _ hy)) (by grind) z hz'
theorem Ba (a b : Rat) (u v : Nat → Rat) : ∀ (ls : List WL) (i : Nat), LU (fun k => a * u k + b * v k) ls i = a * LU u ls i + b * LU v ls i
 | [], _ => by simp only [LU]; grind
 | x :: xs, i => by simp only [LU]; rw [Ba a b u v xs i]; grind
theorem uH {u : Nat → Rat} (i : Nat) : ∀ {ls : List WL}, (∀ x ∈ ls, u x.f = u x.t) → LU u ls i = 0
 | [], _ => rfl
 | x :: xs, h => by
  simp only [LU];rw [uH i (ls := xs) (fun y hy => h y (List.mem_cons_of_mem _ hy)), h x (List.mem_cons_self ..)]; grind

def UF (n : Nat) (ls : List WL) (i j : Nat) (u : Nat → Rat) : Prop := ∀ v, v < n → LU u ls v = dl i v - dl j v
theorem CO {i : Nat} (f : Nat → Rat) (hi : i < n) : sm n (fun v => f v * dl i v) = f i := by
 rw [d7 (j := i) _ hi (fun v _ h => by unfold dl; rw [if_neg h]; grind)]
 unfold dl; rw [if_pos rfl]; grind
theorem UF.en {ls : List WL} {i j : Nat} {u : Nat → Rat} (h : UF n ls i j u) (hl : ∀ x ∈ ls, x.f < n ∧ x.t < n) (hi : i < n) (hj : j < n) (v : Nat → Rat) : EN u v ls = v i - v j := by
 rw [← CP hl, az (g := fun k => 1 * (v k * dl i k) + (-1) * (v k * dl j k)) (fun k hk => by rw [h k hk]; grind), kg, CO v hi, CO v hj]
 grind
def IsR (n : Nat) (ls : List WL) (i j : Nat) (r : Rat) : Prop := ∃ u, UF n ls i j u ∧ u i - u j = r
theorem UF.symm {ls : List WL} {i j : Nat} {u : Nat → Rat} (h : UF n ls i j u) : UF n ls j i (fun k => - u k) := fun v hv => by
 have := Ba (-1) 0 u u ls v
 have e : (fun k => - u k) = fun k => (-1) * u k + 0 * u k := by funext k; grind
 rw [e, this, h v hv]; grind
theorem IsR.symm {ls : List WL} {i j : Nat} {r : Rat} (h : IsR n ls i j r) : IsR n ls j i r := by
 obtain ⟨u, h1, rfl⟩ := h
 exact ⟨_, h1.symm, by grind⟩
theorem IsR.nn {ls : List WL} {i j : Nat} {r : Rat} (hw : ∀ x ∈ ls, 0 < x.w) (hl : ∀ x ∈ ls, x.f < n ∧ x.t < n) (hi : i < n) (hj : j < n) (h : IsR n ls i j r) : 0 ≤ r := by
 obtain ⟨u, h1, rfl⟩ := h
 rw [← h1.en hl hi hj u]; exact Bc hw
theorem IsR.pos {ls : List WL} {i j : Nat} {r : Rat} (hw : ∀ x ∈ ls, 0 < x.w) (hl : ∀ x ∈ ls, x.f < n ∧ x.t < n) (hi : i < n) (hj : j < n) (hij : i ≠ j) (h : IsR n ls i j r) : 0 < r := by
 have h0 := h.nn hw hl hi hj
 obtain ⟨u, h1, rfl⟩ := h
 refine Classical.byContradiction fun hc => ?_
 have e := h1.en hl hi hj u
 have hz := uI hw (u := u) (by grind)
 have := h1 i hi
 rw [uH i hz] at this
 unfold dl at this
 rw [if_pos rfl, if_neg hij] at this
 grind
theorem IsR.same {ls : List WL} {i : Nat} : IsR n ls i i 0 := ⟨fun _ => 0, fun v _ => by rw [uH v (fun _ _ => rfl)]; grind, by grind⟩
theorem UF.max {ls : List WL} {i j k : Nat} {u : Nat → Rat} (h : UF n ls i j u) (hw : ∀ x ∈ ls, 0 < x.w) (hl : ∀ x ∈ ls, x.f < n ∧ x.t < n) (hi : i < n) (hj : j < n) (hc : Cnn (ls.map fun x => (x.f, x.t)) k i) : u k ≤ u i := by
 let y : Nat → Rat := fun v => if u v ≤ u i then 0 else u v - u i
 have hy : ∀ v, 0 ≤ y v := fun v => by show 0 ≤ (if u v ≤ u i then 0 else u v - u i); split <;> grind
 have yi : y i = 0 := if_pos (by grind)
 have key : ∀ l : List WL, (∀ x ∈ l, 0 < x.w) → EN y y l ≤ EN u y l := by
  intro l
  induction l with
  | nil => intro _; show (0 : Rat) ≤ 0; grind
  | cons x xs ih =>
   intro hw
   have ih := ih fun z hz => hw z (List.mem_cons_of_mem _ hz)
   simp only [EN]
   have hx := hw x (List.mem_cons_self ..)
   have h2 : 0 ≤ (u x.f - u x.t) * (y x.f - y x.t) - (y x.f - y x.t) * (y x.f - y x.t) := by
    have e : (u x.f - u x.t) * (y x.f - y x.t) - (y x.f - y x.t) * (y x.f - y x.t) = ((u x.f - y x.f) - (u x.t - y x.t)) * (y x.f - y x.t) := by grind
    rw [e]
    show 0 ≤ ((u x.f - (if u x.f ≤ u i then 0 else u x.f - u i)) - (u x.t - (if u x.t ≤ u i then 0 else u x.t - u i))) * ((if u x.f ≤ u i then 0 else u x.f - u i) - (if u x.t ≤ u i then 0 else u x.t - u i))
    by_cases h1 : u x.f ≤ u i <;> by_cases h2 : u x.t ≤ u i
    ·rw [if_pos h1, if_pos h2]; grind
    ·rw [if_pos h1, if_neg h2]
     have := Rat.mul_nonneg (show 0 ≤ u i - u x.f by grind) (show 0 ≤ u x.t - u i by grind)
     grind
    ·rw [if_neg h1, if_pos h2]
     have := Rat.mul_nonneg (show 0 ≤ u i - u x.t by grind) (show 0 ≤ u x.f - u i by grind)
     grind
    ·rw [if_neg h1, if_neg h2]; grind
   have h3 := Rat.mul_nonneg (show 0 ≤ x.w by grind) h2
   grind
 have e := h.en hl hi hj y
 have e2 := key ls hw
 have e3 := hy j
 have hz := uI hw (u := y) (by grind)
 have := Ef hz hc
 rw [yi] at this;refine Classical.byContradiction fun hn => ?_
 have : y k = u k - u i := if_neg hn
 grind
end
/-! ### One link apart -/
section
variable {n : Nat} {ls : List WL} {k : Nat} {r : Rat}
end
end Go.Proofs.YtfichkokppbipaaGreatDoor

/- Elimination in place. No condition. -/
namespace Go.Proofs.YtfichkokppbipaaGreatDoor

theorem sF (f : Nat → Rat) (i n : Nat) : ∀ (d k : Nat), piv (fun r => f (i + r)) n d k + i = piv f (n + i) d (k + i)
 | 0, _ => rfl
 | d + 1, k => by
  simp only [piv]
  have e : i + k = k + i := by omega
  simp only [e]
  by_cases h : f (k + i) = 0
  ·rw [if_pos h, if_pos h, sF f i n d (k + 1), show k + 1 + i = k + i + 1 by omega]
  ·rw [if_neg h, if_neg h]
theorem wC {f : Nat → Rat} {n k : Nat} : ∀ (d i : Nat), i + d = n → i ≤ k → k ≤ n → (∀ r, i ≤ r → r < k → f r = 0) → (k = n ∨ f k ≠ 0) → piv f n d i = k
 | 0, i, h, h1, h2, _, _ => by simp only [piv]; omega
 | d + 1, i, h, h1, h2, h3, h4 => by
  simp only [piv]
  by_cases e : i = k
  ·subst e
   rcases h4 with h4 | h4
   ·omega
   ·rw [if_neg h4]
  ·rw [if_pos (h3 i (Nat.le_refl _) (by omega))];exact wC d (i + 1) (by omega) (by omega) h2 (fun r hr hk => h3 r (by omega) hk) h4
def stp (i k : Nat) (A : Nat → Nat → Rat) (r c : Nat) : Rat := if i < r ∧ i ≤ c then A (swp i k r) c - A (swp i k r) i / A k i * A k c else A (swp i k r) c
def elS (n : Nat) : Nat → Nat → (Nat → Nat → Rat) → Rat → Rat
 | 0, _, _, det => det
 | d + 1, i, A, det => let k := piv (fun r => A r i) n (d + 1) i; if k = n then 0 else elS n d (i + 1) (stp i k A) ((if k = i then det else -det) * A k i)
theorem AF (n : Nat) : ∀ (d i : Nat) (A : Nat → Nat → Rat) (det : Rat), i + d = n → elS n d i A det = det * el d (fun r c => A (i + r) (i + c))
 | 0, _, _, det, _ => by simp only [elS, el]; grind
 | d + 1, i, A, det, h => by
  have hp := sF (fun r => A r i) i (d + 1) (d + 1) 0
  rw [show d + 1 + i = n by omega, Nat.zero_add] at hp;simp only [elS, el, Nat.add_zero];generalize piv (fun r => A (i + r) i) (d + 1) (d + 1) 0 = k at *;rw [← hp]
  by_cases hk : k = d + 1
  ·rw [if_pos (by omega), if_pos hk]; grind
  ·rw [if_neg (by omega), if_neg hk, AF n d (i + 1) _ _ (by omega)]
   have e : el d (fun r c => stp i (k + i) A (i + 1 + r) (i + 1 + c)) = el d (fun r c => A (i + swp 0 k (r + 1)) (i + (c + 1)) - A (i + swp 0 k (r + 1)) i / A (i + k) i * A (i + k) (i + (c + 1))) := by
    congr 1
    funext r c
    simp only [stp];rw [if_pos ⟨by omega, by omega⟩]
    have e1 : swp i (k + i) (i + 1 + r) = i + swp 0 k (r + 1) := by unfold swp; (repeat' split) <;> omega
    rw [e1, show i + 1 + c = i + (c + 1) by omega, show k + i = i + k by omega]
   rw [e, show k + i = i + k by omega]
   by_cases h0 : k = 0
   ·rw [if_pos (by omega), if_pos h0]; grind
   ·rw [if_neg (by omega), if_neg h0]; grind
theorem AH (n : Nat) (A : Nat → Nat → Rat) : elS n n 0 A 1 = dt n A := by
 rw [AF n n 0 A 1 (by omega), ← C5]
 have : (fun r c => A (0 + r) (0 + c)) = A := by funext r c; rw [Nat.zero_add, Nat.zero_add]
 rw [this]; grind
def elB (n : Nat) : Nat → Nat → (Nat → Nat → Rat) → Prop
 | 0, _, _ => True
 | d + 1, i, A => (∀ r c, i ≤ r → r < n → i ≤ c → c < n → ql (A r c) ≤ 65536) ∧ (piv (fun r => A r i) n (d + 1) i < n → elB n d (i + 1) (stp i (piv (fun r => A r i) n (d + 1) i) A))
end Go.Proofs.YtfichkokppbipaaGreatDoor

/- Elimination over integers: all numbers of the way are small. No condition. -/
namespace Go.Proofs.YtfichkokppbipaaGreatDoor

structure EI (n m i : Nat) (A A' t : Nat → Nat → Rat) : Prop where
 int : ∀ r c, r < n → c < n → IB m (A' r c)
 row : ∀ r c, r < n → c < n → A r c = A' r c + sm (min r i) (fun s => t r s * A' s c)
 low : ∀ r c, r < n → c < r → c < i → A r c = 0
 nz : ∀ a, a < i → A a a ≠ 0
section
variable {n m i : Nat} {A A' t : Nat → Nat → Rat}
theorem EI.bord (h : EI n m i A A' t) {r c : Nat} (hr : i ≤ r) (hrn : r < n) (hc : i ≤ c) (hcn : c < n) :
  pr i (fun a => A a a) * A r c = dt (i + 1) (fun a b => A' (if a < i then a else r) (if b < i then b else c)) := by
 have hg : ∀ b, b < i + 1 → (if b < i then b else c) < n := fun b hb => by split <;> omega
 have e1 := AT (n := i + 1) (L := fun a k => if k < a then t (if a < i then a else r) k else if k = a then 1 else 0) (U := fun a b => A' (if a < i then a else r) (if b < i then b else c)) (fun a _ => by simp) (fun a k _ _ hk => by
  show (if k < a then _ else if k = a then (1 : Rat) else 0) = 0
  rw [if_neg (by omega), if_neg (by omega)])
 rw [← e1]
 have e2 : dt (i + 1) (fun a b => sm (i + 1) (fun k => (if k < a then t (if a < i then a else r) k else if k = a then 1 else 0) * A' (if k < i then k else r) (if b < i then b else c))) = dt (i + 1) (fun a b => A (if a < i then a else r) (if b < i then b else c)) := a7 fun a b ha hb => by
  have hg' := hg b hb
  generalize (if b < i then b else c) = g at *
  have hra : (if a < i then a else r) < n := by split <;> omega
  rw [h.row _ g hra hg', eP (m := a + 1) (by omega) (fun k hk _ => by rw [if_neg (by omega), if_neg (by omega)]; grind), bW]
  have em : min (if a < i then a else r) i = a := by split <;> omega
  rw [em, if_neg (Nat.lt_irrefl a), if_pos rfl];rw [az (f := fun k => (if k < a then t (if a < i then a else r) k else if k = a then 1 else 0) * A' (if k < i then k else r) g) (g := fun s => t (if a < i then a else r) s * A' s g) (fun k hk => by rw [if_pos hk, if_pos (show k < i by omega)])]
  grind
 rw [e2, nM (fun a b ha hb => by
  rw [if_pos (show b < i by omega)]
  exact h.low _ b (by split <;> omega) (by split <;> omega) (by omega)), ib]
 rw [if_neg (Nat.lt_irrefl i), if_neg (Nat.lt_irrefl i)]
 congr 1
 exact qO fun a ha => by rw [if_pos ha, if_pos ha]
theorem EI.lead (h : EI n m i A A' t) (hi : i ≤ n) : pr i (fun a => A a a) = dt i A' := by
 have e1 := AT (n := i) (L := fun a k => if k < a then t a k else if k = a then 1 else 0) (U := A') (fun a _ => by simp) (fun a k _ _ hk => by
  show (if k < a then _ else if k = a then (1 : Rat) else 0) = 0
  rw [if_neg (by omega), if_neg (by omega)])
 rw [← e1]
 have e2 : dt i (fun a b => sm i (fun k => (if k < a then t a k else if k = a then 1 else 0) * A' k b)) = dt i A := a7 fun a b ha hb => by
  rw [h.row a b (by omega) (by omega), eP (m := a + 1) (by omega) (fun k hk _ => by rw [if_neg (by omega), if_neg (by omega)]; grind), bW]
  have em : min a i = a := by omega
  rw [em, if_neg (Nat.lt_irrefl a), if_pos rfl];rw [az (f := fun k => (if k < a then t a k else if k = a then 1 else 0) * A' k b) (g := fun s => t a s * A' s b) (fun k hk => by rw [if_pos hk])]
  grind
 rw [e2, nM (fun a b ha hb => h.low a b (by omega) hb (by omega))]
theorem Fd (h : EI n m i A A' t) (hi : i < n) {J : Nat} (hn : n ≤ 16) (hJ : n * (m + 4) < 32 * J) {r c : Nat} (hr : i ≤ r) (hrn : r < n) (hc : i ≤ c) (hcn : c < n) : ql (A r c) ≤ J := by
 have h1 := h.bord hr hrn hc hcn
 rw [h.lead (by omega)] at h1
 have h2 : dt i A' ≠ 0 := by rw [← h.lead (by omega)]; exact vh h.nz
 have a1 := vT (m := m) (n := i) (A := A') (by omega) (fun a b ha hb => h.int a b (by omega) (by omega))
 have a2 := vT (m := m) (n := i + 1) (A := fun a b => A' (if a < i then a else r) (if b < i then b else c)) (by omega) (fun a b ha hb => h.int _ _ (by split <;> omega) (by split <;> omega))
 have l1 : i * (m + 4) ≤ n * (m + 4) := Nat.mul_le_mul_right _ (by omega)
 have l2 : (i + 1) * (m + 4) ≤ n * (m + 4) := Nat.mul_le_mul_right _ (by omega)
 exact jm (a2.mono l2) (a1.mono l1) h2 (by rw [← h1]; grind) hJ
theorem qj {i k s : Nat} (h : s < i) (hk : i ≤ k) : swp i k s = s := by unfold swp; rw [if_neg (by omega), if_neg (by omega)]
theorem EI.step (h : EI n m i A A' t) {k : Nat} (hi : i < n) (hik : i ≤ k) (hk : k < n) (hp : A k i ≠ 0) :
  ∃ t', EI n m (i + 1) (stp i k A) (fun r c => A' (swp i k r) c) t' := by
 have hs : ∀ r, r < n → swp i k r < n := fun r hr => l5 hi hk hr
 have hs2 : ∀ r, i ≤ r → i ≤ swp i k r := fun r hr => by unfold swp; (repeat' split) <;> omega
 have e0 : swp i k i = k := by unfold swp; rw [if_pos rfl]
 have rowS : ∀ r c, r < n → c < n → A (swp i k r) c = A' (swp i k r) c + sm (min r i) (fun s => t (swp i k r) s * A' (swp i k s) c) := fun r c hr hc => by
  rw [h.row _ c (hs r hr) hc]
  congr 1
  by_cases hri : r < i
  ·rw [qj hri hik]
   exact az fun s hs => by rw [qj (show s < i by omega) hik]
  ·have := hs2 r (by omega)
   rw [Nat.min_eq_right (by omega), Nat.min_eq_right (by omega)]
   exact az fun s hs => by rw [qj hs hik]
 refine ⟨fun r s => if i < r then (if s < i then t (swp i k r) s - A (swp i k r) i / A k i * t k s else - (A (swp i k r) i / A k i)) else t (swp i k r) s, fun r c hr hc => h.int _ c (hs r hr) hc, fun r c hr hc => ?_, fun r c hr hcr hci => ?_, fun a ha => ?_⟩
 ·show stp i k A r c = A' (swp i k r) c + _
  by_cases hri : i < r
  ·rw [Nat.min_eq_right (by omega), bW];simp only [if_pos hri, if_neg (Nat.lt_irrefl i)];rw [az (f := fun s => (if s < i then t (swp i k r) s - A (swp i k r) i / A k i * t k s else -(A (swp i k r) i / A k i)) * A' (swp i k s) c) (g := fun s => 1 * (t (swp i k r) s * A' (swp i k s) c) + (-(A (swp i k r) i / A k i)) * (t k s * A' (swp i k s) c)) (fun s hs => by rw [if_pos hs]; grind), kg, e0]
   have h1 := rowS r c hr hc
   have h2 := rowS i c hi hc
   rw [Nat.min_eq_right (by omega)] at h1;rw [Nat.min_self, e0] at h2
   have h3 : stp i k A r c = A (swp i k r) c - A (swp i k r) i / A k i * A k c := by
    simp only [stp]
    by_cases hc' : i ≤ c
    ·rw [if_pos ⟨hri, hc'⟩]
    ·rw [if_neg (by omega)]
     have z := h.low k c hk (by omega) (by omega)
     rw [z]; grind
   rw [h3, h1, h2]; grind
  ·rw [show min r (i + 1) = min r i by omega];simp only [if_neg hri, stp];rw [if_neg (by omega)];exact rowS r c hr hc
 ·by_cases hri : i < r
  ·by_cases e : c = i
   ·subst e; simp only [stp]; rw [if_pos ⟨hri, Nat.le_refl _⟩]; grind
   ·simp only [stp]; rw [if_neg (by omega)]
    have : r ≥ i := by omega
    exact h.low _ c (hs r hr) (by have := hs2 r this; omega) (by omega)
  ·simp only [stp]; rw [if_neg (by omega)]
   by_cases e : r = i
   ·subst e; rw [e0]; exact h.low k c hk (by omega) (by omega)
   ·rw [qj (by omega) hik]; exact h.low r c hr hcr (by omega)
 ·simp only [stp]; rw [if_neg (by omega)]
  by_cases e : a = i
  ·subst e; rw [e0]; exact hp
  ·rw [qj (by omega) hik]; exact h.nz a (by omega)
end
end Go.Proofs.YtfichkokppbipaaGreatDoor

/- Labels of components; solutions over a part. No condition. -/
namespace Go.Proofs.YtfichkokppbipaaGreatDoor

section
variable {r : List Nat} (h : RG r)
include h
end
/-! ### The grounded part -/
def kN (n : Nat) (S : Nat → Bool) : Nat := ((List.range n).filter S).length
section
variable {n j : Nat} {ls : List WL} {S : Nat → Bool} {B : Nat → Nat → Rat}
end
theorem D7 {B : Nat → Nat → Rat} {b : Nat → Rat} {n J c : Nat} (hL : ∀ i j, i < n → j < i → ql (LL B i j) ≤ J) (hb : ∀ i, i < n → ql (b i) ≤ c) : ∀ i, i < n → ql (fwv (LL B) b i) + (J + 1) ≤ (c + J + 1) * 2 ^ i := by
 intro i
 induction i using Nat.strongRecOn with
 | ind i ih =>
  intro hi
  rw [ug]
  have key : ∀ k, k ≤ i → ql (b i - sm k (fun j => LL B i j * fwv (LL B) b j)) + (J + 1) ≤ (c + J + 1) * 2 ^ k := by
   intro k
   induction k with
   | zero =>
    intro _
    have e : b i - sm 0 (fun j => LL B i j * fwv (LL B) b j) = b i := by simp only [sm]; grind
    rw [e, Nat.pow_zero, Nat.mul_one]
    have := hb i hi
    omega
   | succ k ihk =>
    intro hk
    have h1 := ihk (by omega)
    have h2 := ih k (by omega) (by omega)
    have h3 := hL i k hi (by omega)
    have e : b i - sm (k + 1) (fun j => LL B i j * fwv (LL B) b j) = (b i - sm k (fun j => LL B i j * fwv (LL B) b j)) - LL B i k * fwv (LL B) b k := by rw [bW]; grind
    rw [e]
    have h4 := zT (b i - sm k (fun j => LL B i j * fwv (LL B) b j)) (LL B i k * fwv (LL B) b k)
    have h5 := zU (LL B i k) (fwv (LL B) b k)
    rw [Nat.pow_succ, ← Nat.mul_assoc]
    omega
  exact key i (Nat.le_refl _)
end Go.Proofs.YtfichkokppbipaaGreatDoor

/- Words of factors, solutions and eliminations of rational matrices with a common denominator. No condition. -/
namespace Go.Proofs.YtfichkokppbipaaGreatDoor

def pwC (c : Rat) (n : Nat) : Rat := pr n fun _ => c
theorem qN (c : Rat) (n : Nat) : pwC c (n + 1) = pwC c n * c := ib _ _
theorem tV {c : Rat} (h : c ≠ 0) (n : Nat) : pwC c n ≠ 0 := vh fun _ _ => h
theorem uv (c : Rat) : ∀ (n : Nat) (A : Nat → Nat → Rat), dt n (fun i j => c * A i j) = pwC c n * dt n A
 | 0, _ => (Rat.mul_one 1).symm
 | n + 1, A => by
  show sm (n + 1) (fun i => sgD i * (c * A i 0) * dt n (fun r k => c * A (sk i r) (k + 1))) = pwC c (n + 1) * sm (n + 1) (fun i => sgD i * A i 0 * dt n (fun r k => A (sk i r) (k + 1)))
  rw [← gU];refine az fun i _ => ?_;rw [uv c n (fun r k => A (sk i r) (k + 1)), qN]
  grind

section
variable {B : Nat → Nat → Rat} {n m e J : Nat} {c : Rat}
theorem vP {b : Nat → Rat} {n j : Nat} : dt n (fun r k => if k = j then c * b r else c * B r k) = pwC c n * dt n (fun r k => if k = j then b r else B r k) := by
 rw [← uv]
 exact a7 fun i k _ _ => by
  by_cases h : k = j
  ·rw [if_pos h, if_pos h]
  ·rw [if_neg h, if_neg h]
theorem rM (hB : ∀ i j, i < n → j < n → IB m (c * B i j)) (hn : n ≤ 16) {i : Nat} (hi : i ≤ n) : IB (n * (m + 4)) (pwC c i * dt i B) := by
 rw [← uv]
 have a := vT (m := m) (n := i) (A := fun a b => c * B a b) (by omega) (fun a b ha hb => hB a b (by omega) (by omega))
 exact a.mono (Nat.mul_le_mul_right _ (by omega))
theorem yg (hB : ∀ i j, i < n → j < n → IB m (c * B i j)) {b : Nat → Rat} (hb : ∀ i, i < n → IB m (c * b i)) (hn : n ≤ 16) {i j : Nat} (hi : i ≤ n) : IB (n * (m + 4)) (pwC c i * dt i (fun r k => if k = j then b r else B r k)) := by
 rw [← vP]
 have a := vT (m := m) (n := i) (A := fun r k => if k = j then c * b r else c * B r k) (by omega) (fun x y hx hy => by
  show IB m (if y = j then c * b x else c * B x y)
  split
  ·exact hb _ (by omega)
  ·exact hB _ _ (by omega) (by omega))
 exact a.mono (Nat.mul_le_mul_right _ (by omega))
theorem El (h0 : c ≠ 0) (hc : IB e c) (hs : ∀ i j, i < n → j < n → B i j = B j i) (hB : ∀ i j, i < n → j < n → IB m (c * B i j)) (hn : n ≤ 16) (hJ : n * (m + 4) + e < 32 * J) {i : Nat} (hi : i < n) (hd : ∀ k, k < i → DD B k ≠ 0) : ql (DD B i) ≤ J := by
 obtain ⟨h1, h2⟩ := C9 hs hi hd
 have a1 := (rM hB hn (i := i) (by omega)).mul hc
 have a2 := rM hB hn (i := i + 1) (by omega)
 have hp := tV h0 i
 refine jm (a2.mono (Nat.le_add_right _ e)) a1 (fun z => ?_) ?_ hJ
 ·rcases Rat.mul_eq_zero.1 z with z | z
  ·rcases Rat.mul_eq_zero.1 z with z | z
   ·exact hp z
   ·exact h2 z
  ·exact h0 z
 ·rw [qN, ← h1]; grind
theorem Bb (h0 : c ≠ 0) (hs : ∀ i j, i < n → j < n → B i j = B j i) (hB : ∀ i j, i < n → j < n → IB m (c * B i j)) (hn : n ≤ 16) (hJ : n * (m + 4) + e < 32 * J) {i j : Nat} (hi : i < n) (hj : j < i) (hd : ∀ k, k ≤ j → DD B k ≠ 0) : ql (LL B i j) ≤ J := by
 have h1 := Fr hs hi hj hd
 have h2 := (C9 hs (i := j + 1) (by omega) (fun k hk => hd k (by omega))).2
 have a1 := rM hB hn (i := j + 1) (by omega)
 have a2 := yg (j := j) hB (b := fun r => B i r) (fun r hr => hB _ _ hi hr) hn (i := j + 1) (by omega)
 have hp := tV h0 (j + 1)
 refine jm a2 a1 (fun z => ?_) ?_ (show n * (m + 4) < 32 * J by omega)
 ·rcases Rat.mul_eq_zero.1 z with z | z
  ·exact hp z
  ·exact h2 z
 ·rw [← h1]; grind
theorem BC (h0 : c ≠ 0) (hs : ∀ i j, i < n → j < n → B i j = B j i) (hB : ∀ i j, i < n → j < n → IB m (c * B i j)) {b : Nat → Rat} (hb : ∀ i, i < n → IB m (c * b i)) (hn : n ≤ 16) (hJ : n * (m + 4) + e < 32 * J) (hd : ∀ k, k < n → DD B k ≠ 0) {i : Nat} (hi : i < n) : ql (slv B b n i) ≤ J := by
 have h1 := uB (A := B) (x := slv B b n) (b := b) hi (fun r hr => tD hs hd hr)
 have h2 : dt n B ≠ 0 := by
  rw [mE hs (fun k hk => hd k (by omega))]; exact vh hd
 have a1 := rM hB hn (i := n) (Nat.le_refl _)
 have a2 := yg (j := i) hB hb hn (i := n) (Nat.le_refl _)
 have hp := tV h0 n
 refine jm a2 a1 (fun z => ?_) ?_ (show n * (m + 4) < 32 * J by omega)
 ·rcases Rat.mul_eq_zero.1 z with z | z
  ·exact hp z
  ·exact h2 z
 ·rw [← h1]; grind
theorem zq (i k : Nat) {A : Nat → Nat → Rat} (h0 : c ≠ 0) : stp i k (fun r s => c * A r s) = fun r s => c * stp i k A r s := by
 funext r s
 simp only [stp]
 by_cases h : i < r ∧ i ≤ s
 ·rw [if_pos h, if_pos h]
  by_cases z : A k i = 0
  ·rw [z, Rat.mul_zero, Rat.div_def, Rat.div_def, Rat.inv_zero]; grind
  ·have : c * A (swp i k r) i / (c * A k i) = A (swp i k r) i / A k i := by
    have : c * A k i ≠ 0 := fun y => by
     rcases Rat.mul_eq_zero.1 y with y | y
     ·exact h0 y
     ·exact z y
    grind
   rw [this]; grind
 ·rw [if_neg h, if_neg h]
theorem xU {J' : Nat} (h0 : c ≠ 0) (hq : ql c⁻¹ ≤ J') (hn : n ≤ 16) (hJ : n * (m + 4) < 32 * J) (hJ2 : J + J' ≤ 65536) : ∀ (d i : Nat) {A A' t : Nat → Nat → Rat}, i + d = n → EI n m i (fun r s => c * A r s) A' t → elB n d i A
 | 0, _, _, _, _, _, _ => trivial
 | d + 1, i, A, A', t, hd, h => by
  refine ⟨fun r s h1 h2 h3 h4 => ?_, fun hk => ?_⟩
  ·have q := Fd h (by omega) hn hJ h1 h2 h3 h4
   have e : A r s = c * A r s * c⁻¹ := by grind
   rw [e];exact Nat.le_trans (aU q hq) hJ2
  ·rcases qP (fun r => A r i) n (d + 1) i hd with ⟨h1, h2, h3⟩ | ⟨h1, _⟩
   ·generalize piv (fun r => A r i) n (d + 1) i = k at *
    obtain ⟨t', ht⟩ := h.step (k := k) (by omega) h2 h1 (fun y => by
     rcases Rat.mul_eq_zero.1 y with y | y
     ·exact h0 y
     ·exact h3 y)
    rw [zq i k h0] at ht;exact xU h0 hq hn hJ hJ2 d (i + 1) (by omega) ht
   ·omega
end
theorem Fc {n m J J' : Nat} {c : Rat} {A : Nat → Nat → Rat} (h0 : c ≠ 0) (hq : ql c⁻¹ ≤ J') (hA : ∀ r s, r < n → s < n → IB m (c * A r s)) (hn : n ≤ 16) (hJ : n * (m + 4) < 32 * J) (hJ2 : J + J' ≤ 65536) : elB n n 0 A :=
 xU h0 hq hn hJ hJ2 n 0 (A' := fun r s => c * A r s) (t := fun _ _ => 0) (by omega) ⟨hA, fun r s _ _ => by rw [Nat.min_eq_right (Nat.zero_le _)]; simp only [sm]; grind, fun _ _ _ _ h => by omega, fun _ h => by omega⟩
theorem CY {x : Nat} (h : wl x ≤ 2) : x ≤ 2 ^ 64 := by
 have h1 := qV x
 have h2 : 4294967296 ^ wl x ≤ 4294967296 ^ 2 := Nat.pow_le_pow_right (by decide) h
 have e : (4294967296 : Nat) ^ 2 = 2 ^ 64 := by decide
 omega
theorem Fh : ∀ l : List Rat, (∀ q ∈ l, ql q ≤ 2) → ∃ c : Rat, c ≠ 0 ∧ IB (64 * l.length) c ∧ ∀ q ∈ l, IB (64 * l.length + 64) (c * q)
 | [], _ => ⟨1, by decide, rN, fun _ h => nomatch h⟩
 | q :: l, h => by
  obtain ⟨c, h0, h1, h2⟩ := Fh l fun x hx => h x (List.mem_cons_of_mem _ hx)
  have hq := h q (List.mem_cons_self ..)
  have b1 : IB 64 (q.den : Rat) := ⟨q.den, by rw [Rat.intCast_natCast], CY (Nat.le_trans (Nat.le_max_right _ _) hq)⟩
  have b2 : IB 64 (q.num : Rat) := ⟨q.num, rfl, CY (Nat.le_trans (dE q) hq)⟩
  have d0 : (q.den : Rat) ≠ 0 := fun y => q.den_nz (Rat.natCast_eq_zero_iff.1 y)
  have e : (q.den : Rat) * q = (q.num : Rat) := by
   have h1 := Rat.num_divInt_den q
   rw [Rat.divInt_eq_div, Rat.intCast_natCast] at h1;rw [← h1]; grind
  refine ⟨c * q.den, fun y => ?_, (h1.mul b1).mono (by simp only [List.length_cons]; omega), fun x hx => ?_⟩
  ·rcases Rat.mul_eq_zero.1 y with y | y
   ·exact h0 y
   ·exact d0 y
  ·rcases List.mem_cons.1 hx with rfl | hx
   ·rw [Rat.mul_assoc, e];exact (h1.mul b2).mono (by simp only [List.length_cons]; omega)
   ·rw [show c * (q.den : Rat) * x = c * x * q.den by grind];exact ((h2 x hx).mul b1).mono (by simp only [List.length_cons]; omega)
end Go.Proofs.YtfichkokppbipaaGreatDoor

/- Products of rows: positive forms; a form that is never negative is positive where the determinant is not 0. No condition. -/
namespace Go.Proofs.YtfichkokppbipaaGreatDoor

section
variable {n m : Nat} {B : Nat → Nat → Rat}
theorem xS (hs : ∀ i j, i < n → j < n → B i j = B j i) (x : Nat → Rat) {i : Nat} (hi : i < n) (t : Rat) :
  fm n B (fun j => x j + if j = i then t else 0) = fm n B x + (t * sm n (fun j => B i j * x j) + t * (sm n (fun j => B i j * x j) + t * B i i)) := by
 have e1 : ∀ a, a < n → sm n (fun j => B a j * (x j + if j = i then t else 0)) = sm n (fun j => B a j * x j) + t * B a i := fun a ha => by
  rw [az (g := fun j => B a j * x j + B a j * (if j = i then t else 0)) (fun j _ => by grind), iu, d7 (j := i) (fun j => B a j * (if j = i then t else 0)) hi (fun j _ hne => by rw [if_neg hne]; grind), if_pos rfl]; grind
 unfold fm
 rw [az (g := fun a => x a * sm n (fun j => B a j * x j) + (t * (B i a * x a) + (if a = i then t else 0) * (sm n (fun j => B a j * x j) + t * B a i))) (fun a ha => by rw [e1 a ha, hs i a hi ha]; grind)];rw [iu, iu, gU, d7 (j := i) (fun a => (if a = i then t else 0) * (sm n (fun j => B a j * x j) + t * B a i)) hi (fun j _ hne => by rw [if_neg hne]; grind), if_pos rfl]
theorem Cl (n : Nat) (B : Nat → Nat → Rat) : fm n B (fun _ => 0) = 0 := gJ fun i _ => by grind
theorem DO (hs : ∀ i j, i < n → j < n → B i j = B j i) (hp : ∀ x, 0 ≤ fm n B x) (hd : dt n B ≠ 0) : ∀ k, k < n → 0 < DD B k := z7 hs fun x ⟨k, hk, hx⟩ => by
 have h0 := hp x
 by_cases e : fm n B x = 0
 ·exfalso
  have hz : ∀ i, i < n → sm n (fun j => B i j * x j) = 0 := fun i hi => by
   have b0 : 0 ≤ B i i := by
    have h1 := hp (fun j => 0 + if j = i then 1 else 0)
    rw [xS hs (fun _ => 0) hi 1, Cl, gJ (fun j _ => by grind)] at h1
    grind
   have h2 := hp (fun j => x j + if j = i then -(sm n (fun j => B i j * x j)) / (B i i + 1) else 0)
   rw [xS hs x hi, e] at h2;generalize sm n (fun j => B i j * x j) = c at h2 ⊢;generalize B i i = b at b0 h2
   have hs' : b + 1 ≠ 0 := by grind
   obtain ⟨t, ht⟩ : ∃ t, t = -c / (b + 1) := ⟨_, rfl⟩
   rw [← ht] at h2
   have h3 : c = -(t * (b + 1)) := by rw [ht]; grind
   rw [h3] at h2 ⊢
   have h4 : 0 ≤ -(t * t * (b + 2)) := by grind
   by_cases ez : t = 0
   ·rw [ez]; grind
   ·exfalso
    have h5 : 0 < t * t := by
     have := iY t
     have h6 : t * t ≠ 0 := fun y => by
      rcases Rat.mul_eq_zero.1 y with y | y <;> exact ez y
     grind
    have h7 : 0 < t * t * (b + 2) := Rat.mul_pos h5 (by grind)
    grind
  have c1 := uB hk hz
  have c2 := uB (A := B) (x := fun _ => 0) (b := fun _ => 0) hk (fun i _ => gJ fun j _ => by grind)
  rw [← c2] at c1
  have c3 : x k * dt n B = 0 := by rw [c1]; grind
  rcases Rat.mul_eq_zero.1 c3 with y | y
  ·exact hx y
  ·exact hd y
 ·grind
def gmM (m : Nat) (R : Nat → Nat → Rat) (u : Rat) (i j : Nat) : Rat := sm m (fun k => R i k * R j k) + if i = j then u else 0
theorem At (m : Nat) (R : Nat → Nat → Rat) (u : Rat) (i j : Nat) : gmM m R u i j = gmM m R u j i := by
 unfold gmM
 rw [az (g := fun k => R j k * R i k) (fun k _ => Rat.mul_comm _ _)]
 by_cases h : i = j
 ·rw [if_pos h, if_pos h.symm]
 ·rw [if_neg h, if_neg (fun e => h e.symm)]
theorem C2 (R : Nat → Nat → Rat) (u : Rat) (x : Nat → Rat) : fm n (gmM m R u) x = sm m (fun k => sm n (fun i => R i k * x i) * sm n (fun i => R i k * x i)) + u * sm n (fun i => x i * x i) := by
 have e1 : ∀ i, i < n → sm n (fun j => gmM m R u i j * x j) = sm m (fun k => R i k * sm n (fun j => R j k * x j)) + u * x i := fun i hi => by
  rw [az (g := fun j => sm m (fun k => R i k * R j k * x j) + (if i = j then u else 0) * x j) (fun j _ => by rw [gmM, Rat.add_mul, m8])];rw [iu, d7 (j := i) (fun j => (if i = j then u else 0) * x j) hi (fun j _ hne => by rw [if_neg (fun e => hne e.symm)]; grind), if_pos rfl, kJ]
  congr 1
  exact az fun k _ => by
   rw [← gU]
   exact az fun j _ => by grind
 unfold fm
 rw [az (g := fun i => sm m (fun k => (R i k * x i) * sm n (fun j => R j k * x j)) + u * (x i * x i)) (fun i hi => by
  rw [e1 i hi, Rat.mul_add, ← gU]
  congr 1
  ·exact az fun k _ => by grind
  ·grind)]
 rw [iu, gU, kJ]
 congr 1
 exact az fun k _ => m8 _ _ _
theorem E9 (R : Nat → Nat → Rat) {u : Rat} (hu : 0 ≤ u) (x : Nat → Rat) : 0 ≤ fm n (gmM m R u) x := by
 rw [C2]
 have h1 : 0 ≤ sm m (fun k => sm n (fun i => R i k * x i) * sm n (fun i => R i k * x i)) := xl fun k _ => iY _
 have h2 : 0 ≤ u * sm n (fun i => x i * x i) := Rat.mul_nonneg hu (xl fun i _ => iY _)
 grind
theorem E8 (R : Nat → Nat → Rat) {u : Rat} (hu : 0 < u) {x : Nat → Rat} (hx : ∃ i, i < n ∧ x i ≠ 0) : 0 < fm n (gmM m R u) x := by
 obtain ⟨i, hi, hx⟩ := hx
 rw [C2]
 have h1 : 0 ≤ sm m (fun k => sm n (fun i => R i k * x i) * sm n (fun i => R i k * x i)) := xl fun k _ => iY _
 have h3 : 0 < x i * x i := by
  have := iY (x i)
  have h6 : x i * x i ≠ 0 := fun y => by
   rcases Rat.mul_eq_zero.1 y with y | y <;> exact hx y
  grind
 have h2 : 0 < u * sm n (fun i => x i * x i) := Rat.mul_pos hu (zu (fun i _ => iY _) hi h3)
 grind
end
end Go.Proofs.YtfichkokppbipaaGreatDoor

/- A list sorted is 0, 1, .. just if it has each of these numbers once. No condition. -/
namespace Go.Proofs.YtfichkokppbipaaGreatDoor

def gk (l : List Int) : List Int := l.mergeSort fun x y => decide (x ≤ y)
theorem jh (l : List Int) : (gk l).Perm l := List.mergeSort_perm l _
theorem mQ (l : List Int) : (gk l).length = l.length := (jh l).length_eq
theorem Bx (l : List Int) : ∀ i j (hi : i < (gk l).length) (hj : j < (gk l).length), i < j → (gk l)[i] ≤ (gk l)[j] := by
 have h := List.pairwise_mergeSort (le := fun x y : Int => decide (x ≤ y)) (fun a b c h1 h2 => by simp only [decide_eq_true_eq] at *; omega) (fun a b => by simp only [Bool.or_eq_true, decide_eq_true_eq]; omega) l
 intro i j hi hj hij
 have := List.pairwise_iff_getElem.1 h i j hi hj hij
 exact of_decide_eq_true this
theorem Dn {l : List Int} {n : Nat} (hn : l.length = n) (hd : l.Nodup) (hr : ∀ x ∈ l, 0 ≤ x ∧ x < n) : ∀ i (h : i < (gk l).length), (gk l)[i] = (i : Int) := by
 have hl := mQ l
 have nd : (gk l).Nodup := (jh l).symm.nodup hd
 have lt : ∀ i j (hi : i < (gk l).length) (hj : j < (gk l).length), i < j → (gk l)[i] < (gk l)[j] := fun i j hi hj hij => by
  have h1 := Bx l i j hi hj hij
  have h2 : (gk l)[i] ≠ (gk l)[j] := List.pairwise_iff_getElem.1 nd i j hi hj hij
  omega
 have rg : ∀ i (h : i < (gk l).length), 0 ≤ (gk l)[i] ∧ (gk l)[i] < n := fun i h => hr _ ((jh l).mem_iff.1 (List.getElem_mem h))
 generalize gk l = s at *
 have lo : ∀ i (h : i < s.length), (i : Int) ≤ s[i] := by
  intro i
  induction i with
  | zero => intro h; exact (rg 0 h).1
  | succ i ih =>
   intro h
   have h1 := ih (by omega)
   have h2 := lt i (i + 1) (by omega) h (by omega)
   omega
 have hi : ∀ d i (h : i < s.length), i + d + 1 = s.length → s[i] + d < n := by
  intro d
  induction d with
  | zero => intro i h _; have := (rg i h).2; omega
  | succ d ih =>
   intro i h e
   have h1 := ih (i + 1) (by omega) (by omega)
   have h2 := lt i (i + 1) h (by omega) (by omega)
   omega
 intro i h
 have h1 := lo i h
 have h2 := hi (s.length - i - 1) i h (by omega)
 omega
theorem zr {l : List Int} {n : Nat} (hn : l.length = n) (h : ∀ i (h : i < (gk l).length), (gk l)[i] = (i : Int)) : l.Nodup ∧ ∀ x ∈ l, 0 ≤ x ∧ x < n := by
 have hl := mQ l
 refine ⟨(jh l).nodup (List.pairwise_iff_getElem.2 fun i j hi hj hij => by rw [h i hi, h j hj]; omega), fun x hx => ?_⟩
 obtain ⟨i, hi, rfl⟩ := List.getElem_of_mem ((jh l).mem_iff.2 hx)
 rw [h i hi]
 omega
theorem jE {l : List Int} : l.Nodup ↔ ∀ i (h : i < l.length), l[i] ∉ l.take i := by
 constructor
 ·intro h i hi hm
  obtain ⟨j, hj, e⟩ := List.getElem_of_mem hm
  rw [List.getElem_take] at e;rw [List.length_take] at hj;exact List.pairwise_iff_getElem.1 h j i (by omega) hi (by omega) e
 ·intro h
  refine List.pairwise_iff_getElem.2 fun i j hi hj hij e => h j hj ?_;rw [← e]
  have : i < (l.take j).length := by rw [List.length_take]; omega
  have e2 : (l.take j)[i] = l[i] := List.getElem_take
  rw [← e2];exact List.getElem_mem this
end Go.Proofs.YtfichkokppbipaaGreatDoor

/- A framework for functions over values: pure data, a simulation between an abstract state and the model's act and world. No condition. -/
namespace Go.Proofs.YtfichkokppbipaaGreatDoor
open Go.RowKit

inductive DC where
 | lit (v : Value)
 | sl (es : List (List DC))

inductive SC where
 | d (c : DC)
 | nil
 | own (id sz off len : Nat)
 | bad

inductive VV where
 | one (c : SC)
 | agg (cs : List SC)

inductive SV where
 | none
 | val (x : VV)
 | tup (xs : List VV)
 | ptr (id off : Nat)
 | pe (id sz i j : Nat)
 | pd (cs : List DC)
 | clo (f : FuncId) (id : Nat)

inductive OO where
 | box (cs : List SC)
 | arr (sz : Nat) (es : List (List DC))

abbrev cv := Nat → Option OO

structure St where
 ρ : List SV
 σ : cv
 rb : List Nat

def at2 {α : Type} (es : List (List α)) (i j : Nat) : Option α := (es[i]?).bind (·[j]?)

def yr : Value → Bool
 | .bool _ | .int _ _ | .string _ => true
 | _ => false

inductive RdC (w : World) (X : Nat → Prop) : Value → DC → Prop where
 | lit {v : Value} (h : yr v = true) : RdC w X v (.lit v)
 | nil {a : Option Addr} {c : Nat} : RdC w X (.slice a 0 c) (.sl [])
 | sl {b off len cap sz : Nat} {cs : Array Value} {E : TypeId} {fr : Nat × Nat} {es : List (List DC)} (vs : Nat → Nat → Value)
   (hh : w.heap[b]? = some (.cells cs E fr)) (hx : ¬ X b) (hl : len = es.length) (hcap : len ≤ cap)
   (hs : ∀ (i : Nat) (e : List DC), es[i]? = some e → e.length = sz)
   (hv : ∀ (i j : Nat) (d : DC), at2 es i j = some d → cs[off + i * sz + j]? = some (vs i j))
   (hr : ∀ (i j : Nat) (d : DC), at2 es i j = some d → RdC w X (vs i j) d) :
   RdC w X (.slice (some ⟨b, off, none⟩) len cap) (.sl es)

theorem cp {w : World} {b : Nat} {o : Obj} (h : w.heap[b]? = some o) : b < w.heap.size := by
 rcases Nat.lt_or_ge b w.heap.size with h' | h'
 ·exact h'
 ·simp [Array.getElem?_eq_none h'] at h

theorem RdC.mono {w w' : World} {X X' : Nat → Prop} (hX : ∀ b, b < w.heap.size → X' b → X b)
  (hw : ∀ b, b < w.heap.size → ¬ X b → w'.heap[b]? = w.heap[b]?) {v : Value} {d : DC} (h : RdC w X v d) : RdC w' X' v d := by
 induction h with
 | lit h => exact .lit h
 | nil => exact .nil
 | sl vs hh hx hl hcap hs hv _ ih =>
  have hb := cp hh
  exact .sl vs ((hw _ hb hx).trans hh) (fun h' => hx (hX _ hb h')) hl hcap hs hv ih

theorem RdC.oneCell {w : World} {X : Nat → Prop} {v : Value} {d : DC} (h : RdC w X v d) : v.oneCell' = true := by
 cases h with
 | lit h => cases v <;> simp_all [yr, Value.oneCell']
 | nil => rfl
 | sl => rfl

def RelC (w : World) (X : Nat → Prop) (μ : Nat → Nat) (v : Value) : SC → Prop
 | .d c => RdC w X v c
 | .nil => v = .slice none 0 0
 | .own id sz off len => ∃ (cap : Nat) (cs : Array Value) (E : TypeId) (fr : Nat × Nat), v = .slice (some ⟨μ id, off * sz, none⟩) len cap ∧ len ≤ cap ∧
   w.heap[μ id]? = some (.cells cs E fr) ∧ (off + cap) * sz ≤ cs.size
 | .bad => v.oneCell' = true

theorem RelC.oneCell {w : World} {X : Nat → Prop} {μ : Nat → Nat} {v : Value} {c : SC} (h : RelC w X μ v c) : v.oneCell' = true := by
 cases c with
 | d c => exact RdC.oneCell h
 | nil => cases h; rfl
 | own => obtain ⟨_, _, _, _, rfl, _⟩ := h; rfl
 | bad => exact h

def RelL (w : World) (X : Nat → Prop) (μ : Nat → Nat) (vs : List Value) (cs : List SC) : Prop :=
 vs.length = cs.length ∧ ∀ (i : Nat) (c : SC), cs[i]? = some c → ∃ v, vs[i]? = some v ∧ RelC w X μ v c

def RelVV (w : World) (X : Nat → Prop) (μ : Nat → Nat) (v : Value) : VV → Prop
 | .one c => RelC w X μ v c
 | .agg cs => ∃ vs : List Value, v = .agg vs.toArray ∧ RelL w X μ vs cs

def RelV (w : World) (X : Nat → Prop) (μ : Nat → Nat) (v : Value) : SV → Prop
 | .none => True
 | .val x => RelVV w X μ v x
 | .tup xs => ∃ vs : List Value, v = .tuple vs.toArray ∧ vs.length = xs.length ∧ ∀ (i : Nat) (x : VV), xs[i]? = some x → ∃ u, vs[i]? = some u ∧ RelVV w X μ u x
 | .ptr id off => v = .pointer (some ⟨μ id, off, none⟩)
 | .pe id sz i j => v = .pointer (some ⟨μ id, i * sz + j, none⟩)
 | .clo f id => v = .func (.func f) #[] #[.pointer (some ⟨μ id, 0, none⟩)]
 | .pd cs => ∃ (b off : Nat) (cells : Array Value) (E : TypeId) (fr : Nat × Nat), v = .pointer (some ⟨b, off, none⟩) ∧ w.heap[b]? = some (.cells cells E fr) ∧ ¬ X b ∧
   ∀ (j : Nat) (d : DC), cs[j]? = some d → ∃ x, cells[off + j]? = some x ∧ RdC w X x d

structure Fwd (X : Nat → Prop) (w w' : World) : Prop where
 size : w.heap.size ≤ w'.heap.size
 keep : ∀ b, b < w.heap.size → ¬ X b → w'.heap[b]? = w.heap[b]?
 row : ∀ (b : Nat) (cs : Array Value) (E : TypeId) (fr : Nat × Nat), w.heap[b]? = some (Obj.cells cs E fr) → ∃ (cs' : Array Value) (fr' : Nat × Nat), w'.heap[b]? = some (Obj.cells cs' E fr') ∧ cs'.size = cs.size

theorem Fwd.refl (X : Nat → Prop) (w : World) : Fwd X w w := ⟨Nat.le_refl _, fun _ _ _ => rfl, fun _ cs _ fr h => ⟨cs, fr, h, rfl⟩⟩

theorem Fwd.of_below {w w' : World} {X : Nat → Prop} (h : Below w.heap.size w w') : Fwd X w w' :=
 ⟨h.size, fun b hb _ => h.block b hb, fun b cs _ fr hc => ⟨cs, fr, (h.block b (cp hc)).trans hc, rfl⟩⟩

theorem RelC.mono {w w' : World} {X X' : Nat → Prop} {μ : Nat → Nat} (hX : ∀ b, b < w.heap.size → X' b → X b) (hw : Fwd X w w') {v : Value} {c : SC}
  (h : RelC w X μ v c) : RelC w' X' μ v c := by
 cases c with
 | d c => exact RdC.mono hX hw.keep h
 | nil => exact h
 | own id sz off len =>
  obtain ⟨cap, cs, E, fr, hv, hle, hh, hsz⟩ := h
  obtain ⟨cs', fr', hh', hs'⟩ := hw.row _ _ _ _ hh
  exact ⟨cap, cs', E, fr', hv, hle, hh', by omega⟩
 | bad => exact h

theorem RelL.mono {w w' : World} {X X' : Nat → Prop} {μ : Nat → Nat} (hX : ∀ b, b < w.heap.size → X' b → X b) (hw : Fwd X w w') {vs : List Value} {cs : List SC}
  (h : RelL w X μ vs cs) : RelL w' X' μ vs cs :=
 ⟨h.1, fun i c hc => let ⟨v, h1, h2⟩ := h.2 i c hc; ⟨v, h1, h2.mono hX hw⟩⟩

theorem RelVV.mono {w w' : World} {X X' : Nat → Prop} {μ : Nat → Nat} (hX : ∀ b, b < w.heap.size → X' b → X b) (hw : Fwd X w w') {v : Value} {x : VV}
  (h : RelVV w X μ v x) : RelVV w' X' μ v x := by
 cases x with
 | one c => exact RelC.mono hX hw h
 | agg cs => obtain ⟨vs, h1, h2⟩ := h; exact ⟨vs, h1, h2.mono hX hw⟩

theorem RelV.mono {w w' : World} {X X' : Nat → Prop} {μ : Nat → Nat} (hX : ∀ b, b < w.heap.size → X' b → X b) (hw : Fwd X w w') {v : Value} {x : SV}
  (h : RelV w X μ v x) : RelV w' X' μ v x := by
 cases x with
 | none => trivial
 | val x => exact RelVV.mono hX hw h
 | tup xs =>
  obtain ⟨vs, h1, h2, h3⟩ := h
  exact ⟨vs, h1, h2, fun i x hx => let ⟨u, a, b⟩ := h3 i x hx; ⟨u, a, b.mono hX hw⟩⟩
 | ptr id off => exact h
 | pe id sz i j => exact h
 | clo f id => exact h
 | pd cs =>
  obtain ⟨b, off, cells, E, fr, h1, h2, h3, h4⟩ := h
  have hb := cp h2
  exact ⟨b, off, cells, E, fr, h1, (hw.keep b hb h3).trans h2, fun h' => h3 (hX b hb h'), fun j d hd => let ⟨x, e1, e2⟩ := h4 j d hd; ⟨x, e1, e2.mono hX hw.keep⟩⟩

/-! ### References to an object's number -/
def SC.noRef (id : Nat) : SC → Bool
 | .own id' _ _ _ => id' != id
 | _ => true
def VV.noRef (id : Nat) : VV → Bool
 | .one c => c.noRef id
 | .agg cs => cs.all (SC.noRef id)
def SV.noRef (id : Nat) : SV → Bool
 | .none | .pd _ => true
 | .val x => x.noRef id
 | .tup xs => xs.all (VV.noRef id)
 | .ptr id' _ => id' != id
 | .pe id' _ _ _ => id' != id
 | .clo _ id' => id' != id
def OO.noRef (id : Nat) : OO → Bool
 | .box cs => cs.all (SC.noRef id)
 | .arr _ _ => true

theorem RelC.ren {w : World} {X : Nat → Prop} {μ μ' : Nat → Nat} {v : Value} {c : SC} (h : RelC w X μ v c) {id : Nat} (hc : c.noRef id = true)
  (hm : ∀ k, k ≠ id → μ' k = μ k) : RelC w X μ' v c := by
 cases c with
 | own id' sz off len =>
  have hne : id' ≠ id := by simpa [SC.noRef] using hc
  obtain ⟨cap, cs, E, fr, hv, hle, hh, hsz⟩ := h
  exact ⟨cap, cs, E, fr, by rw [hm _ hne]; exact hv, hle, by rw [hm _ hne]; exact hh, hsz⟩
 | d c => exact h
 | nil => exact h
 | bad => exact h

theorem RelL.ren {w : World} {X : Nat → Prop} {μ μ' : Nat → Nat} {vs : List Value} {cs : List SC} (h : RelL w X μ vs cs) {id : Nat} (hc : cs.all (SC.noRef id) = true)
  (hm : ∀ k, k ≠ id → μ' k = μ k) : RelL w X μ' vs cs :=
 ⟨h.1, fun i c hi => let ⟨v, h1, h2⟩ := h.2 i c hi; ⟨v, h1, h2.ren (List.all_eq_true.1 hc c (List.mem_of_getElem? hi)) hm⟩⟩

theorem RelVV.ren {w : World} {X : Nat → Prop} {μ μ' : Nat → Nat} {v : Value} {x : VV} (h : RelVV w X μ v x) {id : Nat} (hc : x.noRef id = true)
  (hm : ∀ k, k ≠ id → μ' k = μ k) : RelVV w X μ' v x := by
 cases x with
 | one c => exact RelC.ren h hc hm
 | agg cs => obtain ⟨vs, h1, h2⟩ := h; exact ⟨vs, h1, h2.ren hc hm⟩

theorem RelV.ren {w : World} {X : Nat → Prop} {μ μ' : Nat → Nat} {v : Value} {x : SV} (h : RelV w X μ v x) {id : Nat} (hc : x.noRef id = true)
  (hm : ∀ k, k ≠ id → μ' k = μ k) : RelV w X μ' v x := by
 cases x with
 | none => trivial
 | val x => exact RelVV.ren h hc hm
 | tup xs =>
  obtain ⟨vs, h1, h2, h3⟩ := h
  exact ⟨vs, h1, h2, fun i x hx => let ⟨u, a, b⟩ := h3 i x hx; ⟨u, a, b.ren (List.all_eq_true.1 hc x (List.mem_of_getElem? hx)) hm⟩⟩
 | ptr id' off =>
  have hne : id' ≠ id := by simpa [SV.noRef] using hc
  show v = _; rw [hm _ hne]; exact h
 | pe id' sz i j =>
  have hne : id' ≠ id := by simpa [SV.noRef] using hc
  show v = _; rw [hm _ hne]; exact h
 | clo f id' =>
  have hne : id' ≠ id := by simpa [SV.noRef] using hc
  show v = _; rw [hm _ hne]; exact h
 | pd cs => exact h

/-! ### The simulation -/
def St.get (st : St) (i : Nat) : SV := st.ρ.getD i .none
def St.put (st : St) (dst : Option Tmp) (v : SV) : St :=
 match dst with
 | some d => { st with ρ := st.ρ.set d v }
 | none => st

def Mut (X : Nat → Prop) (μ : Nat → Nat) (σ : cv) (b : Nat) : Prop := X b ∨ ∃ id o, σ id = some o ∧ μ id = b

def RelO (w : World) (X : Nat → Prop) (μ : Nat → Nat) (cs : Array Value) : OO → Prop
 | .box o => o.length ≤ cs.size ∧ ∀ (i : Nat) (c : SC), o[i]? = some c → ∃ x, cs[i]? = some x ∧ RelC w X μ x c
 | .arr sz es => es.length * sz ≤ cs.size ∧ (∀ (i : Nat) (e : List DC), es[i]? = some e → e.length = sz) ∧
   ∀ (i j : Nat) (d : DC), at2 es i j = some d → ∃ x, cs[i * sz + j]? = some x ∧ RdC w X x d

structure Sim (w0 : World) (X : Nat → Prop) (μ : Nat → Nat) (a : Act) (w : World) (st : St) : Prop where
 xlt : ∀ b, X b → b < w0.heap.size
 dfr : a.defers = []
 bel : Below w0.heap.size w0 w
 len : a.tmps.size = st.ρ.length
 slots : ∀ i, RelV w (Mut X μ st.σ) μ (a.tmps.getD i undef) (st.get i)
 objs : ∀ (id : Nat) (o : OO), st.σ id = some o → w0.heap.size ≤ μ id ∧ ∃ (cs : Array Value) (E : TypeId), w.heap[μ id]? = some (Obj.cells cs E (0, 0)) ∧ RelO w (Mut X μ st.σ) μ cs o
 inj : ∀ (i j : Nat) (o o' : OO), st.σ i = some o → st.σ j = some o' → μ i = μ j → i = j
 rbs : ∀ (id : Nat) (cs : List SC), st.σ id = some (.box cs) → id ∉ st.rb → ∀ k, cs.all (SC.noRef k) = true

def AWP (P : Program) (w0 : World) (X : Nat → Prop) (c : Code) (Q : Exit → St → Prop) (st : St) : Prop :=
 ∀ μ a w, Sim w0 X μ a w st → c.wp P (fun e a' w' => ∃ μ' st', Sim w0 X μ' a' w' st' ∧ Q e st') a w

theorem RelO.mono {w w' : World} {X X' : Nat → Prop} {μ : Nat → Nat} (hX : ∀ b, b < w.heap.size → X' b → X b) (hw : Fwd X w w') {cs : Array Value} {o : OO}
  (h : RelO w X μ cs o) : RelO w' X' μ cs o := by
 cases o with
 | box o => exact ⟨h.1, fun i c hc => let ⟨x, h1, h2⟩ := h.2 i c hc; ⟨x, h1, h2.mono hX hw⟩⟩
 | arr sz es => exact ⟨h.1, h.2.1, fun i j d hd => let ⟨x, h1, h2⟩ := h.2.2 i j d hd; ⟨x, h1, h2.mono hX hw.keep⟩⟩

theorem RelO.ren {w : World} {X : Nat → Prop} {μ μ' : Nat → Nat} {cs : Array Value} {o : OO} (h : RelO w X μ cs o) {id : Nat} (hc : o.noRef id = true)
  (hm : ∀ k, k ≠ id → μ' k = μ k) : RelO w X μ' cs o := by
 cases o with
 | box o => exact ⟨h.1, fun i c hi => let ⟨x, h1, h2⟩ := h.2 i c hi; ⟨x, h1, h2.ren (List.all_eq_true.1 hc c (List.mem_of_getElem? hi)) hm⟩⟩
 | arr sz es => exact h

end Go.Proofs.YtfichkokppbipaaGreatDoor

/- Memory: loading and storing rows of cells. No condition. -/
namespace Go.Proofs.YtfichkokppbipaaGreatDoor

theorem ga (b off n : Nat) : (Addr.add ⟨b, off, none⟩ n) = ⟨b, off + n, none⟩ := by
 unfold Addr.add
 split
 ·rename_i h; simp [h]
 ·rfl

theorem jR {w : World} {b : Nat} {cs : Array Value} {E : TypeId} {fr : Nat × Nat} (h : w.heap[b]? = some (.cells cs E fr)) (off : Nat) :
  w.cell? ⟨b, off, none⟩ = cs[off]? := by
 simp [World.cell?, h]

theorem ng {P : Program} {w : World} {b : Nat} {cs : Array Value} {E : TypeId} {fr : Nat × Nat} (h : w.heap[b]? = some (.cells cs E fr)) (off : Nat) :
  ∀ (n i : Nat) (acc : Array Value), off + i + n ≤ cs.size →
   (loadCellsFrom ⟨b, off, none⟩ i n acc).run P w = .ok (acc ++ cs.extract (off + i) (off + i + n)) w := by
 intro n
 induction n with
 | zero => intro i acc _; simp only [loadCellsFrom, Sem.run_pure, Nat.add_zero, Array.extract_eq_empty_of_le (show min (off + i) cs.size ≤ off + i by omega), Array.append_empty]
 | succ n ih =>
  intro i acc hle
  have hlt : off + i < cs.size := by omega
  simp only [loadCellsFrom, Sem.run_bind, ga, run_load, jR h, Array.getElem?_eq_getElem hlt, Result.andThen_ok];rw [ih (i + 1) _ (by omega)]
  congr 1
  apply Array.ext'
  simp only [Array.toList_append, Array.toList_push, Array.toList_extract, List.append_assoc]
  congr 1
  have e1 : off + (i + 1) = off + i + 1 := by omega
  have e2 : off + i + 1 + n = off + i + (n + 1) := by omega
  rw [e1, e2, List.extract_eq_take_drop, List.extract_eq_take_drop]
  have hlt' : off + i < cs.toList.length := by simpa using hlt
  rw [List.drop_eq_getElem_cons hlt']
  have e3 : off + i + (n + 1) - (off + i) = n + 1 := by omega
  have e4 : off + i + (n + 1) - (off + i + 1) = n := by omega
  rw [e3, e4, List.take_succ_cons]
  simp

theorem dy {P : Program} {w : World} {b : Nat} {cs : Array Value} {E : TypeId} {fr : Nat × Nat} (h : w.heap[b]? = some (.cells cs E fr)) (off n : Nat) (hle : off + n ≤ cs.size) :
  (loadCells ⟨b, off, none⟩ n).run P w = .ok (cs.extract off (off + n)) w := by
 unfold loadCells
 rw [ng h off n 0 #[] (by omega)]
 simp

def spl (cs : Array Value) : Nat → List Value → Array Value
 | _, [] => cs
 | k, v :: vs => spl (cs.setIfInBounds k v) (k + 1) vs

theorem cb : ∀ (vs : List Value) (cs : Array Value) (k : Nat), (spl cs k vs).size = cs.size
 | [], _, _ => rfl
 | v :: vs, cs, k => by rw [spl, cb vs]; simp

theorem iM : ∀ (vs : List Value) (cs : Array Value) (k m : Nat), k + vs.length ≤ cs.size →
  (spl cs k vs)[m]? = if k ≤ m ∧ m < k + vs.length then vs[m - k]? else cs[m]?
 | [], cs, k, m, _ => by rw [spl, if_neg (by simp)]
 | v :: vs, cs, k, m, h => by
  simp only [List.length_cons] at h;rw [spl, iM vs _ _ _ (by simp; omega)];simp only [List.length_cons]
  by_cases hm : m = k
  ·subst hm
   rw [if_neg (by omega), if_pos (by omega)]
   have hlt : m < cs.size := by omega
   simp [hlt]
  ·by_cases h1 : k + 1 ≤ m ∧ m < k + 1 + vs.length
   ·rw [if_pos h1, if_pos (by omega)]
    have : m - k = (m - (k + 1)) + 1 := by omega
    rw [this, List.getElem?_cons_succ]
   ·rw [if_neg h1, if_neg (by omega)];rw [Array.getElem?_setIfInBounds_ne (Ne.symm hm)]

def cL (w : World) (b : Nat) (cs : Array Value) : World :=
 { w with heap := w.heap.modify b fun
   | .cells _ E fr => .cells cs E fr
   | o => o }

theorem dO (w : World) (b : Nat) (cs : Array Value) {k : Nat} (h : k ≠ b) : (cL w b cs).heap[k]? = w.heap[k]? := by
 simp only [cL, Array.getElem?_modify];rw [if_neg (Ne.symm h)]

theorem dP {w : World} {b : Nat} {cs : Array Value} {E : TypeId} {fr : Nat × Nat} (h : w.heap[b]? = some (.cells cs E fr)) (cs' : Array Value) :
  (cL w b cs').heap[b]? = some (.cells cs' E fr) := by
 simp only [cL, Array.getElem?_modify, if_true, h, Option.map_some]

theorem pb (w : World) (b : Nat) (cs : Array Value) : (cL w b cs).heap.size = w.heap.size := by simp [cL]

theorem uV {w : World} {b : Nat} {cs : Array Value} {E : TypeId} {fr : Nat × Nat} (h : w.heap[b]? = some (.cells cs E fr)) : cL w b cs = w := by
 have : w.heap.modify b (fun | .cells _ E fr => .cells cs E fr | o => o) = w.heap := by
  apply Array.ext_getElem?
  intro i
  rw [Array.getElem?_modify]
  split
  ·rename_i hi; subst hi; simp [h]
  ·rfl
 unfold cL; rw [this]

theorem lU {w : World} {b : Nat} {cs cs' cs'' : Array Value} {E : TypeId} {fr : Nat × Nat} (h : w.heap[b]? = some (.cells cs E fr)) :
  cL (cL w b cs') b cs'' = cL w b cs'' := by
 have : (cL w b cs').heap.modify b (fun | .cells _ E fr => .cells cs'' E fr | o => o) = w.heap.modify b (fun | .cells _ E fr => .cells cs'' E fr | o => o) := by
  apply Array.ext_getElem?
  intro i
  rw [Array.getElem?_modify, Array.getElem?_modify]
  split
  ·rename_i hi; subst hi; rw [dP h, h]; rfl
  ·rename_i hi; exact dO _ _ _ (Ne.symm hi)
 unfold cL at this ⊢
 simp only [this]

theorem kh {w : World} {b : Nat} {cs : Array Value} {E : TypeId} {fr : Nat × Nat} (h : w.heap[b]? = some (.cells cs E fr)) (off : Nat) (v : Value) :
  w.setCell ⟨b, off, none⟩ v = cL w b (cs.setIfInBounds off v) := by
 have : w.heap.modify b (fun | .cells c elem frozen => .cells (if (none : Option Nat).isSome then c else c.setIfInBounds off v) elem frozen | o => o) =
   w.heap.modify b (fun | .cells _ E fr => .cells (cs.setIfInBounds off v) E fr | o => o) := by
  apply Array.ext_getElem?
  intro i
  rw [Array.getElem?_modify, Array.getElem?_modify]
  split
  ·rename_i hi; subst hi; simp [h]
  ·rfl
 unfold World.setCell cL
 exact congrArg (fun hp => ({ w with heap := hp } : World)) this

theorem ku {w : World} {b : Nat} {cs : Array Value} {E : TypeId} (h : w.heap[b]? = some (.cells cs E (0, 0))) (off : Nat) :
  w.frozen? ⟨b, off, none⟩ = false := by
 simp [World.frozen?, h]

theorem eR {P : Program} : ∀ (vs : List Value) {w : World} {b : Nat} {cs : Array Value} {E : TypeId} (_ : w.heap[b]? = some (.cells cs E (0, 0))) (off i : Nat),
  off + i + vs.length ≤ cs.size → (∀ v ∈ vs, v.oneCell' = true) →
   (storeCells ⟨b, off, none⟩ vs i).run P w = .ok () (cL w b (spl cs (off + i) vs))
 | [], w, b, cs, E, h, off, i, _, _ => by
  simp only [storeCells, Sem.run_pure, spl];rw [uV h]
 | v :: vs, w, b, cs, E, h, off, i, hle, hv => by
  simp only [List.length_cons] at hle
  have hlt : off + i < cs.size := by omega
  simp only [storeCells, Sem.run_bind, ga];rw [run_store P w _ v _ (hv v (by simp))];simp only [jR h, Array.getElem?_eq_getElem hlt, ku h];rw [if_neg (by simp), kh h];simp only [Result.andThen_ok];rw [eR vs (dP h _) off (i + 1) (by simp; omega) (fun v hv' => hv v (by simp [hv']))];rw [lU h]
  rfl

theorem tF {w : World} {b B : Nat} (cs : Array Value) (hb : B ≤ b) : RowKit.Below B w (cL w b cs) :=
 ⟨rfl, rfl, rfl, by rw [pb]; exact Nat.le_refl _, fun k hk => dO _ _ _ (by omega)⟩

theorem wh {w : World} {b : Nat} {X : Nat → Prop} {cs cs' : Array Value} {E : TypeId} {fr : Nat × Nat} (h : w.heap[b]? = some (.cells cs E fr)) (hs : cs'.size = cs.size) (hX : X b) :
  Fwd X w (cL w b cs') := by
 refine ⟨by rw [pb]; exact Nat.le_refl _, fun k _ hk => dO _ _ _ (fun e => hk (e ▸ hX)), fun k c E' fr' hc => ?_⟩
 by_cases hk : k = b
 ·subst hk
  rw [h] at hc; cases hc;exact ⟨cs', fr, dP h cs', hs⟩
 ·exact ⟨c, fr', by rw [dO _ _ _ hk]; exact hc, rfl⟩

theorem tj (X : Nat → Prop) (w : World) (o : Obj) : Fwd X w (w.alloc o) :=
 ⟨by simp, fun b hb _ => RowKit.Below.heap_alloc w o b hb, fun b cs E fr hc => ⟨cs, fr, by rw [RowKit.Below.heap_alloc w o b (cp hc)]; exact hc, rfl⟩⟩

theorem dq (w : World) (o : Obj) : (w.alloc o).heap[w.heap.size]? = some o := by show (w.heap.push o)[w.heap.size]? = _; simp

/-! ### The types' table -/
inductive TD where
 | slice (e : TypeId)
 | array (n : Nat) (e : TypeId)
 | struct (fs : List (Nat × TypeId))
 | int (k : IntKind)
 | bool
 | string
 | other

structure TI where
 size : Nat
 bytes : Nat
 agg : Bool
 zero : List SC
 und : TD

def mO : TypeDesc → TD
 | .slice e => .slice e
 | .array n e => .array n e
 | .struct fs => .struct (fs.toList.map fun f => (f.offset, f.type))
 | .int k => .int k
 | .bool => .bool
 | .string => .string
 | _ => .other

def gH : SC → Value
 | .d (.lit v) => v
 | _ => .slice none 0 0

def mkV (agg : Bool) (vs : List Value) : Value := if agg then .agg vs.toArray else vs.headD undef

def Am : TypeDesc → Bool
 | .struct _ | .array _ _ => true
 | _ => false

structure TF (P : Program) (t : TypeId) (ti : TI) : Prop where
 info : (P.info? t).map (fun i => (i.size, i.bytes, i.zero)) = some (ti.size, ti.bytes, some (mkV ti.agg (ti.zero.map gH)))
 und : (P.underlying t).map mO = some ti.und
 agg : (P.underlying t).map Am = some ti.agg
 zsz : ti.zero.length = ti.size
 zok : ti.zero.all (fun c => match c with | .d (.lit v) => yr v | .nil => true | _ => false) = true
 one : ti.agg = false → ti.size = 1

structure Res where
 v : SV
 ob : Option (Nat × List (List DC)) := none

def rnC (d : Nat) : SC → SC
 | .own _ sz off len => .own d sz off len
 | c => c
def u5 (d : Nat) : VV → VV
 | .one c => .one (rnC d c)
 | .agg cs => .agg (cs.map (rnC d))
def zF (d : Nat) : SV → SV
 | .val x => .val (u5 d x)
 | .tup xs => .tup (xs.map (u5 d))
 | x => x

def C1 : DC → Bool
 | .lit _ => true
 | .sl _ => false
def SC.flat : SC → Bool
 | .d (.lit _) => true
 | .d (.sl []) => true
 | .nil => true
 | .own _ _ _ _ => true
 | _ => false
def VV.flat : VV → Bool
 | .one c => c.flat
 | .agg cs => cs.all SC.flat
def SV.flat : SV → Bool
 | .val x => x.flat
 | .tup xs => xs.all VV.flat
 | .none => true
 | _ => false
def CJ (r : Res) : Prop := r.v.flat = true ∧ ∀ (sz : Nat) (es : List (List DC)), r.ob = some (sz, es) → ∀ e ∈ es, ∀ d ∈ e, C1 d = true

def Xp (X : Nat → Prop) (r : Res) (b c : Nat) : Prop := X c ∨ (r.ob.isSome = true ∧ c = b)
def w5 (w : World) (X : Nat → Prop) (base : Nat) (v : Value) (r : Res) : Prop :=
 ∃ b, (∀ (sz : Nat) (es : List (List DC)), r.ob = some (sz, es) → base ≤ b ∧ ∃ (cs : Array Value) (E : TypeId), w.heap[b]? = some (Obj.cells cs E (0, 0)) ∧ RelO w (Xp X r b) (fun _ => b) cs (.arr sz es)) ∧
  RelV w (Xp X r b) (fun _ => b) v r.v

def Con (P : Program) (f : FuncId) (args : List SV) (r : Res) : Prop :=
 (∃ fn, P.funcs[f]? = some fn ∧ (fn.name == "runtime.NumGoroutine") = false ∧ fn.body.isSome = true) ∧
  ∀ (w : World) (X : Nat → Prop) (μ : Nat → Nat) (vs : List Value), (∀ b, X b → b < w.heap.size) → vs.length = args.length → (∀ (i : Nat) (x : SV), args[i]? = some x → ∃ v, vs[i]? = some v ∧ RelV w X μ v x) →
   Calls P f vs.toArray w (fun e w' => ∃ v, e = .returned v ∧ RowKit.Below w.heap.size w w' ∧ w5 w' X w.heap.size v r)

def SC.noOwn : SC → Bool
 | .own _ _ _ _ => false
 | _ => true
def VV.noOwn : VV → Bool
 | .one c => c.noOwn
 | .agg cs => cs.all SC.noOwn
def SV.noOwn : SV → Bool
 | .val x => x.noOwn
 | .tup xs => xs.all VV.noOwn
 | _ => true

def SV.noAddr : SV → Bool
 | .ptr _ _ | .pe _ _ _ _ | .clo _ _ => false
 | _ => true
structure Tab where
 ty : Nat → Option TI
 clo : FuncId → List SV → Option SV
 dat : Nat → Bool := fun _ => false
 eqs : Nat → Option Nat := fun _ => none
instance : CoeFun Tab (fun _ => Nat → Option TI) := ⟨Tab.ty⟩
def FJ (P : Program) (t : TypeId) (n : Nat) : Prop :=
 ∀ (w : World) (ox oy : Operand) (a b : List Int), a.length = n → b.length = n →
  ((do eqGuard .eql t ox oy (.agg (a.map (Value.int .i64)).toArray) (.agg (b.map (Value.int .i64)).toArray); binOp .eql t (.agg (a.map (Value.int .i64)).toArray) (.agg (b.map (Value.int .i64)).toArray)) : Sem Value).run P w = .ok (.bool (a == b)) w ∧
  ((do eqGuard .neq t ox oy (.agg (a.map (Value.int .i64)).toArray) (.agg (b.map (Value.int .i64)).toArray); binOp .neq t (.agg (a.map (Value.int .i64)).toArray) (.agg (b.map (Value.int .i64)).toArray)) : Sem Value).run P w = .ok (.bool (!(a == b))) w
structure TOK (P : Program) (T : Tab) : Prop where
 ty : ∀ t ti, T.ty t = some ti → TF P t ti
 clo : ∀ f args v, T.clo f args = some v → Con P f args { v := v } ∧ v.flat = true ∧ v.noOwn = true ∧ v.noAddr = true
 eqs : ∀ t n, T.eqs t = some n → FJ P t n

section
variable {P : Program} {t : TypeId} {ti : TI} (h : TF P t ti) (w : World)
include h
theorem TF.run_sizeOf : (sizeOf t).run P w = .ok ti.size w := by
 have h1 := h.info
 cases hi : P.info? t with
 | none => rw [hi] at h1; cases h1
 | some i =>
  rw [hi] at h1; simp only [Option.map_some, Option.some.injEq, Prod.mk.injEq] at h1;simp only [sizeOf, typeInfo, Sem.run_bind, run_program, Result.andThen_ok, hi, Sem.run_pure, h1.1]
theorem TF.run_zero : (zeroValue t).run P w = .ok (mkV ti.agg (ti.zero.map gH)) w := by
 have h1 := h.info
 cases hi : P.info? t with
 | none => rw [hi] at h1; cases h1
 | some i =>
  rw [hi] at h1; simp only [Option.map_some, Option.some.injEq, Prod.mk.injEq] at h1;simp only [zeroValue, typeInfo, Sem.run_bind, run_program, Result.andThen_ok, hi, Sem.run_pure, h1.2.2]
theorem TF.run_bytes : ∃ i, (typeInfo t).run P w = .ok i w ∧ i.bytes = ti.bytes ∧ i.size = ti.size := by
 have h1 := h.info
 cases hi : P.info? t with
 | none => rw [hi] at h1; cases h1
 | some i =>
  rw [hi] at h1; simp only [Option.map_some, Option.some.injEq, Prod.mk.injEq] at h1;exact ⟨i, by simp only [typeInfo, Sem.run_bind, run_program, Result.andThen_ok, hi, Sem.run_pure], h1.2.1, h1.1⟩
theorem TF.run_und : ∃ u, (underlying t).run P w = .ok u w ∧ mO u = ti.und ∧ Am u = ti.agg := by
 have h1 := h.und
 have h2 := h.agg
 cases hi : P.underlying t with
 | none => rw [hi] at h1; cases h1
 | some u =>
  rw [hi] at h1 h2; simp only [Option.map_some, Option.some.injEq] at h1 h2;exact ⟨u, by simp only [underlying, Sem.run_bind, run_program, Result.andThen_ok, hi, Sem.run_pure], h1, h2⟩
theorem TF.run_isAgg : (isAgg t).run P w = .ok ti.agg w := by
 obtain ⟨u, hu, _, ha⟩ := h.run_und w
 simp only [isAgg, Sem.run_bind, hu, Result.andThen_ok];rw [← ha]
 cases u <;> rfl
theorem TF.run_slice {e : TypeId} (he : ti.und = .slice e) : (underlying t).run P w = .ok (.slice e) w := by
 obtain ⟨u, hu, hd, _⟩ := h.run_und w
 rw [he] at hd
 cases u <;> simp only [mO] at hd <;> cases hd
 exact hu
theorem TF.run_array {m : Nat} {e : TypeId} (he : ti.und = .array m e) : (underlying t).run P w = .ok (.array m e) w := by
 obtain ⟨u, hu, hd, _⟩ := h.run_und w
 rw [he] at hd
 cases u <;> simp only [mO] at hd <;> cases hd
 exact hu
theorem TF.run_int {k : IntKind} (he : ti.und = .int k) : (underlying t).run P w = .ok (.int k) w := by
 obtain ⟨u, hu, hd, _⟩ := h.run_und w
 rw [he] at hd
 cases u <;> simp only [mO] at hd <;> cases hd
 exact hu
theorem TF.run_string (he : ti.und = .string) : (underlying t).run P w = .ok .string w := by
 obtain ⟨u, hu, hd, _⟩ := h.run_und w
 rw [he] at hd
 cases u <;> simp only [mO] at hd <;> cases hd
 exact hu
theorem TF.run_bool (he : ti.und = .bool) : (underlying t).run P w = .ok .bool w := by
 obtain ⟨u, hu, hd, _⟩ := h.run_und w
 rw [he] at hd
 cases u <;> simp only [mO] at hd <;> cases hd
 exact hu
theorem TF.run_struct {fs : List (Nat × TypeId)} (he : ti.und = .struct fs) : ∃ fields : Array Field, (underlying t).run P w = .ok (.struct fields) w ∧
  fields.toList.map (fun f => (f.offset, f.type)) = fs := by
 obtain ⟨u, hu, hd, _⟩ := h.run_und w
 rw [he] at hd
 cases u <;> simp only [mO] at hd <;> cases hd
 exact ⟨_, hu, rfl⟩
end

end Go.Proofs.YtfichkokppbipaaGreatDoor

/- What each operation does to the abstract state. No condition. -/
namespace Go.Proofs.YtfichkokppbipaaGreatDoor

def p4 (v : Value) : SC :=
 match v with
 | .slice none 0 0 => .nil
 | .bool _ | .int _ _ | .string _ => .d (.lit v)
 | _ => .bad

def rJ : Value → SV
 | .slice none 0 0 => .val (.one .nil)
 | .bool b => .val (.one (.d (.lit (.bool b))))
 | .int k n => .val (.one (.d (.lit (.int k n))))
 | .string s => .val (.one (.d (.lit (.string s))))
 | .agg cs => if cs.toList.all Value.oneCell' then .val (.agg (cs.toList.map p4)) else .none
 | _ => .none

def opd (st : St) : Operand → SV
 | .tmp t => st.get t
 | .const v => rJ v
 | _ => .none

def cellsOf : VV → List SC
 | .one c => [c]
 | .agg cs => cs
def vq (agg : Bool) (cs : List SC) : Option VV :=
 if agg then some (.agg cs) else match cs with
  | [c] => some (.one c)
  | _ => none
def SC.data? : SC → Option DC
 | .d c => some c
 | .nil => some (.sl [])
 | _ => none
def gY : List SC → Option (List DC)
 | [] => some []
 | c :: cs => match c.data?, gY cs with
  | some d, some ds => some (d :: ds)
  | _, _ => none
def jT {α : Type} (l : List α) : Nat → List α → List α
 | _, [] => l
 | k, v :: vs => jT (l.set k v) (k + 1) vs

inductive Eff where
 | set (v : SV)
 | new (o : OO) (v : Nat → SV)
 | upd (σ : cv) (rb : List Nat)
 | app (id : Option Nat) (sz : Nat) (es : List (List DC))
 | call (f : FuncId) (args : List SV)
 | stuck

def ge : BinOp → Value → Value → Option Value
 | .shl, .int k a, .int _ b => if b < 0 then none else some (.int k (k.wrap (a * 2 ^ (min b.toNat k.bits))))
 | .shr, .int k a, .int _ b => if b < 0 then none else some (.int k (a.fdiv (2 ^ (min b.toNat k.bits))))
 | .add, .int k a, .int k' b => if k = k' then some (.int k (k.wrap (a + b))) else none
 | .sub, .int k a, .int k' b => if k = k' then some (.int k (k.wrap (a - b))) else none
 | .mul, .int k a, .int k' b => if k = k' then some (.int k (k.wrap (a * b))) else none
 | .quo, .int k a, .int k' b => if k = k' then if b = 0 then none else some (.int k (k.wrap (a.tdiv b))) else none
 | .rem, .int k a, .int k' b => if k = k' then if b = 0 then none else some (.int k (a.tmod b)) else none
 | .and, .int k a, .int k' b => if k = k' then some (.int k (k.wrap ((BitVec.ofInt k.bits a &&& BitVec.ofInt k.bits b).toNat))) else none
 | .or, .int k a, .int k' b => if k = k' then some (.int k (k.wrap ((BitVec.ofInt k.bits a ||| BitVec.ofInt k.bits b).toNat))) else none
 | .xor, .int k a, .int k' b => if k = k' then some (.int k (k.wrap ((BitVec.ofInt k.bits a ^^^ BitVec.ofInt k.bits b).toNat))) else none
 | .andNot, .int k a, .int k' b => if k = k' then some (.int k (k.wrap ((BitVec.ofInt k.bits a &&& ~~~ BitVec.ofInt k.bits b).toNat))) else none
 | .eql, .int k a, .int k' b => if k = k' then some (.bool (a == b)) else none
 | .neq, .int k a, .int k' b => if k = k' then some (.bool (a != b)) else none
 | .lss, .int k a, .int k' b => if k = k' then some (.bool (a < b)) else none
 | .leq, .int k a, .int k' b => if k = k' then some (.bool (a ≤ b)) else none
 | .gtr, .int k a, .int k' b => if k = k' then some (.bool (a > b)) else none
 | .geq, .int k a, .int k' b => if k = k' then some (.bool (a ≥ b)) else none
 | .eql, .string a, .string b => some (.bool (a.toList == b.toList))
 | .neq, .string a, .string b => some (.bool (!(a.toList == b.toList)))
 | .add, .string a, .string b => if a.size + b.size ≤ 4611686018427387904 then some (.string (a ++ b)) else none
 | _, _, _ => none

def unA : UnOp → Value → Option Value
 | .neg, .int k n => some (.int k (k.wrap (0 - n)))
 | .xor, .int k n => some (.int k (k.wrap ((BitVec.ofInt k.bits (if k.signed then -1 else k.max) ^^^ BitVec.ofInt k.bits n).toNat)))
 | .not, .bool b => some (.bool !b)
 | _, _ => none

def dx : SV → Option Value
 | .val (.one (.d (.lit v))) => some v
 | _ => none
def de : SV → Option (IntKind × Int)
 | .val (.one (.d (.lit (.int k n)))) => some (k, n)
 | _ => none
def bw (v : Value) : Eff := .set (.val (.one (.d (.lit v))))

def jJ (T : Tab) (t : TypeId) : Bool :=
 match T t with
 | some ti => match ti.und with
  | .bool => true
  | _ => false
 | none => false
def sQ : List SC → Option (List Int)
 | [] => some []
 | .d (.lit (.int .i64 n)) :: cs => match sQ cs with
  | some l => some (n :: l)
  | none => none
 | _ => none
def xV (T : Tab) (op : BinOp) (t : TypeId) (x y : SV) : Eff :=
 match T.eqs t, x, y with
 | some n, .val (.agg cs), .val (.agg ds) => match sQ cs, sQ ds with
  | some a, some b => if a.length = n ∧ b.length = n then match op with
    | .eql => bw (.bool (a == b))
    | .neq => bw (.bool (!(a == b)))
    | _ => .stuck else .stuck
  | _, _ => .stuck
 | _, _, _ => .stuck
def a6 (T : Tab) (op : BinOp) (t : TypeId) (x y : SV) : Eff :=
 match dx x, dx y with
 | some a, some b => match ge op a b with
  | some v => bw v
  | none => match op, a, b with
   | .eql, .bool p, .bool q => if jJ T t then bw (.bool (p == q)) else .stuck
   | .neq, .bool p, .bool q => if jJ T t then bw (.bool (!(p == q))) else .stuck
   | _, _, _ => .stuck
 | _, _ => xV T op t x y
def rl (op : UnOp) (x : SV) : Eff :=
 match dx x with
 | some a => match unA op a with
  | some v => bw v
  | none => .stuck
 | none => .stuck
def jN (c a b : SV) : Eff :=
 match dx c with
 | some (.bool t) => .set (if t then a else b)
 | _ => .stuck
def iU (T : Tab) (src dst : TypeId) (x : SV) : Eff :=
 match T src, T dst, de x with
 | some _, some td, some (_, n) => match td.und with
  | .int k => bw (.int k (k.wrap n))
  | _ => .stuck
 | _, _, _ => .stuck
def bC (T : Tab) (st : St) (t : TypeId) (x : SV) : Eff :=
 match T t with
 | none => .stuck
 | some ti => match x with
  | .ptr id off => match st.σ id with
   | some (.box cs) => if off + ti.size ≤ cs.length then match vq ti.agg ((cs.drop off).take ti.size) with
    | some v => .set (.val v)
    | none => .stuck else .stuck
   | _ => .stuck
  | .pe id sz i j => match st.σ id with
   | some (.arr sz' es) => if sz' = sz then match es[i]? with
    | some e => if j + ti.size ≤ e.length then match vq ti.agg (((e.drop j).take ti.size).map .d) with
     | some v => .set (.val v)
     | none => .stuck else .stuck
    | none => .stuck else .stuck
   | some (.box cs) => if i * sz + j + ti.size ≤ cs.length then match vq ti.agg ((cs.drop (i * sz + j)).take ti.size) with
    | some v => .set (.val v)
    | none => .stuck else .stuck
   | _ => .stuck
  | .pd cs => if 0 < ti.size ∧ ti.size ≤ cs.length then match vq ti.agg ((cs.take ti.size).map .d) with
    | some v => .set (.val v)
    | none => .stuck else .stuck
  | _ => .stuck
def bp (σ : cv) (id : Nat) (o : OO) : cv := fun k => if k = id then some o else σ k
def bP (T : Tab) (st : St) (t : TypeId) (x y : SV) : Eff :=
 match T t, y with
 | some ti, .val v => if (cellsOf v).length = ti.size then match x with
  | .ptr id off => match st.σ id with
   | some (.box cs) => if off + ti.size ≤ cs.length then
     .upd (bp st.σ id (.box (jT cs off (cellsOf v)))) (if (cellsOf v).all SC.noOwn then st.rb else id :: st.rb) else .stuck
   | _ => .stuck
  | .pe id sz i j => match st.σ id, gY (cellsOf v) with
   | some (.arr sz' es), some ds => if sz' = sz then match es[i]? with
    | some e => if j + ti.size ≤ e.length then .upd (bp st.σ id (.arr sz (es.set i (jT e j ds)))) st.rb else .stuck
    | none => .stuck else .stuck
   | some (.box cs), _ => if i * sz + j + ti.size ≤ cs.length then
     .upd (bp st.σ id (.box (jT cs (i * sz + j) (cellsOf v)))) (if (cellsOf v).all SC.noOwn then st.rb else id :: st.rb) else .stuck
   | _, _ => .stuck
  | _ => .stuck else .stuck
 | _, _ => .stuck
def dp (T : Tab) (s : TypeId) (x : SV) (f : Nat) : Eff :=
 match T s with
 | some si => match si.und with
  | .struct fs => match fs[f]? with
   | some (off, t) => match T t with
    | some ti => if ti.size = 0 then .stuck else match x with
     | .ptr id o => .set (.ptr id (o + off))
     | .pe id sz i j => .set (.pe id sz i (j + off))
     | .pd cs => .set (.pd (cs.drop off))
     | _ => .stuck
    | none => .stuck
   | none => .stuck
  | _ => .stuck
 | none => .stuck
def jr (T : Tab) (s : TypeId) (x : SV) (f : Nat) : Eff :=
 match T s, x with
 | some si, .val (.agg cs) => match si.und with
  | .struct fs => match fs[f]? with
   | some (off, t) => match T t with
    | some ti => if off + ti.size ≤ cs.length then match vq ti.agg ((cs.drop off).take ti.size) with
     | some v => .set (.val v)
     | none => .stuck else .stuck
    | none => .stuck
   | none => .stuck
  | _ => .stuck
 | _, _ => .stuck
def bi (T : Tab) (t : TypeId) (x i : SV) : Eff :=
 match T t, de i with
 | some ti, some (_, n) => match ti.und with
  | .slice e => match T e with
   | some ei => if 0 ≤ n then match x with
    | .val (.one (.own id sz off len)) => if sz = ei.size ∧ n < len then .set (.pe id sz (off + n.toNat) 0) else .stuck
    | .val (.one (.d (.sl es))) => match es[n.toNat]? with
     | some el => if el.length = ei.size then .set (.pd el) else .stuck
     | none => .stuck
    | _ => .stuck else .stuck
   | none => .stuck
  | .array m e => match T e with
   | some ei => if 0 ≤ n ∧ n < m then match x with
    | .ptr id o => .set (.ptr id (o + n.toNat * ei.size))
    | _ => .stuck else .stuck
   | none => .stuck
  | _ => .stuck
 | _, _ => .stuck
def gz (x : SV) (i : Nat) : Eff :=
 match x with
 | .tup xs => match xs[i]? with
  | some v => .set (.val v)
  | none => .stuck
 | _ => .stuck
def eW : SV → Option Nat
 | .val (.one (.own _ _ _ len)) => some len
 | .val (.one (.d (.sl es))) => some es.length
 | .val (.one .nil) => some 0
 | _ => none
def mB (T : Tab) (t : TypeId) (x : SV) : Eff :=
 match T t with
 | some ti => match ti.und with
  | .slice _ => match eW x with
   | some n => bw (.int .i64 n)
   | none => .stuck
  | _ => .stuck
 | none => .stuck
def sX (T : Tab) (fs : List (Nat × TypeId)) : List SC → List (Nat × SV) → Option (List SC)
 | cs, [] => some cs
 | cs, (i, .val v) :: rest => match fs[i]? with
  | some (off, t) => match T t with
   | some ti => if (cellsOf v).length = ti.size ∧ off + ti.size ≤ cs.length then sX T fs (jT cs off (cellsOf v)) rest else none
   | none => none
  | none => none
 | _, _ => none
def jt (T : Tab) (t : TypeId) (parts : List (Nat × SV)) : Eff :=
 match T t with
 | some ti => match ti.und with
  | .struct fs => if fs.all (fun p => (T p.2).isSome) then match sX T fs ti.zero parts with
   | some cs => .set (.val (.agg cs))
   | none => .stuck else .stuck
  | _ => .stuck
 | none => .stuck
def r8 (ei : TI) : List DC := (gY ei.zero).getD []
def pw (sz : Nat) : List (List DC) → List (Nat × SV) → Option (List (List DC))
 | es, [] => some es
 | es, (i, .val v) :: rest => match gY (cellsOf v) with
  | some ds => if ds.length = sz ∧ i < es.length then pw sz (es.set i ds) rest else none
  | none => none
 | _, _ => none
def br (T : Tab) (t : TypeId) (len : Nat) (parts : List (Nat × SV)) : Eff :=
 match T t with
 | some ti => match ti.und with
  | .slice e => match T e with
   | some ei => if len * ei.size ≤ 2 ^ 24 ∧ ei.size ≠ 0 then match pw ei.size (List.replicate len (r8 ei)) parts with
    | some es => .new (.arr ei.size es) (fun d => .val (.one (.own d ei.size 0 len)))
    | none => .stuck else .stuck
   | none => .stuck
  | _ => .stuck
 | none => .stuck
def o8 (ei : TI) (n : Nat) : OO :=
 match ei.zero with
 | [.nil] => .box (List.replicate n .nil)
 | _ => .arr ei.size (List.replicate n (r8 ei))
def cz (T : Tab) (t : TypeId) (len : Nat) (parts : List (Nat × SV)) : Eff :=
 match br T t len parts with
 | .new (.arr _ es) _ => .set (.val (.one (.d (.sl es))))
 | _ => .stuck
def bh (T : Tab) (t : TypeId) (l c : SV) : Eff :=
 match T t, de l, de c with
 | some ti, some (_, n), some (_, m) => match ti.und with
  | .slice e => match T e with
   | some ei => if 0 ≤ n ∧ n ≤ m ∧ Nat.ble m.toNat 1099511627776 = true ∧ ei.bytes ≤ 256 ∧ ei.size ≠ 0 then
     .new (o8 ei n.toNat) (fun d => .val (.one (.own d ei.size 0 n.toNat))) else .stuck
   | none => .stuck
  | _ => .stuck
 | _, _, _ => .stuck
def xh : SV → Option ByteArray
 | .val (.one (.d (.lit (.string s)))) => some s
 | _ => none
def cR (T : Tab) (t : TypeId) (x : SV) (l h : Int) : Eff :=
 match T t with
 | some ti => match ti.und with
  | .string => match xh x with
   | some s => if 0 ≤ l ∧ l ≤ h ∧ h ≤ s.size then bw (.string (s.extract l.toNat h.toNat)) else .stuck
   | none => .stuck
  | .slice e => match T e with
   | some ei => match eW x with
    | some n => if 0 ≤ l ∧ l ≤ h ∧ h ≤ n then
      if l = h then .set (.val (.one (.d (.sl [])))) else match x with
      | .val (.one (.own id sz off _)) => if sz = ei.size then .set (.val (.one (.own id sz (off + l.toNat) (h - l).toNat))) else .stuck
      | .val (.one (.d (.sl es))) => if es.all (fun e => e.length == ei.size) then .set (.val (.one (.d (.sl ((es.take h.toNat).drop l.toNat))))) else .stuck
      | _ => .stuck else .stuck
    | none => .stuck
   | none => .stuck
  | _ => .stuck
 | none => .stuck
def loI (f : Operand → SV) : Option Operand → Option Int
 | none => some 0
 | some o => (de (f o)).map (·.2)
def hiI (f : Operand → SV) (x : SV) : Option Operand → Option Int
 | none => (eW x).map fun n => (n : Int)
 | some o => (de (f o)).map (·.2)
def eY (T : Tab) (st : St) (t : TypeId) (x : SV) (lo hi : Option Operand) : Eff :=
 match loI (opd st) lo, hiI (opd st) x hi with
 | some l, some h => cR T t x l h
 | _, _ => .stuck
def eX (st : St) : SV → Option (List (List DC))
 | .val (.one (.d (.sl es))) => some es
 | .val (.one .nil) => some []
 | .val (.one (.own id sz off len)) => match st.σ id with
  | some (.arr sz' es) => if sz' = sz ∧ off + len ≤ es.length then some ((es.drop off).take len) else none
  | _ => none
 | _ => none
def bq (T : Tab) (st : St) (t t2 : TypeId) (s x : SV) : Eff :=
 match T t, T t2 with
 | some ti, some ti2 => match ti.und, ti2.und with
  | .slice e, .slice _ => match T e, eX st x with
   | some ei, some new => if ei.size ≠ 0 ∧ ei.bytes ≤ 256 ∧ new.all (fun e => e.length == ei.size) then match s with
    | .val (.one .nil) => if 0 < new.length ∧ new.length ≤ 2 ^ 36 then .app none ei.size new else .stuck
    | .val (.one (.own id sz 0 len)) => match st.σ id with
     | some (.arr sz' es) => if sz = ei.size ∧ sz' = sz ∧ len = es.length ∧ len + new.length ≤ 2 ^ 36 then .app (some id) sz (es ++ new) else .stuck
     | _ => .stuck
    | _ => .stuck else .stuck
   | _, _ => .stuck
  | _, _ => .stuck
 | _, _ => .stuck
def sZ (max : Bool) (x y : SV) : Eff :=
 match de x, de y with
 | some (k, a), some (k', b) => if k = k' then bw (.int k (if max then (if b > a then b else a) else (if b < a then b else a))) else .stuck
 | _, _ => .stuck
def gh (st : St) : SC → Option DC
 | .d c => some c
 | .nil => some (.sl [])
 | .own id sz off len => match st.σ id with
  | some (.arr sz' es) => if sz' = sz ∧ off + len ≤ es.length then some (.sl ((es.drop off).take len)) else none
  | _ => none
 | .bad => none
def cu (st : St) : List SC → Option (List SC)
 | [] => some []
 | c :: cs => match gh st c, cu st cs with
  | some d, some ds => some (.d d :: ds)
  | _, _ => none
def iV (st : St) : SV → Option SV
 | .val (.one c) => match gh st c with
  | some d => some (.val (.one (.d d)))
  | none => none
 | .val (.agg cs) => match cu st cs with
  | some ds => some (.val (.agg ds))
  | none => none
 | .pd cs => some (.pd cs)
 | _ => none
def dg (st : St) : List SV → Option (List SV)
 | [] => some []
 | x :: xs => match iV st x, dg st xs with
  | some y, some ys => some (y :: ys)
  | _, _ => none
def x9 (st : St) (id : Nat) : Option (List DC) :=
 match st.σ id with
 | some (.box cs) => match cu st cs with
  | some ds => gY ds
  | none => none
 | _ => none
def kx (T : Tab) (st : St) (x : SV) (xs : List SV) : Eff :=
 match x with
 | .clo f id => match dg st xs, x9 st id with
  | some ys, some ds => match T.clo f (ys ++ [.pd ds]) with
   | some v => .set v
   | none => .stuck
  | _, _ => .stuck
 | _ => .stuck
def gO (T : Tab) (t : TypeId) (x i : SV) : Eff :=
 match T t, dx x, de i with
 | some ti, some (.string s), some (_, n) => match ti.und with
  | .string => if 0 ≤ n then match s[n.toNat]? with
   | some b => bw (.int .u8 b.toNat)
   | none => .stuck else .stuck
  | _ => .stuck
 | _, _, _ => .stuck
def dV (f : FuncId) (captured : List SV) : Eff :=
 match captured with
 | [.ptr id 0] => .set (.clo f id)
 | _ => .stuck
def C0 : SV → Bool
 | .ptr _ _ | .pe _ _ _ _ | .pd _ => true
 | _ => false

def bj (T : Tab) (st : St) (callee : Callee) (xs : List SV) (ts : List TypeId) : Eff :=
 match callee, xs, ts with
 | .builtin .len, [x], [t] => mB T t x
 | .builtin .append, [s, x], [t, t2] => bq T st t t2 s x
 | .builtin .max, [x, y], _ => sZ true x y
 | .builtin .min, [x, y], _ => sZ false x y
 | .value (.func f), xs, _ => .call f xs
 | .value (.tmp t), xs, _ => kx T st (st.get t) xs
 | _, _, _ => .stuck

def eff (T : Tab) (st : St) (o : Oper) : Eff :=
 match o.op with
 | .move x | .assign x => .set (opd st x)
 | .pick c a b => jN (opd st c) (opd st a) (opd st b)
 | .box _ x => match opd st x with
  | .val v => .new (.box (cellsOf v)) (fun d => .ptr d 0)
  | _ => .stuck
 | .alloc e => match T e with
  | some ti => .new (.box ti.zero) (fun d => .ptr d 0)
  | none => .stuck
 | .build t parts => jt T t (parts.toList.map fun p => (p.1, opd st p.2))
 | .buildSlice t len parts => if T.dat t then cz T t len (parts.toList.map fun p => (p.1, opd st p.2)) else br T t len (parts.toList.map fun p => (p.1, opd st p.2))
 | .load t x => bC T st t (opd st x)
 | .store t x y => bP T st t (opd st x) (opd st y)
 | .nilCheck x => if C0 (opd st x) then .set (opd st x) else .stuck
 | .binOp op t x y _ => a6 T op t (opd st x) (opd st y)
 | .unOp op _ x => rl op (opd st x)
 | .convert src dst x => iU T src dst (opd st x)
 | .makeSlice t l c => bh T t (opd st l) (opd st c)
 | .slice t x lo hi none => eY T st t (opd st x) lo hi
 | .fieldAddr s x f => dp T s (opd st x) f
 | .field s x f => jr T s (opd st x) f
 | .indexAddr t x i => bi T t (opd st x) (opd st i)
 | .index t x i => gO T t (opd st x) (opd st i)
 | .makeFunc (.func f) first captured => if first.isEmpty then dV f (captured.toList.map (opd st)) else .stuck
 | .extract x i => gz (opd st x) i
 | .call c => bj T st c.callee (c.args.toList.map (opd st)) c.argTypes.toList
 | _ => .stuck

end Go.Proofs.YtfichkokppbipaaGreatDoor

/- Operations that only yield a value: what they yield in the model is what the abstract state says. No condition. -/
namespace Go.Proofs.YtfichkokppbipaaGreatDoor

section
variable {P : Program} {T : Tab} {w : World} {X : Nat → Prop} {μ : Nat → Nat}

theorem tK {v : Value} (h : v.oneCell' = true) : RelC w X μ v (p4 v) := by
 unfold p4
 split
 ·rfl
 ·exact RdC.lit rfl
 ·exact RdC.lit rfl
 ·exact RdC.lit rfl
 ·exact h

theorem wn (v : Value) : RelV w X μ v (rJ v) := by
 unfold rJ
 split
 ·rfl
 ·exact RdC.lit rfl
 ·exact RdC.lit rfl
 ·exact RdC.lit rfl
 ·rename_i cs
  split
  ·rename_i hall
   refine ⟨cs.toList, by simp, by simp, fun i c hc => ?_⟩;rw [List.getElem?_map] at hc
   cases hv : cs.toList[i]? with
   | none => rw [hv] at hc; cases hc
   | some v =>
    rw [hv] at hc; simp at hc; subst hc;exact ⟨v, rfl, tK (List.all_eq_true.1 hall v (List.mem_of_getElem? hv))⟩
  ·trivial
 ·trivial

theorem kl {w0 : World} {a : Act} {st : St} (hs : Sim w0 X μ a w st) (x : Operand) : RelV w (Mut X μ st.σ) μ (a.eval x) (opd st x) := by
 cases x with
 | tmp t => exact hs.slots t
 | const v => exact wn v
 | global g => trivial
 | func f => trivial

theorem jI {v : Value} {x : SV} {u : Value} (h : RelV w X μ v x) (hl : dx x = some u) : v = u := by
 unfold dx at hl
 split at hl
 ·cases hl; cases h; rfl
 ·cases hl

theorem ii {v : Value} {x : SV} {k : IntKind} {n : Int} (h : RelV w X μ v x) (hl : de x = some (k, n)) : v = .int k n := by
 unfold de at hl
 split at hl
 ·cases hl; cases h; rfl
 ·cases hl

theorem eT {v : Value} (h : yr v = true) : RelV w X μ v (.val (.one (.d (.lit v)))) := RdC.lit h

/-! #### Arithmetic -/
theorem yX {op : BinOp} {x y v : Value} (h : ge op x y = some v) : yr v = true := by
 unfold ge at h
 split at h <;> first
  | (cases h; done)
  | (cases h; rfl)
  | (split at h <;> first | (cases h; done) | (cases h; rfl) | (split at h <;> first | (cases h; done) | (cases h; rfl)))

theorem A5 {op : BinOp} {x y v : Value} (h : ge op x y = some v) (t : TypeId) (ox oy : Operand) :
  ((do eqGuard op t ox oy x y; binOp op t x y) : Sem Value).run P w = .ok v w := by
 unfold ge at h
 split at h <;> first
  | (cases h; done)
  | (cases h; simp [eqGuard, binOp, Op.stringOp]; done)
  | (split at h <;> first
    | (cases h; done)
    | (rename_i hk; subst hk; split at h <;> first
      | (cases h; done)
      | (rename_i hb; cases h; simp [eqGuard, binOp, Op.intDiv, hb]))
    | (rename_i hk; subst hk; cases h; simp [eqGuard, binOp, Op.intArith, Op.intBits, Op.intCmp])
    | (rename_i hb; cases h; simp [eqGuard, binOp, Op.shift, hb]; done)
    | (rename_i hb; cases h; simp [eqGuard, binOp, Op.stringOp, IntKind.max, IntKind.signed, IntKind.bits]; omega))

theorem zk {op : UnOp} {x v : Value} (h : unA op x = some v) : yr v = true := by
 unfold unA at h
 split at h <;> first | (cases h; done) | (cases h; rfl)

theorem Bp {op : UnOp} {x v : Value} (h : unA op x = some v) : (Op.unary op x).run P w = .ok v w := by
 unfold unA at h
 split at h <;> first | (cases h; done) | (cases h; simp [Op.unary, Op.intArith, Op.intBits])

def Yv (P : Program) (w : World) (X : Nat → Prop) (μ : Nat → Nat) (s : Sem Value) (v : SV) : Prop := ∃ u, s.run P w = .ok u w ∧ RelV w X μ u v

theorem rh (hT : TOK P T) {t : TypeId} (h : jJ T t = true) (p q : Bool) : (Op.equal t (.bool p) (.bool q)).run P w = .ok (p == q) w := by
 unfold jJ at h
 split at h
 ·rename_i ti hti
  split at h
  ·rename_i hu
   have := (hT.ty _ _ hti).run_bool w hu
   have e : Op.maxDepth = 9999 + 1 := rfl
   unfold Op.equal
   rw [e, Op.equalIn];simp only [Sem.run_bind, this, Result.andThen_ok]
   rfl
  ·cases h
 ·cases h

theorem sP {vs : List Value} {cs : List SC} {a : List Int} (hr : RelL w X μ vs cs) (h : sQ cs = some a) : vs = a.map (Value.int .i64) := by
 induction cs generalizing vs a with
 | nil =>
  simp only [sQ, Option.some.injEq] at h; subst h;exact List.length_eq_zero_iff.1 hr.1
 | cons c cs ih =>
  match vs, hr with
  | [], hr => have := hr.1; simp at this
  | v :: vs, hr =>
   have hr' : RelL w X μ vs cs := ⟨by simpa using hr.1, fun i c hc => by have := hr.2 (i + 1) c (by simpa using hc); simpa using this⟩
   obtain ⟨u, hu, hcu⟩ := hr.2 0 c rfl
   simp at hu; subst hu
   unfold sQ at h
   split at h
   ·cases ‹_ :: _ = []›
   ·rename_i n cs' heq
    cases heq
    split at h
    ·rename_i l hl
     cases h
     have e : v = .int .i64 n := by
      have hcu : RdC w X v (.lit (.int .i64 n)) := hcu
      cases hcu; rfl
     rw [ih hr' hl, e]; rfl
    ·cases h
   ·cases h
theorem vO (hT : TOK P T) {op : BinOp} {t : TypeId} {ox oy : Operand} {vx vy : Value} {x y v : SV} (hx : RelV w X μ vx x) (hy : RelV w X μ vy y) (h : xV T op t x y = .set v) :
  Yv P w X μ (do eqGuard op t ox oy vx vy; binOp op t vx vy) v := by
 unfold xV at h
 split at h
 ·rename_i n cs ds hn
  split at h
  ·rename_i a b ha hb
   split at h
   ·rename_i hl
    obtain ⟨us, rfl, hu⟩ := hx
    obtain ⟨vs, rfl, hv⟩ := hy
    have := hT.eqs _ _ hn w ox oy a b hl.1 hl.2
    rw [sP hu ha, sP hv hb]
    split at h
    ·cases h; exact ⟨_, this.1, eT rfl⟩
    ·cases h; exact ⟨_, this.2, eT rfl⟩
    ·cases h
   ·cases h
  ·cases h
 ·cases h

theorem uo (hT : TOK P T) {op : BinOp} {t : TypeId} {ox oy : Operand} {vx vy : Value} {x y v : SV} (hx : RelV w X μ vx x) (hy : RelV w X μ vy y) (h : a6 T op t x y = .set v) :
  Yv P w X μ (do eqGuard op t ox oy vx vy; binOp op t vx vy) v := by
 unfold a6 at h
 split at h
 ·rename_i a b ha hb
  have e1 := jI hx ha
  have e2 := jI hy hb
  subst e1; subst e2
  split at h
  ·rename_i u hu
   cases h
   exact ⟨u, A5 hu t ox oy, eT (yX hu)⟩
  ·split at h
   ·split at h
    ·rename_i p q _ hb
     cases h
     refine ⟨_, ?_, eT rfl⟩
     have := rh (w := w) hT hb p q
     simp [eqGuard, binOp, this]
    ·cases h
   ·split at h
    ·rename_i p q _ hb
     cases h
     refine ⟨_, ?_, eT rfl⟩
     have := rh (w := w) hT hb p q
     simp [eqGuard, binOp, this]
    ·cases h
   ·cases h
 ·exact vO hT hx hy h

theorem vN {op : UnOp} {vx : Value} {x v : SV} (hx : RelV w X μ vx x) (h : rl op x = .set v) : Yv P w X μ (Op.unary op vx) v := by
 unfold rl at h
 split at h
 ·rename_i a ha
  have e1 := jI hx ha
  subst e1
  split at h
  ·rename_i u hu; cases h; exact ⟨u, Bp hu, eT (zk hu)⟩
  ·cases h
 ·cases h

theorem rX {vc va vb : Value} {c a b v : SV} (hc : RelV w X μ vc c) (ha : RelV w X μ va a) (hb : RelV w X μ vb b) (h : jN c a b = .set v) :
  Yv P w X μ (do pure (if ← asBool vc then va else vb)) v := by
 unfold jN at h
 split at h
 ·rename_i t ht
  have e1 := jI hc ht
  subst e1
  cases h
  refine ⟨if t then va else vb, by simp [asBool], ?_⟩
  cases t
  ·exact hb
  ·exact ha
 ·cases h

theorem rY (hT : TOK P T) {src dst : TypeId} {vx : Value} {x v : SV} (hx : RelV w X μ vx x) (h : iU T src dst x = .set v) : Yv P w X μ (convert src dst vx) v := by
 unfold iU at h
 split at h
 ·rename_i ts td k n hs hd hi
  have e1 := ii hx hi
  subst e1
  split at h
  ·rename_i k' hk
   cases h
   obtain ⟨us, hus, _, _⟩ := (hT.ty _ _ hs).run_und w
   have hud := (hT.ty _ _ hd).run_int w hk
   refine ⟨_, ?_, eT rfl⟩;simp only [convert, Sem.run_bind, hus, hud, Result.andThen_ok]
   cases us <;> rfl
  ·cases h
 ·cases h

theorem oS {vx : Value} {x v : SV} {i : Nat} (hx : RelV w X μ vx x) (h : gz x i = .set v) : Yv P w X μ (Instr.extract vx i) v := by
 unfold gz at h
 split at h
 ·rename_i xs
  split at h
  ·rename_i v' hv
   cases h
   obtain ⟨vs, rfl, _, h3⟩ := hx
   obtain ⟨u, hu, hr⟩ := h3 i v' hv
   exact ⟨u, by simp [Instr.extract, hu], hr⟩
  ·cases h
 ·cases h

theorem un (hT : TOK P T) {t t' : TypeId} {tys : Array TypeId} {vx : Value} {x v : SV} (ht : tys[0]? = some t) (hx : RelV w X μ vx x) (h : mB T t x = .set v) :
  Yv P w X μ (Builtin.len_ tys t' #[vx]) v := by
 unfold mB at h
 split at h
 ·rename_i ti hti
  split at h
  ·rename_i e he
   split at h
   ·rename_i n hn
    cases h
    have hu := (hT.ty _ _ hti).run_slice w he
    have hv : ∃ a c, vx = .slice a n c := by
     unfold eW at hn
     split at hn
     ·cases hn; obtain ⟨cap, cs, E, fr, rfl, _⟩ := hx; exact ⟨_, _, rfl⟩
     ·cases hn
      cases hx with
      | nil => exact ⟨_, _, rfl⟩
      | sl vs hh hxx hl => subst hl; exact ⟨_, _, rfl⟩
     ·cases hn; cases hx; exact ⟨_, _, rfl⟩
     ·cases hn
    obtain ⟨a, c, rfl⟩ := hv
    refine ⟨_, ?_, eT rfl⟩;simp only [Builtin.len_, ht, List.getElem?_toArray, List.getElem?_cons_zero, Sem.run_bind, hu, Result.andThen_ok]
    rfl
   ·cases h
  ·cases h
 ·cases h

theorem pz {m : Bool} {vx vy : Value} {x y v : SV} {tys : Array TypeId} {t : TypeId} (hx : RelV w X μ vx x) (hy : RelV w X μ vy y) (h : sZ m x y = .set v) :
  Yv P w X μ (if m then Builtin.max_ tys t #[vx, vy] else Builtin.min_ tys t #[vx, vy]) v := by
 unfold sZ at h
 split at h
 ·rename_i k a k' b ha hb
  have e1 := ii hx ha
  have e2 := ii hy hb
  subst e1; subst e2
  split at h
  ·rename_i hk; subst hk
   cases h
   refine ⟨_, ?_, eT rfl⟩
   cases m <;> rfl
  ·cases h
 ·cases h

/-! #### Memory -/
theorem kr {agg : Bool} {vs : List Value} {cs : List SC} {v : VV} (h : vq agg cs = some v) (hr : RelL w X μ vs cs) (one : agg = false → cs.length = 1) :
  RelVV w X μ (mkV agg vs) v := by
 unfold vq at h
 cases agg with
 | true => cases h; exact ⟨vs, rfl, hr⟩
 | false =>
  have h1 := one rfl
  match cs, h1 with
  | [c], _ =>
   simp at h; subst h
   have hl := hr.1
   match vs, hl with
   | [u], _ =>
    obtain ⟨u', hu, hc⟩ := hr.2 0 c rfl
    simp at hu; subst hu
    exact hc

theorem iN {t : TypeId} {ti : TI} (ht : TF P t ti) {b off : Nat} {cs : Array Value} {E : TypeId} {fr : Nat × Nat} (hh : w.heap[b]? = some (.cells cs E fr)) (hle : off + ti.size ≤ cs.size) :
  (loadVar t ⟨b, off, none⟩).run P w = .ok (mkV ti.agg (cs.extract off (off + ti.size)).toList) w := by
 unfold loadVar
 simp only [Sem.run_bind, ht.run_isAgg, Result.andThen_ok]
 cases ha : ti.agg with
 | true =>
  simp only [if_true, Sem.run_bind, ht.run_sizeOf, Result.andThen_ok, dy hh off ti.size hle, Sem.run_pure, mkV, Array.toArray_toList]
 | false =>
  have h1 := ht.one ha
  rw [h1] at hle ⊢
  have hlt : off < cs.size := by omega
  simp [jR hh, hlt, mkV]
  rw [List.drop_eq_getElem_cons (by simpa using hlt)]
  simp

theorem eU {cs : Array Value} {off n : Nat} {l : List SC} (hle : off + n ≤ cs.size) (hl : l.length = n)
  (h : ∀ (i : Nat) (c : SC), l[i]? = some c → ∃ x, cs[off + i]? = some x ∧ RelC w X μ x c) : RelL w X μ (cs.extract off (off + n)).toList l := by
 refine ⟨by simp; omega, fun i c hc => ?_⟩
 obtain ⟨x, hx, hr⟩ := h i c hc
 refine ⟨x, ?_, hr⟩
 have hi : i < n := by
  rcases Nat.lt_or_ge i n with h' | h'
  ·exact h'
  ·rw [List.getElem?_eq_none (by omega)] at hc; cases hc
 rw [Array.getElem?_toList, Array.getElem?_extract];rw [if_pos (by omega)];exact hx

theorem lW {w0 : World} {a : Act} {st : St} (hT : TOK P T) (hs : Sim w0 X μ a w st) {t : TypeId} {vx : Value} {x v : SV}
  (hx : RelV w (Mut X μ st.σ) μ vx x) (h : bC T st t x = .set v) : Yv P w (Mut X μ st.σ) μ (Instr.loadAt t vx) v := by
 unfold bC at h
 split at h
 ·cases h
 ·rename_i ti hti
  have ht := hT.ty _ _ hti
  split at h
  ·rename_i id off
   have hx' : vx = .pointer (some ⟨μ id, off, none⟩) := hx
   subst hx'
   split at h
   ·rename_i cs hcs
    split at h
    ·rename_i hle
     split at h
     ·rename_i u hu
      cases h
      obtain ⟨_, cells, E, hh, hsz, hrel⟩ := hs.objs _ _ hcs
      refine ⟨_, ?_, kr hu (vs := (cells.extract off (off + ti.size)).toList) (eU (by omega) (by simp; omega) ?_) ?_⟩
      ·simp only [Instr.loadAt, Instr.sureAddr, Sem.run_bind, Sem.run_pure, Result.andThen_ok, iN ht hh (show off + ti.size ≤ cells.size by omega)]
      ·intro i c hc
       rw [List.getElem?_take] at hc
       split at hc
       ·rw [List.getElem?_drop] at hc; exact hrel _ _ hc
       ·cases hc
      ·intro ha; have := ht.one ha; simp; omega
     ·cases h
    ·cases h
   ·cases h
  ·rename_i id sz i j
   have hx' : vx = .pointer (some ⟨μ id, i * sz + j, none⟩) := hx
   subst hx'
   split at h
   ·rename_i sz' es hes
    split at h
    ·rename_i hsz; subst hsz
     split at h
     ·rename_i e he
      split at h
      ·rename_i hle
       split at h
       ·rename_i u hu
        cases h
        obtain ⟨_, cells, E, hh, hsz, hlen, hrel⟩ := hs.objs _ _ hes
        have hel := hlen _ _ he
        have hi : i < es.length := (List.getElem?_eq_some_iff.1 he).1
        have hmul : i * sz' + sz' ≤ es.length * sz' := by rw [← Nat.succ_mul]; exact Nat.mul_le_mul_right _ hi
        refine ⟨_, ?_, kr hu (vs := (cells.extract (i * sz' + j) (i * sz' + j + ti.size)).toList) (eU (by omega) (by simp; omega) ?_) ?_⟩
        ·simp only [Instr.loadAt, Instr.sureAddr, Sem.run_bind, Sem.run_pure, Result.andThen_ok, iN ht hh (show i * sz' + j + ti.size ≤ cells.size by omega)]
        ·intro k c hc
         rw [List.getElem?_map] at hc
         cases hd : ((e.drop j).take ti.size)[k]? with
         | none => rw [hd] at hc; cases hc
         | some d =>
          rw [hd] at hc; simp at hc; subst hc;rw [List.getElem?_take] at hd
          split at hd
          ·rw [List.getElem?_drop] at hd
           obtain ⟨x, hx1, hx2⟩ := hrel i (j + k) d (by simp [at2, he, hd])
           exact ⟨x, by rw [← hx1]; congr 1; omega, hx2⟩
          ·cases hd
        ·intro ha; have := ht.one ha; simp; omega
       ·cases h
      ·cases h
     ·cases h
    ·cases h
   ·rename_i cs hcs
    split at h
    ·rename_i hle
     split at h
     ·rename_i u hu
      cases h
      obtain ⟨_, cells, E, hh, hsz, hrel⟩ := hs.objs _ _ hcs
      refine ⟨_, ?_, kr hu (vs := (cells.extract (i * sz + j) (i * sz + j + ti.size)).toList) (eU (by omega) (by simp; omega) ?_) ?_⟩
      ·simp only [Instr.loadAt, Instr.sureAddr, Sem.run_bind, Sem.run_pure, Result.andThen_ok, iN ht hh (show i * sz + j + ti.size ≤ cells.size by omega)]
      ·intro i c hc
       rw [List.getElem?_take] at hc
       split at hc
       ·rw [List.getElem?_drop] at hc; exact hrel _ _ hc
       ·cases hc
      ·intro ha; have := ht.one ha; simp; omega
     ·cases h
    ·cases h
   ·cases h
  ·rename_i cs
   obtain ⟨b, off, cells, E, fr, hv, hh, _, hrel⟩ := hx
   subst hv
   split at h
   ·rename_i hle
    split at h
    ·rename_i u hu
     cases h
     have hsz : off + ti.size ≤ cells.size := by
      have : ti.size - 1 < cs.length := by omega
      obtain ⟨x, hx1, _⟩ := hrel (ti.size - 1) _ (List.getElem?_eq_getElem this)
      have := (Array.getElem?_eq_some_iff.1 hx1).1
      omega
     refine ⟨_, ?_, kr hu (vs := (cells.extract off (off + ti.size)).toList) (eU hsz (by simp; omega) ?_) ?_⟩
     ·simp only [Instr.loadAt, Instr.sureAddr, Sem.run_bind, Sem.run_pure, Result.andThen_ok, iN ht hh hsz]
     ·intro k c hc
      rw [List.getElem?_map] at hc
      cases hd : (cs.take ti.size)[k]? with
      | none => rw [hd] at hc; cases hc
      | some d =>
       rw [hd] at hc; simp at hc; subst hc;rw [List.getElem?_take] at hd
       split at hd
       ·exact hrel _ _ hd
       ·cases hd
     ·intro ha; have := ht.one ha; simp; omega
    ·cases h
   ·cases h
  ·cases h

theorem mD (hT : TOK P T) {s : TypeId} {vx : Value} {x v : SV} {f : Nat} (hx : RelV w X μ vx x) (h : dp T s x f = .set v) :
  Yv P w X μ (Instr.fieldAt s vx f) v := by
 unfold dp at h
 split at h
 ·rename_i si hsi
  split at h
  ·rename_i fs hfs
   split at h
   ·rename_i off t hf
    split at h
    ·rename_i ti hti
     split at h
     ·cases h
     ·rename_i hne
      obtain ⟨fields, hu, hfl⟩ := (hT.ty _ _ hsi).run_struct w hfs
      rw [← hfl, List.getElem?_map] at hf
      cases hfi : fields.toList[f]? with
      | none => rw [hfi] at hf; cases hf
      | some fd =>
       rw [hfi] at hf;simp only [Option.map_some, Option.some.injEq, Prod.mk.injEq] at hf;rw [Array.getElem?_toList] at hfi
       have hsize := (hT.ty _ _ hti).run_sizeOf w
       have go : ∀ b o, (Instr.fieldAt s (.pointer (some ⟨b, o, none⟩)) f).run P w = .ok (.pointer (some ⟨b, o + off, none⟩)) w := by
        intro b o
        simp only [Instr.fieldAt, Sem.run_bind, hu, Result.andThen_ok, hfi, Instr.sureAddr, Sem.run_pure, fieldPlace, hf.1, hf.2, hsize, if_neg hne, ga]
       split at h
       ·cases h; cases hx; exact ⟨_, go _ _, rfl⟩
       ·cases h; cases hx; exact ⟨_, go _ _, by show _ = _; rw [Nat.add_assoc]⟩
       ·rename_i cs
        cases h
        obtain ⟨b, o, cells, E, fr, rfl, hh, hX, hrel⟩ := hx
        refine ⟨_, go _ _, b, o + off, cells, E, fr, rfl, hh, hX, fun j d hd => ?_⟩;rw [List.getElem?_drop] at hd
        obtain ⟨x, h1, h2⟩ := hrel _ _ hd
        exact ⟨x, by rw [← h1]; congr 1; omega, h2⟩
       ·cases h
    ·cases h
   ·cases h
  ·cases h
 ·cases h

theorem zC {t : TypeId} {ti : TI} (ht : TF P t ti) (cs : Array Value) {off : Nat} (hle : off + ti.size ≤ cs.size) :
  (part t cs off).run P w = .ok (mkV ti.agg (cs.extract off (off + ti.size)).toList) w := by
 unfold part
 simp only [Sem.run_bind, ht.run_isAgg, Result.andThen_ok]
 cases ha : ti.agg with
 | true => simp only [if_true, Sem.run_bind, ht.run_sizeOf, Result.andThen_ok, Sem.run_pure, mkV, Array.toArray_toList]
 | false =>
  have h1 := ht.one ha
  rw [h1] at hle ⊢
  have hlt : off < cs.size := by omega
  simp [hlt, mkV]
  rw [List.drop_eq_getElem_cons (by simpa using hlt)]
  simp

theorem rp (hT : TOK P T) {s : TypeId} {vx : Value} {x v : SV} {f : Nat} (hx : RelV w X μ vx x) (h : jr T s x f = .set v) :
  Yv P w X μ (Instr.field s vx f) v := by
 unfold jr at h
 split at h
 ·rename_i si cs hsi
  split at h
  ·rename_i fs hfs
   split at h
   ·rename_i off t hf
    split at h
    ·rename_i ti hti
     split at h
     ·rename_i hle
      split at h
      ·rename_i u hu
       cases h
       obtain ⟨fields, hun, hfl⟩ := (hT.ty _ _ hsi).run_struct w hfs
       rw [← hfl, List.getElem?_map] at hf
       cases hfi : fields.toList[f]? with
       | none => rw [hfi] at hf; cases hf
       | some fd =>
        rw [hfi] at hf;simp only [Option.map_some, Option.some.injEq, Prod.mk.injEq] at hf;rw [Array.getElem?_toList] at hfi
        obtain ⟨vs, rfl, hl, hrel⟩ := hx
        have ht := hT.ty _ _ hti
        refine ⟨_, ?_, kr hu (vs := (vs.toArray.extract off (off + ti.size)).toList) (eU (by simp; omega) (by simp; omega) ?_) ?_⟩
        ·simp only [Instr.field, Sem.run_bind, hun, Result.andThen_ok, hfi, asAgg, Sem.run_pure, hf.1, hf.2];exact zC ht _ (by simp; omega)
        ·intro i c hc
         rw [List.getElem?_take] at hc
         split at hc
         ·rw [List.getElem?_drop] at hc
          obtain ⟨x, h1, h2⟩ := hrel _ _ hc
          exact ⟨x, by simpa using h1, h2⟩
         ·cases hc
        ·intro ha; have := ht.one ha; simp; omega
      ·cases h
     ·cases h
    ·cases h
   ·cases h
  ·cases h
 ·cases h

theorem ro (hT : TOK P T) {t : TypeId} {vx vi : Value} {x i v : SV} (hx : RelV w X μ vx x) (hi : RelV w X μ vi i) (h : gO T t x i = .set v) :
  Yv P w X μ (Instr.index t vx vi) v := by
 unfold gO at h
 split at h
 ·rename_i ti s k n hti hs hn
  have e1 := ii hi hn
  have e2 := jI hx hs
  subst e1 e2
  have ht := hT.ty _ _ hti
  split at h
  ·rename_i hu
   split at h
   ·rename_i h0
    split at h
    ·rename_i b hb
     cases h
     refine ⟨.int .u8 b.toNat, ?_, .lit rfl⟩;simp only [Instr.index, asIntOf, Sem.run_bind, Sem.run_pure, Result.andThen_ok, ht.run_string w hu, if_pos h0, hb]
    ·cases h
   ·cases h
  ·cases h
 ·cases h
theorem nJ {f : FuncId} {vs : List Value} {xs : List SV} {v : SV} (hl : vs.length = xs.length) (hx : ∀ (i : Nat) (x : SV), xs[i]? = some x → ∃ u, vs[i]? = some u ∧ RelV w X μ u x) (h : dV f xs = .set v) :
  Yv P w X μ (Instr.makeFunc (.func f) #[] vs.toArray) v := by
 unfold dV at h
 split at h
 ·rename_i id
  cases h
  obtain ⟨u, h1, h2⟩ := hx 0 _ rfl
  match vs, hl with
  | [u'], _ =>
   simp at h1; subst h1
   exact ⟨_, rfl, by show _ = _; rw [show u' = _ from h2]⟩
 ·cases h
theorem mC (hT : TOK P T) {t : TypeId} {vx vi : Value} {x i v : SV} (hx : RelV w X μ vx x) (hi : RelV w X μ vi i) (h : bi T t x i = .set v) :
  Yv P w X μ (Instr.indexAt t vx vi) v := by
 unfold bi at h
 split at h
 ·rename_i ti k n hti hn
  have e1 := ii hi hn
  subst e1
  split at h
  ·rename_i e he
   split at h
   ·rename_i ei hei
    split at h
    ·rename_i h0
     have hu := (hT.ty _ _ hti).run_slice w he
     have hsz := (hT.ty _ _ hei).run_sizeOf w
     have go : ∀ b o len cap, n < (len : Nat) → (Instr.indexAt t (.slice (some ⟨b, o, none⟩) len cap) (.int k n)).run P w = .ok (.pointer (some ⟨b, o + n.toNat * ei.size, none⟩)) w := by
      intro b o len cap hlt
      simp only [Instr.indexAt, asIntOf, Sem.run_bind, Sem.run_pure, Result.andThen_ok, hu, if_pos (And.intro h0 hlt), hsz, ga]
     split at h
     ·rename_i id sz off len
      split at h
      ·rename_i hc
       cases h
       obtain ⟨cap, cs, E, fr, rfl, hle, hh, hcap⟩ := hx
       refine ⟨_, go _ _ _ _ hc.2, ?_⟩
       show _ = _
       rw [hc.1, Nat.add_mul]
       rfl
      ·cases h
     ·rename_i es
      split at h
      ·rename_i el hel
       split at h
       ·rename_i hsz'
        cases h
        cases hx with
        | nil => simp at hel
        | sl vs hh hX hl hcap hs hv hr =>
         rename_i b off len cap sz cs E fr
         have hlt := (List.getElem?_eq_some_iff.1 hel).1
         have hs' := hs _ _ hel
         refine ⟨_, go _ _ _ _ (by omega), b, off + n.toNat * ei.size, cs, E, fr, rfl, hh, hX, fun j d hd => ?_⟩
         have hat : at2 es n.toNat j = some d := by simp [at2, hel, hd]
         refine ⟨vs n.toNat j, ?_, hr _ _ _ hat⟩;rw [← hv _ _ _ hat, ← hs', hsz']
       ·cases h
      ·cases h
     ·cases h
    ·cases h
   ·cases h
  ·rename_i m e he
   split at h
   ·rename_i ei hei
    split at h
    ·rename_i h0
     have hu := (hT.ty _ _ hti).run_array w he
     have hsz := (hT.ty _ _ hei).run_sizeOf w
     split at h
     ·rename_i id o
      cases h
      cases hx
      refine ⟨.pointer (some ⟨μ id, o + n.toNat * ei.size, none⟩), ?_, rfl⟩;simp only [Instr.indexAt, asIntOf, Instr.sureAddr, Sem.run_bind, Sem.run_pure, Result.andThen_ok, hu, if_pos h0, hsz, ga]
     ·cases h
    ·cases h
   ·cases h
  ·cases h
 ·cases h

end
end Go.Proofs.YtfichkokppbipaaGreatDoor

/- Operations that build values, slices and new objects. No condition. -/
namespace Go.Proofs.YtfichkokppbipaaGreatDoor

section
variable {P : Program} {T : Tab} {w : World} {X : Nat → Prop} {μ : Nat → Nat}

theorem gI {α : Type} : ∀ (vs l : List α) (k : Nat), (jT l k vs).length = l.length
 | [], _, _ => rfl
 | v :: vs, l, k => by rw [jT, gI vs]; simp

theorem ir {α : Type} : ∀ (vs l : List α) (k m : Nat), k + vs.length ≤ l.length →
  (jT l k vs)[m]? = if k ≤ m ∧ m < k + vs.length then vs[m - k]? else l[m]?
 | [], l, k, m, _ => by rw [jT, if_neg (by simp)]
 | v :: vs, l, k, m, h => by
  simp only [List.length_cons] at h;rw [jT, ir vs _ _ _ (by simp; omega)];simp only [List.length_cons]
  by_cases hm : m = k
  ·subst hm
   rw [if_neg (by omega), if_pos (by omega)]
   have hlt : m < l.length := by omega
   simp [hlt]
  ·by_cases h1 : k + 1 ≤ m ∧ m < k + 1 + vs.length
   ·rw [if_pos h1, if_pos (by omega)]
    have : m - k = (m - (k + 1)) + 1 := by omega
    rw [this, List.getElem?_cons_succ]
   ·rw [if_neg h1, if_neg (by omega)];rw [List.getElem?_set_ne (Ne.symm hm)]

theorem gL {v : Value} {x : VV} (h : RelVV w X μ v x) : RelL w X μ v.cells.toList (cellsOf x) := by
 cases x with
 | one c =>
  have h1 := RelC.oneCell h
  have : v.cells = #[v] := by cases v <;> first | rfl | (simp [Value.oneCell'] at h1)
  rw [this];refine ⟨rfl, fun i c' hc => ?_⟩
  match i with
  | 0 => simp [cellsOf] at hc; subst hc; exact ⟨v, rfl, h⟩
  | i + 1 => simp [cellsOf] at hc
 | agg cs =>
  obtain ⟨vs, rfl, hr⟩ := h
  simpa [Value.cells, cellsOf] using hr

theorem u7 {vs : List Value} {cs : List SC} (h : RelL w X μ vs cs) : ∀ v ∈ vs, v.oneCell' = true := by
 intro v hv
 obtain ⟨i, hi⟩ := List.mem_iff_getElem?.1 hv
 have hlt := (List.getElem?_eq_some_iff.1 hi).1
 have hlt' : i < cs.length := by rw [← h.1]; exact hlt
 obtain ⟨u, hu, hr⟩ := h.2 i cs[i] (List.getElem?_eq_getElem hlt')
 rw [hi] at hu; cases hu;exact hr.oneCell

theorem sV (off : Nat) : ∀ (vs : List Value) (k : Nat) (cs : Array Value),
  (vs.zipIdx k).foldl (fun cs (x : Value × Nat) => cs.setIfInBounds (off + x.2) x.1) cs = spl cs (off + k) vs
 | [], _, _ => rfl
 | v :: vs, k, cs => by
  simp only [List.zipIdx_cons, List.foldl_cons];rw [sV off vs (k + 1)]
  rfl

theorem nG (cs : Array Value) (vs : Array Value) (off : Nat) :
  vs.zipIdx.foldl (fun cs (x : Value × Nat) => cs.setIfInBounds (off + x.2) x.1) cs = spl cs off vs.toList := by
 rw [← Array.foldl_toList, Array.toList_zipIdx];exact sV off vs.toList 0 cs

theorem zM {cs : Array Value} {l : List SC} {vs : List Value} {ls : List SC} {k : Nat} (h : RelL w X μ cs.toList l) (hv : RelL w X μ vs ls) (hk : k + ls.length ≤ l.length) :
  RelL w X μ (spl cs k vs).toList (jT l k ls) := by
 have hl := h.1
 rw [Array.length_toList] at hl;refine ⟨by rw [Array.length_toList, cb, gI, hl], fun i c hc => ?_⟩;rw [ir _ _ _ _ hk] at hc;rw [Array.getElem?_toList, iM _ _ _ _ (by rw [hv.1]; omega), hv.1]
 split at hc
 ·rename_i hi
  rw [if_pos hi];exact hv.2 _ _ hc
 ·rename_i hi
  rw [if_neg hi]
  obtain ⟨v, h1, h2⟩ := h.2 _ _ hc
  exact ⟨v, by simpa using h1, h2⟩

theorem kC {ti : TI} {t : TypeId} (ht : TF P t ti) : RelL w X μ (ti.zero.map gH) ti.zero := by
 refine ⟨by simp, fun i c hc => ⟨gH c, by rw [List.getElem?_map, hc]; rfl, ?_⟩⟩
 have := List.all_eq_true.1 ht.zok c (List.mem_of_getElem? hc)
 cases c with
 | d c => cases c with
  | lit v => exact RdC.lit this
  | sl es => simp at this
 | nil => rfl
 | own => simp at this
 | bad => simp at this

theorem ip {ti : TI} {t : TypeId} (ht : TF P t ti) : (mkV ti.agg (ti.zero.map gH)).cells.toList = ti.zero.map gH := by
 unfold mkV
 cases ha : ti.agg with
 | true => simp [Value.cells]
 | false =>
  have h1 := ht.one ha
  have h2 := ht.zsz
  match hz : ti.zero, h2 with
  | [c], _ =>
   have hr := (kC (w := default) (X := fun _ => False) (μ := id) ht)
   have := u7 hr (gH c) (by rw [hz]; simp)
   simp
   cases hv : gH c <;> first | rfl | (rw [hv] at this; simp [Value.oneCell'] at this)
  | [], h => rw [h1] at h; simp at h
  | _ :: _ :: _, h => rw [h1] at h; simp at h

/-! #### Structs -/
theorem rc (hT : TOK P T) {fields : Array Field} {fs : List (Nat × TypeId)} (hfl : fields.toList.map (fun f => (f.offset, f.type)) = fs)
  {places : Array (Nat × Nat)} (hp : ∀ (i off : Nat) (t : TypeId) (ti : TI), fs[i]? = some (off, t) → T t = some ti → places[i]? = some (off, ti.size)) :
  ∀ (parts : List (Nat × SV)) (ps : List (Nat × Value)) (cs : Array Value) (l l' : List SC), ps.length = parts.length →
   (∀ (k : Nat) (p : Nat × SV), parts[k]? = some p → ∃ u, ps[k]? = some (p.1, u) ∧ RelV w X μ u p.2) → RelL w X μ cs.toList l → sX T fs l parts = some l' →
   ∃ cs', Instr.fill (places[·]?) cs ps = some cs' ∧ RelL w X μ cs'.toList l'
 | [], ps, cs, l, l', hlen, _, hr, h => by
  have : ps = [] := by simpa using hlen
  subst this
  simp [sX] at h; subst h
  exact ⟨cs, rfl, hr⟩
 | (i, x) :: parts, ps, cs, l, l', hlen, hps, hr, h => by
  match ps, hlen with
  | p :: ps, hlen =>
   obtain ⟨u, hu, hru⟩ := hps 0 _ rfl
   simp at hu; subst hu
   cases x with
   | val v =>
    simp only [sX] at h
    split at h
    ·rename_i off t hf
     split at h
     ·rename_i ti hti
      split at h
      ·rename_i hc
       have hcells := gL hru
       have hpl := hp _ _ _ _ hf hti
       have hsz : u.cells.size = ti.size := by have := hcells.1; rw [Array.length_toList] at this; omega
       have hcs := hr.1
       rw [Array.length_toList] at hcs;simp only [Instr.fill, hpl];rw [if_neg (by simp [hsz]; omega), nG]
       exact rc hT hfl hp parts ps _ _ _ (by simpa using hlen) (fun k p hk => by
        have := hps (k + 1) p (by simpa using hk); simpa using this) (zM hr hcells (by omega)) h
      ·cases h
     ·cases h
    ·cases h
   | _ => simp [sX] at h

theorem qF (hT : TOK P T) : ∀ (fields : List Field), (∀ f ∈ fields, (T f.type).isSome) →
  ∃ ps : List (Nat × Nat), (fields.mapM (fun f => do pure (f.offset, ← sizeOf f.type)) : Sem (List (Nat × Nat))).run P w = .ok ps w ∧
   ∀ (i off : Nat) (t : TypeId) (ti : TI), (fields.map (fun f => (f.offset, f.type)))[i]? = some (off, t) → T t = some ti → ps[i]? = some (off, ti.size)
 | [], _ => ⟨[], rfl, fun i off t ti h => by simp at h⟩
 | f :: fields, h => by
  obtain ⟨ps, hps, hget⟩ := qF hT fields (fun g hg => h g (by simp [hg]))
  obtain ⟨ti, hti⟩ := Option.isSome_iff_exists.1 (h f (by simp))
  have hs := (hT.ty _ _ hti).run_sizeOf w
  refine ⟨(f.offset, ti.size) :: ps, ?_, ?_⟩
  ·simp only [List.mapM_cons, Sem.run_bind, hs, Result.andThen_ok, Sem.run_pure, hps]
  ·intro i off t ti' hi ht'
   match i with
   | 0 =>
    simp at hi
    obtain ⟨rfl, rfl⟩ := hi
    rw [hti] at ht'; cases ht'
    rfl
   | i + 1 => exact hget i off t ti' (by simpa using hi) ht'

theorem rq (hT : TOK P T) {t : TypeId} {parts : List (Nat × SV)} {ps : Array (Nat × Value)} {v : SV} (hlen : ps.toList.length = parts.length)
  (hps : ∀ (k : Nat) (p : Nat × SV), parts[k]? = some p → ∃ u, ps.toList[k]? = some (p.1, u) ∧ RelV w X μ u p.2) (h : jt T t parts = .set v) :
  Yv P w X μ (Instr.build t ps) v := by
 unfold jt at h
 split at h
 ·rename_i ti hti
  split at h
  ·rename_i fs hfs
   split at h
   ·rename_i hall
    split at h
    ·rename_i cs hcs
     cases h
     have ht := hT.ty _ _ hti
     obtain ⟨fields, hu, hfl⟩ := ht.run_struct w hfs
     have hall' : ∀ f ∈ fields.toList, (T f.type).isSome := by
      intro f hf
      have := List.all_eq_true.1 hall (f.offset, f.type) (by rw [← hfl]; exact List.mem_map.2 ⟨f, hf, rfl⟩)
      exact this
     obtain ⟨pl, hpl, hget⟩ := qF (w := w) hT fields.toList hall'
     rw [hfl] at hget
     obtain ⟨cs', hfill, hrel⟩ := rc (w := w) (X := X) (μ := μ) hT hfl (places := pl.toArray) (fun i off t ti h1 h2 => by simpa using hget i off t ti h1 h2)
      parts ps.toList (mkV ti.agg (ti.zero.map gH)).cells ti.zero cs hlen hps (by rw [ip ht]; exact kC ht) hcs
     refine ⟨.agg cs', ?_, cs'.toList, by simp, hrel⟩;simp only [Instr.build, Sem.run_bind, ht.run_zero, Result.andThen_ok, hu, Array.mapM_eq_mapM_toList, Sem.run_map, hpl, hfill, Sem.run_pure]
    ·cases h
   ·cases h
  ·cases h
 ·cases h

/-! #### Slices of slices -/
theorem dQ {k : IntKind} {n : Int} {y : Nat} {c : BoundsCode} (h : 0 ≤ n ∧ n ≤ y) : (Instr.sliceBound (.int k n) y c).run P w = .ok n.toNat w := by
 simp only [Instr.sliceBound, asIntOf, Sem.run_bind, Sem.run_pure, Result.andThen_ok, if_pos h]

theorem wH {vx : Value} {x : SV} {n : Nat} (hx : RelV w X μ vx x) (hn : eW x = some n) : ∃ a c, vx = .slice a n c ∧ n ≤ c := by
 unfold eW at hn
 split at hn
 ·cases hn; obtain ⟨cap, cs, E, fr, rfl, hle, _⟩ := hx; exact ⟨_, _, rfl, hle⟩
 ·cases hn
  cases hx with
  | nil => exact ⟨_, _, rfl, Nat.zero_le _⟩
  | sl vs hh hxx hl hc => subst hl; exact ⟨_, _, rfl, hc⟩
 ·cases hn; cases hx; exact ⟨_, _, rfl, Nat.le_refl _⟩
 ·cases hn

theorem pJ (hT : TOK P T) {t : TypeId} {vx : Value} {x v : SV} {l h : Int} {vlo vhi : Option Value} (hx : RelV w X μ vx x)
  (hlo : vlo = none ∧ l = 0 ∨ ∃ k, vlo = some (.int k l)) (hhi : (vhi = none ∧ ∃ n : Nat, eW x = some n ∧ h = n) ∨ ∃ k, vhi = some (.int k h))
  (he : cR T t x l h = .set v) : Yv P w X μ (Instr.sliceAt t vx vlo vhi none) v := by
 unfold cR at he
 split at he
 ·rename_i ti hti
  split at he
  ·rename_i hee
   split at he
   ·rename_i s hss
    split at he
    ·rename_i hb
     cases he
     have hxs : vx = .string s := by
      unfold xh at hss
      split at hss
      ·cases hss; cases hx; rfl
      ·cases hss
     subst hxs
     have hu := (hT.ty _ _ hti).run_string w hee
     rcases hhi with ⟨_, m, hm, _⟩ | ⟨k, rfl⟩
     ·exfalso
      unfold xh at hss
      split at hss
      ·cases hm
      ·cases hss
     ·have e1 := dQ (P := P) (w := w) (k := k) (n := h) (y := s.size) (c := .sliceAlen) ⟨by omega, by omega⟩
      refine ⟨_, ?_, RdC.lit rfl⟩
      rcases hlo with ⟨rfl, rfl⟩ | ⟨k', rfl⟩
      ·simp [Instr.sliceAt, Instr.slice, Sem.run_bind, hu, Result.andThen_ok, Instr.sliceBounds, e1]
      ·have e2 := dQ (P := P) (w := w) (k := k') (n := l) (y := h.toNat) (c := .sliceB) ⟨by omega, by omega⟩
       simp [Instr.sliceAt, Instr.slice, Sem.run_bind, hu, Result.andThen_ok, Instr.sliceBounds, e1, e2]
    ·cases he
   ·cases he
  ·rename_i e hee
   split at he
   ·rename_i ei hei
    split at he
    ·rename_i n hn
     split at he
     ·rename_i hb
      obtain ⟨a, c, rfl, hnc⟩ := wH hx hn
      have hu := (hT.ty _ _ hti).run_slice w hee
      have hsz := (hT.ty _ _ hei).run_sizeOf w
      have hbounds : (Instr.sliceBounds true n c vlo vhi none).run P w = .ok (l.toNat, h.toNat, c) w := by
       rcases hhi with ⟨rfl, m, hm, rfl⟩ | ⟨k, rfl⟩
       ·rw [hn] at hm; cases hm
        rcases hlo with ⟨rfl, rfl⟩ | ⟨k, rfl⟩
        ·simp [Instr.sliceBounds]
        ·simp [Instr.sliceBounds, dQ (P := P) (w := w) (k := k) (n := l) (y := n) (c := .sliceB) ⟨hb.1, hb.2.1⟩]
       ·have e1 := dQ (P := P) (w := w) (k := k) (n := h) (y := c) (c := .sliceAcap) ⟨by omega, by omega⟩
        rcases hlo with ⟨rfl, rfl⟩ | ⟨k', rfl⟩
        ·simp [Instr.sliceBounds, e1]
        ·simp [Instr.sliceBounds, e1, dQ (P := P) (w := w) (k := k') (n := l) (y := h.toNat) (c := .sliceB) ⟨by omega, by omega⟩]
      have hrun : (Instr.sliceAt t (.slice a n c) vlo vhi none).run P w = .ok (.slice (if c = l.toNat then a else a.map (·.add (l.toNat * ei.size))) (h.toNat - l.toNat) (c - l.toNat)) w := by
       simp only [Instr.sliceAt, Instr.slice, Sem.run_bind, hu, Result.andThen_ok, hbounds, hsz, Sem.run_pure]
      split at he
      ·rename_i heq
       cases he
       refine ⟨_, hrun, ?_⟩
       have : h.toNat - l.toNat = 0 := by omega
       rw [this];exact RdC.nil
      ·rename_i hne
       have hcl : ¬ c = l.toNat := by omega
       rw [if_neg hcl] at hrun
       split at he
       ·rename_i id sz off len
        have hn' : len = n := by simpa [eW] using hn
        split at he
        ·rename_i hs
         cases he
         obtain ⟨cap, cs, E, fr, hv, hle, hh, hcap⟩ := hx
         cases hv
         refine ⟨_, hrun, c - l.toNat, cs, E, fr, ?_, by omega, hh, ?_⟩
         ·simp only [Option.map_some, ga]
          congr 1
          ·rw [← hs, Nat.add_mul]
          ·omega
         ·have : off + l.toNat + (c - l.toNat) = off + c := by omega
          rw [this]; exact hcap
        ·cases he
       ·rename_i es
        split at he
        ·rename_i hall
         cases he
         have hn' : es.length = n := by simpa [eW] using hn
         cases hx with
         | nil => simp at hn'; omega
         | sl vs hh hX hl hcap hs hv hr =>
          rename_i b off sz cs E fr
          refine ⟨_, hrun, ?_⟩;simp only [Option.map_some, ga]
          have hat : ∀ i j d, at2 ((es.take h.toNat).drop l.toNat) i j = some d → at2 es (l.toNat + i) j = some d := by
           intro i j d hd
           unfold at2 at hd ⊢
           rw [List.getElem?_drop, List.getElem?_take] at hd
           split at hd
           ·exact hd
           ·simp at hd
          have hszz : ∀ (i : Nat) (el : List DC), es[i]? = some el → el.length = ei.size := fun i el hel => by
           have := List.all_eq_true.1 hall el (List.mem_of_getElem? hel); simpa using this
          refine RdC.sl (sz := ei.size) (fun i j => vs (l.toNat + i) j) hh hX ?_ (by omega) ?_ ?_ ?_
          ·simp; omega
          ·intro i el hel
           rw [List.getElem?_drop, List.getElem?_take] at hel
           split at hel
           ·exact hszz _ _ hel
           ·cases hel
          ·intro i j d hd
           have h1 := hat i j d hd
           rw [← hv _ _ _ h1]
           have : sz = ei.size := by
            unfold at2 at h1
            cases hel : es[l.toNat + i]? with
            | none => rw [hel] at h1; cases h1
            | some el => rw [← hs _ _ hel, hszz _ _ hel]
           rw [this, Nat.add_mul]
           congr 1; omega
          ·intro i j d hd; exact hr _ _ _ (hat i j d hd)
        ·cases he
       ·cases he
     ·cases he
    ·cases he
   ·cases he
  ·cases he
 ·cases he

end
end Go.Proofs.YtfichkokppbipaaGreatDoor

/- The simulation goes on: values put into slots, new objects, stores, appends. No condition. -/
namespace Go.Proofs.YtfichkokppbipaaGreatDoor
open Go.RowKit

def OO.noOwn : OO → Bool
 | .box cs => cs.all SC.noOwn
 | .arr _ _ => true
def St.noRef (st : St) (d : Nat) : Bool :=
 st.ρ.all (SV.noRef d) && st.rb.all (fun id => match st.σ id with | some o => o.noRef d | none => true)
def St.new (st : St) (d : Nat) (o : OO) (v : SV) : St :=
 { ρ := st.ρ.set d v, σ := bp st.σ d o, rb := if o.noOwn then st.rb else d :: st.rb }
def St.app (st : St) (d : Nat) (id : Option Nat) (o : OO) (v : SV) : St :=
 { ρ := st.ρ.set d v, σ := bp (fun k => if some k = id then none else st.σ k) d o, rb := st.rb }

section
variable {P : Program} {T : Tab} {w w' w0 : World} {X : Nat → Prop} {μ : Nat → Nat} {a : Act} {st : St}

theorem q6 {α : Type} (l : List α) (d i : Nat) (v x : α) : (l.set d v).getD i x = if i = d ∧ d < l.length then v else l.getD i x := by
 simp only [List.getD_eq_getElem?_getD, List.getElem?_set]
 by_cases h : d = i
 ·subst h
  by_cases h2 : d < l.length
  ·simp [h2]
  ·simp [h2]
 ·rw [if_neg h, if_neg (by intro h'; exact h h'.1.symm)]

theorem nQ (l : Array Value) (d i : Nat) (v x : Value) : (l.setIfInBounds d v).getD i x = if i = d ∧ d < l.size then v else l.getD i x := by
 simp only [Array.getD_eq_getD_getElem?, Array.getElem?_setIfInBounds]
 by_cases h : d = i
 ·subst h
  by_cases h2 : d < l.size
  ·simp [h2]
  ·simp [h2]
 ·rw [if_neg h, if_neg (by intro h'; exact h h'.1.symm)]

theorem Sim.put (hs : Sim w0 X μ a w st) {dst : Option Tmp} {u : Value} {v : SV} (hv : RelV w (Mut X μ st.σ) μ u v) : Sim w0 X μ (a.put dst u) w (st.put dst v) := by
 cases dst with
 | none => exact hs
 | some d =>
  refine ⟨hs.xlt, hs.dfr, hs.bel, by simp [Act.put, St.put, hs.len], fun i => ?_, hs.objs, hs.inj, hs.rbs⟩;simp only [Act.put, St.put, St.get, nQ, q6, hs.len]
  split
  ·exact hv
  ·exact hs.slots i

theorem Sim.below (hs : Sim w0 X μ a w st) (h : Below w.heap.size w w') : Sim w0 X μ a w' st := by
 have hf : Fwd (Mut X μ st.σ) w w' := Fwd.of_below h
 have hB := hs.bel.size
 refine ⟨hs.xlt, hs.dfr, hs.bel.trans (h.mono hB), hs.len, fun i => (hs.slots i).mono (fun _ _ h => h) hf, fun id o ho => ?_, hs.inj, hs.rbs⟩
 obtain ⟨h1, cs, E, hh, hr⟩ := hs.objs id o ho
 exact ⟨h1, cs, E, (h.block _ (cp hh)).trans hh, hr.mono (fun _ _ h => h) hf⟩

def upm (μ : Nat → Nat) (d b : Nat) : Nat → Nat := fun k => if k = d then b else μ k

theorem cH {d b k : Nat} (h : k ≠ d) : upm μ d b k = μ k := by simp [upm, h]

theorem sJ (hs : Sim w0 X μ a w st) {d : Nat} (hno : st.noRef d = true) {id : Nat} {o : OO} (ho : st.σ id = some o) : o.noRef d = true := by
 cases o with
 | arr => rfl
 | box cs =>
  by_cases hr : id ∈ st.rb
  ·simp only [St.noRef, Bool.and_eq_true] at hno
   have := List.all_eq_true.1 hno.2 id hr
   rw [ho] at this; exact this
  ·exact hs.rbs id cs ho hr d

theorem jA {d : Nat} (hno : st.noRef d = true) (i : Nat) : (st.get i).noRef d = true := by
 simp only [St.noRef, Bool.and_eq_true] at hno
 unfold St.get
 rw [List.getD_eq_getElem?_getD]
 cases h : st.ρ[i]? with
 | none => rfl
 | some v => exact List.all_eq_true.1 hno.1 v (List.mem_of_getElem? h)

theorem iR {cs : List SC} (h : cs.all SC.noOwn = true) (k : Nat) : cs.all (SC.noRef k) = true := by
 rw [List.all_eq_true] at h ⊢
 intro c hc
 have := h c hc
 cases c <;> simp_all [SC.noOwn, SC.noRef]

theorem Sim.new (hs : Sim w0 X μ a w st) {d b : Nat} (hno : st.noRef d = true) {cs : Array Value} {E : TypeId} {o : OO} {u : Value} {v : SV}
  (hf : Fwd (Mut X μ st.σ) w w') (hbel : Below w0.heap.size w0 w') (hkeep : ∀ id o, st.σ id = some o → w'.heap[μ id]? = w.heap[μ id]?) (hb : w.heap.size ≤ b) (hh : w'.heap[b]? = some (.cells cs E (0, 0)))
  (ho : RelO w' (Mut X (upm μ d b) (bp st.σ d o)) (upm μ d b) cs o) (hv : RelV w' (Mut X (upm μ d b) (bp st.σ d o)) (upm μ d b) u v) :
  Sim w0 X (upm μ d b) (a.put (some d) u) w' (st.new d o v) := by
 have hX : ∀ k, k < w.heap.size → Mut X (upm μ d b) (bp st.σ d o) k → Mut X μ st.σ k := by
  intro k hk hm
  rcases hm with hm | ⟨id, o', h1, h2⟩
  ·exact Or.inl hm
  ·by_cases hid : id = d
   ·subst hid; simp [upm] at h2; omega
   ·simp only [bp, if_neg hid] at h1;rw [cH hid] at h2;exact Or.inr ⟨id, o', h1, h2⟩
 refine ⟨hs.xlt, hs.dfr, hbel, by simp [Act.put, St.new, hs.len], fun i => ?_, fun id o' h' => ?_, fun i j oi oj hi hj hij => ?_, fun id cs' h' hid k => ?_⟩
 ·simp only [Act.put, St.new, St.get, nQ, q6, hs.len]
  split
  ·exact hv
  ·exact ((hs.slots i).mono hX hf).ren (jA hno i) (fun k hk => cH hk)
 ·simp only [St.new] at h' ⊢
  by_cases hid : id = d
  ·subst hid
   simp only [bp, if_true] at h'; cases h';refine ⟨?_, cs, E, ?_, ho⟩
   ·simp [upm]; have := hs.bel.size; omega
   ·simpa [upm] using hh
  ·simp only [bp, if_neg hid] at h'
   obtain ⟨h1, cs', E', hh', hr⟩ := hs.objs id o' h'
   rw [cH hid];refine ⟨h1, cs', E', (hkeep _ _ h').trans hh', (hr.mono hX hf).ren (sJ hs hno h') (fun k hk => cH hk)⟩
 ·simp only [St.new, bp] at hi hj
  by_cases hid : i = d
  ·by_cases hjd : j = d
   ·rw [hid, hjd]
   ·rw [if_neg hjd] at hj
    obtain ⟨_, _, _, hh', _⟩ := hs.objs j oj hj
    have := cp hh'
    rw [cH hjd] at hij
    subst hid
    simp [upm] at hij; omega
  ·rw [if_neg hid] at hi
   by_cases hjd : j = d
   ·obtain ⟨_, _, _, hh', _⟩ := hs.objs i oi hi
    have := cp hh'
    rw [cH hid] at hij
    subst hjd
    simp [upm] at hij; omega
   ·rw [if_neg hjd] at hj;rw [cH hid, cH hjd] at hij;exact hs.inj i j oi oj hi hj hij
 ·simp only [St.new] at h' hid
  by_cases hidd : id = d
  ·subst hidd
   simp only [bp, if_true] at h'; cases h'
   by_cases hno' : (OO.box cs').noOwn = true
   ·exact iR hno' k
   ·rw [if_neg hno'] at hid; simp at hid
  ·simp only [bp, if_neg hidd] at h';refine hs.rbs id cs' h' (fun hm => hid ?_) k
   split
   ·exact hm
   ·exact List.mem_cons_of_mem _ hm

theorem Sim.alloc (hs : Sim w0 X μ a w st) {d : Nat} (hno : st.noRef d = true) {cs : Array Value} {E : TypeId} {o : OO} {u : Value} {v : SV}
  (ho : RelO w (Mut X μ st.σ) μ cs o) (hor : o.noRef d = true)
  (hv : RelV (w.alloc (.cells cs E)) (Mut X (upm μ d w.heap.size) (bp st.σ d o)) (upm μ d w.heap.size) u v) :
  Sim w0 X (upm μ d w.heap.size) (a.put (some d) u) (w.alloc (.cells cs E)) (st.new d o v) := by
 have hf := tj (Mut X μ st.σ) w (.cells cs E)
 refine hs.new hno hf (hs.bel.alloc hs.bel.size _) (fun id o' h' => ?_) (Nat.le_refl _) (dq w _) ?_ hv
 ·obtain ⟨_, _, _, hh, _⟩ := hs.objs id o' h'
  exact Below.heap_alloc _ _ _ (cp hh)
 ·refine (ho.mono ?_ hf).ren hor (fun k hk => cH hk)
  intro k hk hm
  rcases hm with hm | ⟨id, o', h1, h2⟩
  ·exact Or.inl hm
  ·by_cases hid : id = d
   ·subst hid; simp [upm] at h2; omega
   ·simp only [bp, if_neg hid] at h1;rw [cH hid] at h2;exact Or.inr ⟨id, o', h1, h2⟩

theorem Sim.upd (hs : Sim w0 X μ a w st) {id : Nat} {o o' : OO} (hid : st.σ id = some o) {cs cs' : Array Value} {E : TypeId} (hh : w.heap[μ id]? = some (.cells cs E (0, 0)))
  (hsz : cs'.size = cs.size) (ho : RelO w (Mut X μ st.σ) μ cs' o') {rb' : List Nat} (hrb : ∀ k ∈ st.rb, k ∈ rb') (hrb' : ∀ l, o' = .box l → id ∉ rb' → ∀ k, l.all (SC.noRef k) = true) :
  Sim w0 X μ a (cL w (μ id) cs') ⟨st.ρ, bp st.σ id o', rb'⟩ := by
 have hMi : Mut X μ st.σ (μ id) := Or.inr ⟨id, o, hid, rfl⟩
 have hM : ∀ k, Mut X μ (bp st.σ id o') k → Mut X μ st.σ k := by
  intro k hm
  rcases hm with hm | ⟨j, oj, h1, h2⟩
  ·exact Or.inl hm
  ·by_cases hj : j = id
   ·subst hj; exact Or.inr ⟨j, o, hid, h2⟩
   ·simp only [bp, if_neg hj] at h1; exact Or.inr ⟨j, oj, h1, h2⟩
 have hf := wh (X := Mut X μ st.σ) hh hsz hMi
 have hid' := hs.objs id o hid
 refine ⟨hs.xlt, hs.dfr, hs.bel.trans (tF _ hid'.1), hs.len, fun i => (hs.slots i).mono (fun k _ h => hM k h) hf, fun j oj hj => ?_, fun i j oi oj hi hj hij => ?_, fun j l hj hnr k => ?_⟩
 ·by_cases hjid : j = id
  ·subst hjid
   simp only [bp, if_true] at hj; cases hj;exact ⟨hid'.1, cs', E, dP hh _, ho.mono (fun k _ h => hM k h) hf⟩
  ·simp only [bp, if_neg hjid] at hj
   obtain ⟨h1, csj, Ej, hhj, hr⟩ := hs.objs j oj hj
   have hne : μ j ≠ μ id := fun e => hjid (hs.inj j id oj o hj hid e)
   exact ⟨h1, csj, Ej, by rw [dO _ _ _ hne]; exact hhj, hr.mono (fun k _ h => hM k h) hf⟩
 ·have fi : ∃ o1, st.σ i = some o1 := by
   by_cases h : i = id
   ·exact ⟨o, h ▸ hid⟩
   ·simp only [bp, if_neg h] at hi; exact ⟨_, hi⟩
  have fj : ∃ o1, st.σ j = some o1 := by
   by_cases h : j = id
   ·exact ⟨o, h ▸ hid⟩
   ·simp only [bp, if_neg h] at hj; exact ⟨_, hj⟩
  obtain ⟨o1, h1⟩ := fi
  obtain ⟨o2, h2⟩ := fj
  exact hs.inj i j o1 o2 h1 h2 hij
 ·by_cases hjid : j = id
  ·subst hjid
   simp only [bp, if_true] at hj;exact hrb' l (by simpa using hj) hnr k
  ·simp only [bp, if_neg hjid] at hj;exact hs.rbs j l hj (fun hm => hnr (hrb _ hm)) k

theorem lj : ∀ {cs : List SC} {ds : List DC}, gY cs = some ds → ∀ {vs : List Value}, RelL w X μ vs cs →
  ds.length = cs.length ∧ ∀ (i : Nat) (d : DC), ds[i]? = some d → ∃ v, vs[i]? = some v ∧ RdC w X v d
 | [], ds, h, vs, _ => by simp [gY] at h; subst h; exact ⟨rfl, fun i d hd => by simp at hd⟩
 | c :: cs, ds, h, vs, hr => by
  simp only [gY] at h
  split at h
  ·rename_i d' ds' hc hds
   cases h
   match vs, hr with
   | v :: vs, hr =>
    have hr' : RelL w X μ vs cs := ⟨by simpa using hr.1, fun i c hc => by have := hr.2 (i + 1) c (by simpa using hc); simpa using this⟩
    obtain ⟨h1, h2⟩ := lj (vs := vs) hds hr'
    refine ⟨by simp [h1], fun i d hd => ?_⟩
    match i with
    | 0 =>
     simp at hd; subst hd
     obtain ⟨u, hu, hcu⟩ := hr.2 0 c rfl
     simp at hu; subst hu
     refine ⟨v, rfl, ?_⟩
     cases c with
     | d c => simp [SC.data?] at hc; subst hc; exact hcu
     | nil => simp [SC.data?] at hc; subst hc; cases hcu; exact .nil
     | own => simp [SC.data?] at hc
     | bad => simp [SC.data?] at hc
    | i + 1 => exact h2 i d (by simpa using hd)
   | [], hr => have := hr.1; simp at this
  ·cases h

theorem kk {t : TypeId} {ti : TI} (ht : TF P t ti) {b off : Nat} {cs : Array Value} {E : TypeId} (hh : w.heap[b]? = some (.cells cs E (0, 0))) {v : Value} {x : VV}
  (hv : RelVV w X μ v x) (hsz : (cellsOf x).length = ti.size) (hle : off + ti.size ≤ cs.size) :
  (Instr.storeAt t (.pointer (some ⟨b, off, none⟩)) v).run P w = .ok () (cL w b (spl cs off v.cells.toList)) := by
 have hc := gL hv
 have hcs : v.cells.size = ti.size := by have := hc.1; rw [Array.length_toList] at this; omega
 simp only [Instr.storeAt, Instr.sureAddr, Sem.run_bind, Sem.run_pure, Result.andThen_ok, storeVar, ht.run_sizeOf, ne_eq, hcs, not_true, if_false, Sem.run_ite]
 have := eR (P := P) v.cells.toList hh off 0 (by rw [Array.length_toList]; omega) (u7 hc)
 simpa using this

theorem rm (hT : TOK P T) (hs : Sim w0 X μ a w st) {t : TypeId} {vx vy : Value} {x y : SV} {σ' : cv} {rb' : List Nat}
  (hx : RelV w (Mut X μ st.σ) μ vx x) (hy : RelV w (Mut X μ st.σ) μ vy y) (h : bP T st t x y = .upd σ' rb') :
  ∃ w', (Instr.storeAt t vx vy).run P w = .ok () w' ∧ Sim w0 X μ a w' ⟨st.ρ, σ', rb'⟩ := by
 unfold bP at h
 split at h
 ·rename_i ti v hti
  have ht := hT.ty _ _ hti
  have hc := gL (show RelVV w _ μ vy v from hy)
  split at h
  ·rename_i hsz
   split at h
   ·rename_i id off
    have hx' : vx = .pointer (some ⟨μ id, off, none⟩) := hx
    subst hx'
    split at h
    ·rename_i cs hcs
     split at h
     ·rename_i hle
      cases h
      obtain ⟨_, cells, E, hh, hl, hrel⟩ := hs.objs _ _ hcs
      refine ⟨_, kk ht hh hy hsz (by omega), ?_⟩;refine hs.upd (o' := .box (jT cs off (cellsOf v))) hcs hh (cb _ _ _) ⟨by rw [gI, cb]; exact hl, fun i c hi => ?_⟩ (fun k hk => ?_) (fun l hl hid k => ?_)
      ·rw [ir _ _ _ _ (by omega)] at hi;rw [iM _ _ _ _ (by rw [hc.1]; omega), hc.1]
       split at hi
       ·rename_i hii; rw [if_pos hii]; exact hc.2 _ _ hi
       ·rename_i hii; rw [if_neg hii]; exact hrel _ _ hi
      ·split
       ·exact hk
       ·exact List.mem_cons_of_mem _ hk
      ·cases hl
       split at hid
       ·rename_i hno
        rw [List.all_eq_true]
        intro c hmem
        obtain ⟨i, hi⟩ := List.mem_iff_getElem?.1 hmem
        rw [ir _ _ _ _ (by omega)] at hi
        split at hi
        ·exact List.all_eq_true.1 (iR hno k) c (List.mem_of_getElem? hi)
        ·exact List.all_eq_true.1 (hs.rbs id cs hcs hid k) c (List.mem_of_getElem? hi)
       ·simp at hid
     ·cases h
    ·cases h
   ·rename_i id sz i j
    have hx' : vx = .pointer (some ⟨μ id, i * sz + j, none⟩) := hx
    subst hx'
    split at h
    ·rename_i sz' es ds hes hds
     split at h
     ·rename_i hsz'; subst hsz'
      split at h
      ·rename_i e he
       split at h
       ·rename_i hle
        cases h
        obtain ⟨_, cells, E, hh, hl, hlen, hrel⟩ := hs.objs _ _ hes
        have hel := hlen _ _ he
        have hi : i < es.length := (List.getElem?_eq_some_iff.1 he).1
        have hmul : i * sz' + sz' ≤ es.length * sz' := by rw [← Nat.succ_mul]; exact Nat.mul_le_mul_right _ hi
        obtain ⟨hd1, hd2⟩ := lj hds hc
        refine ⟨_, kk ht hh hy hsz (by omega), ?_⟩;refine hs.upd (o' := .arr sz' (es.set i (jT e j ds))) hes hh (cb _ _ _) ⟨by simp only [List.length_set, cb]; exact hl, fun k e' hk => ?_, fun k m d hkm => ?_⟩ (fun k hk => hk) (fun l hl => by cases hl)
        ·rw [List.getElem?_set] at hk
         by_cases hik : i = k
         ·subst hik; rw [if_pos rfl, if_pos hi] at hk; cases hk; rw [gI]; exact hel
         ·rw [if_neg hik] at hk; exact hlen _ _ hk
        ·rw [iM _ _ _ _ (by rw [hc.1]; omega), hc.1]
         unfold at2 at hkm
         rw [List.getElem?_set] at hkm
         by_cases hki : i = k
         ·subst hki
          rw [if_pos rfl, if_pos hi] at hkm;simp only [Option.bind_some] at hkm;rw [ir _ _ _ _ (by omega)] at hkm
          by_cases hm : j ≤ m ∧ m < j + ds.length
          ·rw [if_pos hm] at hkm;rw [if_pos (by omega)]
           obtain ⟨v, h1, h2⟩ := hd2 _ _ hkm
           exact ⟨v, by rw [← h1]; congr 1; omega, h2⟩
          ·rw [if_neg hm] at hkm;rw [if_neg (by omega)];exact hrel i m d (by simp [at2, he, hkm])
         ·rw [if_neg hki] at hkm
          have hat : at2 es k m = some d := hkm
          have hmlt : m < sz' := by
           unfold at2 at hat
           cases hek : es[k]? with
           | none => rw [hek] at hat; cases hat
           | some ek =>
            rw [hek] at hat
            have := (List.getElem?_eq_some_iff.1 (show ek[m]? = some d from hat)).1
            rw [hlen _ _ hek] at this; exact this
          rw [if_neg ?_]
          ·exact hrel k m d hat
          ·intro hcon
           rcases Nat.lt_or_gt_of_ne hki with hlt | hgt
           ·have : i * sz' + sz' ≤ k * sz' := by rw [← Nat.succ_mul]; exact Nat.mul_le_mul_right _ hlt
            omega
           ·have : k * sz' + sz' ≤ i * sz' := by rw [← Nat.succ_mul]; exact Nat.mul_le_mul_right _ hgt
            omega
       ·cases h
      ·cases h
     ·cases h
    ·rename_i cs hcs
     split at h
     ·rename_i hle
      cases h
      obtain ⟨_, cells, E, hh, hl, hrel⟩ := hs.objs _ _ hcs
      refine ⟨_, kk ht hh hy hsz (by omega), ?_⟩;refine hs.upd (o' := .box (jT cs (i * sz + j) (cellsOf v))) hcs hh (cb _ _ _) ⟨by rw [gI, cb]; exact hl, fun i c hi => ?_⟩ (fun k hk => ?_) (fun l hl hid k => ?_)
      ·rw [ir _ _ _ _ (by omega)] at hi;rw [iM _ _ _ _ (by rw [hc.1]; omega), hc.1]
       split at hi
       ·rename_i hii; rw [if_pos hii]; exact hc.2 _ _ hi
       ·rename_i hii; rw [if_neg hii]; exact hrel _ _ hi
      ·split
       ·exact hk
       ·exact List.mem_cons_of_mem _ hk
      ·cases hl
       split at hid
       ·rename_i hno
        rw [List.all_eq_true]
        intro c hmem
        obtain ⟨i, hi⟩ := List.mem_iff_getElem?.1 hmem
        rw [ir _ _ _ _ (by omega)] at hi
        split at hi
        ·exact List.all_eq_true.1 (iR hno k) c (List.mem_of_getElem? hi)
        ·exact List.all_eq_true.1 (hs.rbs id cs hcs hid k) c (List.mem_of_getElem? hi)
       ·simp at hid
     ·cases h
    ·cases h
   ·cases h
  ·cases h
 ·cases h

/-! #### Making slices -/
theorem wT {t : TypeId} {ti : TI} (ht : TF P t ti) : ∃ ds, gY ti.zero = some ds ∧ ds.length = ti.size := by
 have h1 := ht.zok
 have h2 := ht.zsz
 rw [← h2];generalize ti.zero = l at h1;clear h2
 induction l with
 | nil => exact ⟨[], rfl, rfl⟩
 | cons c l ih =>
  simp only [List.all_cons, Bool.and_eq_true] at h1
  obtain ⟨ds, hd, hl⟩ := ih h1.2
  cases c with
  | d c => exact ⟨c :: ds, by simp [gY, SC.data?, hd], by simp [hl]⟩
  | nil => exact ⟨.sl [] :: ds, by simp [gY, SC.data?, hd], by simp [hl]⟩
  | own => simp at h1
  | bad => simp at h1

theorem r5 {n i j : Nat} {l : List DC} {d : DC} (h : at2 (List.replicate n l) i j = some d) : i < n ∧ l[j]? = some d := by
 unfold at2 at h
 rw [List.getElem?_replicate] at h
 split at h
 ·rename_i hi; exact ⟨hi, h⟩
 ·cases h

theorem r7 {z : Array Value} {n sz i j : Nat} (hz : z.size = sz) (hj : j < sz) (hi : i < n) :
  ((Array.range (n * sz)).map (fun k => z[k % z.size]!))[i * sz + j]? = z[j]? := by
 have hlt : i * sz + j < n * sz := by
  have : i * sz + sz ≤ n * sz := by rw [← Nat.succ_mul]; exact Nat.mul_le_mul_right _ hi
  omega
 have hmod : (i * sz + j) % z.size = j := by
  rw [hz, Nat.add_comm, Nat.add_mul_mod_self_right, Nat.mod_eq_of_lt hj]
 have hj' : j < z.size := by omega
 simp [hlt, hmod, hj']

theorem qH {t : TypeId} {ti : TI} (ht : TF P t ti) (n c : Nat) (hnc : n ≤ c) {z : Array Value} (hz : z = (mkV ti.agg (ti.zero.map gH)).cells) :
  RelO w X μ ((Array.range (c * ti.size)).map (fun k => z[k % z.size]!)) (.arr ti.size (List.replicate n (r8 ti))) := by
 obtain ⟨ds, hds, hdl⟩ := wT ht
 have hzd : r8 ti = ds := by simp [r8, hds]
 have hzl : z.toList = ti.zero.map gH := by rw [hz]; exact ip ht
 have hzs : z.size = ti.size := by have := congrArg List.length hzl; simpa [ht.zsz] using this
 obtain ⟨h1, h2⟩ := lj (w := w) (X := X) (μ := μ) hds (kC ht)
 refine ⟨by simp; exact Nat.mul_le_mul_right _ hnc, fun i e he => ?_, fun i j d hd => ?_⟩
 ·rw [List.getElem?_replicate] at he
  split at he
  ·cases he; rw [hzd]; exact hdl
  ·cases he
 ·obtain ⟨hi, hj⟩ := r5 hd
  rw [hzd] at hj
  obtain ⟨v, hv, hr⟩ := h2 _ _ hj
  have hjl := (List.getElem?_eq_some_iff.1 hj).1
  refine ⟨v, ?_, hr⟩;rw [r7 hzs (by omega) (by omega : i < c)];rw [← hzl] at hv
  simpa using hv

theorem wt {t : TypeId} {ti : TI} (ht : TF P t ti) (n c : Nat) (hnc : n ≤ c) {z : Array Value} (hz : z = (mkV ti.agg (ti.zero.map gH)).cells) :
  RelO w X μ ((Array.range (c * ti.size)).map (fun k => z[k % z.size]!)) (o8 ti n) := by
 unfold o8
 split
 ·rename_i hzero
  have hzl : z.toList = ti.zero.map gH := by rw [hz]; exact ip ht
  have hs1 : ti.size = 1 := by rw [← ht.zsz, hzero]; rfl
  rw [hzero] at hzl
  have hz0 : z = #[.slice none 0 0] := by
   apply Array.toList_inj.1; rw [hzl]; rfl
  refine ⟨by simp [hs1]; omega, fun i c' hc => ?_⟩;rw [List.getElem?_replicate] at hc
  split at hc
  ·rename_i hi
   cases hc
   refine ⟨.slice none 0 0, ?_, rfl⟩
   have h := r7 (z := z) (n := c) (sz := ti.size) (i := i) (j := 0) (by rw [hz0, hs1]; rfl) (by omega) (by omega)
   rw [hs1, Nat.mul_one, Nat.add_zero, Nat.mul_one] at h;rw [hs1, Nat.mul_one, h, hz0]; rfl
  ·cases hc
 ·exact qH ht n c hnc hz
theorem o7 (ti : TI) (n d : Nat) : (o8 ti n).noRef d = true := by
 unfold o8
 split
 ·simp only [OO.noRef, List.all_eq_true]
  intro c hc
  rw [List.eq_of_mem_replicate hc]; rfl
 ·rfl

theorem mA (hT : TOK P T) {t : TypeId} {vl vc : Value} {l c : SV} {o : OO} {f : Nat → SV} (hl : RelV w X μ vl l) (hc : RelV w X μ vc c)
  (h : bh T t l c = .new o f) :
  ∃ cs E u, (Instr.makeSlice t vl vc).run P w = .ok u (w.alloc (.cells cs E)) ∧ RelO w X μ cs o ∧ o.noRef 0 = true ∧ (∀ d, o.noRef d = true) ∧
   ∀ (d : Nat) (X' : Nat → Prop), RelV (w.alloc (.cells cs E)) X' (upm μ d w.heap.size) u (f d) := by
 unfold bh at h
 split at h
 ·rename_i ti k n k' m hti hn hm
  have e1 := ii hl hn
  have e2 := ii hc hm
  subst e1; subst e2
  split at h
  ·rename_i e he
   split at h
   ·rename_i ei hei
    split at h
    ·rename_i hcond
     obtain ⟨h0, hnm, hm40', hby, hsz0⟩ := hcond
     have hm40 : m ≤ 2 ^ 40 := by have := Nat.le_of_ble_eq_true hm40'; omega
     cases h
     have ht := hT.ty _ _ hei
     have hu := (hT.ty _ _ hti).run_slice w he
     obtain ⟨inf, hinf, hb, _⟩ := ht.run_bytes w
     have hz := ht.run_zero w
     have hsz := ht.run_sizeOf w
     have hwl : IntKind.i64.wrap n = n := IntWalk.i64_in _ (by omega)
     have hwc : IntKind.i64.wrap m = m := IntWalk.i64_in _ (by omega)
     have hbm : (inf.bytes : Int) * m ≤ 2 ^ 48 := by
      rw [hb]
      have h1 : (ei.bytes : Int) ≤ 256 := by omega
      have h2 : (ei.bytes : Int) * m ≤ 256 * m := Int.mul_le_mul_of_nonneg_right h1 (by omega)
      omega
     refine ⟨_, e, .slice (some ⟨w.heap.size, 0, none⟩) n.toNat m.toNat, ?_, wt ht n.toNat m.toNat (by omega) rfl, o7 _ _ _, fun _ => o7 _ _ _, fun d X' => ?_⟩
     ·simp only [Instr.makeSlice, Sem.run_bind, hu, Result.andThen_ok, asInt, asIntOf, Sem.run_pure, hinf, hwl, hwc];rw [if_neg (by simp; omega)];simp only [Sem.run_bind, run_askRoom, hsz, Result.andThen_ok]
      by_cases hn0 : m.toNat * ei.size = 0
      ·rw [if_pos hn0]
       have r0 : ∀ f : Nat → Value, (Array.range 0).map f = #[] := fun f => by simp
       simp only [Sem.run_bind, Sem.run_pure, Result.andThen_ok, newRow, run_newObj, hn0, r0]
       rfl
      ·rw [if_neg hn0];simp only [Sem.run_bind, hz, Result.andThen_ok, Sem.run_pure, newRow, run_newObj]
       rfl
     ·refine ⟨m.toNat, _, e, (0, 0), by simp [upm], by omega, by rw [show upm μ d w.heap.size d = w.heap.size by simp [upm]]; exact dq _ _, ?_⟩
      simp
    ·cases h
   ·cases h
  ·cases h
 ·cases h

theorem CE {es : List (List DC)} {i k m : Nat} {ds : List DC} (hi : i < es.length) {d : DC} (h : at2 (es.set i ds) k m = some d) :
  (k = i ∧ ds[m]? = some d) ∨ (k ≠ i ∧ at2 es k m = some d) := by
 unfold at2 at h ⊢
 rw [List.getElem?_set] at h
 by_cases hk : i = k
 ·subst hk
  rw [if_pos rfl, if_pos hi] at h;exact Or.inl ⟨rfl, h⟩
 ·rw [if_neg hk] at h;exact Or.inr ⟨Ne.symm hk, h⟩

theorem pv {sz : Nat} : ∀ (parts : List (Nat × SV)) (ps : List (Nat × Value)) (cs : Array Value) (es es' : List (List DC)), ps.length = parts.length →
  (∀ (k : Nat) (p : Nat × SV), parts[k]? = some p → ∃ u, ps[k]? = some (p.1, u) ∧ RelV w X μ u p.2) → cs.size = es.length * sz → RelO w X μ cs (.arr sz es) →
  pw sz es parts = some es' →
  ∃ cs', Instr.fill (fun i => some (i * sz, sz)) cs ps = some cs' ∧ cs'.size = cs.size ∧ es'.length = es.length ∧ RelO w X μ cs' (.arr sz es')
 | [], ps, cs, es, es', hlen, _, _, hr, h => by
  have : ps = [] := by simpa using hlen
  subst this
  simp [pw] at h; subst h
  exact ⟨cs, rfl, rfl, rfl, hr⟩
 | (i, x) :: parts, ps, cs, es, es', hlen, hps, hsz, hr, h => by
  match ps, hlen with
  | p :: ps, hlen =>
   obtain ⟨u, hu, hru⟩ := hps 0 _ rfl
   simp at hu; subst hu
   cases x with
   | val v =>
    simp only [pw] at h
    split at h
    ·rename_i ds hds
     split at h
     ·rename_i hc
      have hcells := gL hru
      obtain ⟨hd1, hd2⟩ := lj hds hcells
      have hus : u.cells.size = sz := by have := hcells.1; rw [Array.length_toList] at this; omega
      have hi := hc.2
      have hmul : i * sz + sz ≤ es.length * sz := by rw [← Nat.succ_mul]; exact Nat.mul_le_mul_right _ hi
      simp only [Instr.fill];rw [if_neg (by simp [hus]; omega), nG]
      have := pv parts ps (spl cs (i * sz) u.cells.toList) (es.set i ds) es' (by simpa using hlen) (fun k p hk => by
       have := hps (k + 1) p (by simpa using hk); simpa using this) (by rw [cb, List.length_set]; exact hsz) ?_ h
      ·obtain ⟨cs', h1, h2, h3, h4⟩ := this
       exact ⟨cs', h1, by rw [h2, cb], by rw [h3, List.length_set], h4⟩
      ·obtain ⟨hr1, hr2, hr3⟩ := hr
       refine ⟨by rw [cb, List.length_set]; exact hr1, fun k e hk => ?_, fun k m d hd => ?_⟩
       ·rw [List.getElem?_set] at hk
        by_cases hik : i = k
        ·subst hik; rw [if_pos rfl, if_pos hi] at hk; cases hk; exact hc.1
        ·rw [if_neg hik] at hk; exact hr2 _ _ hk
       ·rw [iM _ _ _ _ (by rw [Array.length_toList]; omega), Array.length_toList, hus]
        rcases CE hi hd with ⟨rfl, hm⟩ | ⟨hne, hm⟩
        ·have hml := (List.getElem?_eq_some_iff.1 hm).1
         rw [if_pos (by omega)]
         obtain ⟨v, h1, h2⟩ := hd2 _ _ hm
         exact ⟨v, by rw [← h1]; congr 1; omega, h2⟩
        ·have hmlt : m < sz := by
          unfold at2 at hm
          cases hek : es[k]? with
          | none => rw [hek] at hm; cases hm
          | some ek =>
           rw [hek] at hm
           have := (List.getElem?_eq_some_iff.1 (show ek[m]? = some d from hm)).1
           rw [hr2 _ _ hek] at this; exact this
         rw [if_neg ?_]
         ·exact hr3 k m d hm
         ·intro hcon
          rcases Nat.lt_or_gt_of_ne hne with hlt | hgt
          ·have : k * sz + sz ≤ i * sz := by rw [← Nat.succ_mul]; exact Nat.mul_le_mul_right _ hlt
           omega
          ·have : i * sz + sz ≤ k * sz := by rw [← Nat.succ_mul]; exact Nat.mul_le_mul_right _ hgt
           omega
     ·cases h
    ·cases h
   | _ => simp [pw] at h

theorem gX (hT : TOK P T) {t : TypeId} {len : Nat} {parts : List (Nat × SV)} {ps : Array (Nat × Value)} {o : OO} {f : Nat → SV} (hlen : ps.toList.length = parts.length)
  (hps : ∀ (k : Nat) (p : Nat × SV), parts[k]? = some p → ∃ u, ps.toList[k]? = some (p.1, u) ∧ RelV w X μ u p.2) (h : br T t len parts = .new o f) :
  ∃ cs E u, (Instr.buildSlice t len ps).run P w = .ok u (w.alloc (.cells cs E)) ∧ RelO w X μ cs o ∧ o.noRef 0 = true ∧ (∀ d, o.noRef d = true) ∧
   ∀ (d : Nat) (X' : Nat → Prop), RelV (w.alloc (.cells cs E)) X' (upm μ d w.heap.size) u (f d) := by
 unfold br at h
 split at h
 ·rename_i ti hti
  split at h
  ·rename_i e he
   split at h
   ·rename_i ei hei
    split at h
    ·rename_i hcond
     split at h
     ·rename_i es hes
      cases h
      have ht := hT.ty _ _ hei
      have hu := (hT.ty _ _ hti).run_slice w he
      have hz := ht.run_zero w
      have hsz := ht.run_sizeOf w
      have hr0 := qH (w := w) (X := X) (μ := μ) ht len len (Nat.le_refl _) rfl
      obtain ⟨cs', h1, h2, h3, h4⟩ := pv parts ps.toList _ _ es hlen hps (by simp) hr0 hes
      refine ⟨cs', e, .slice (some ⟨w.heap.size, 0, none⟩) len len, ?_, h4, rfl, fun _ => rfl, fun d X' => ?_⟩
      ·simp only [Instr.buildSlice, Sem.run_bind, hu, Result.andThen_ok, hsz];rw [if_neg (by omega)]
       by_cases hn0 : len * ei.size = 0
       ·have r0 : ∀ f : Nat → Value, (Array.range 0).map f = #[] := fun f => by simp
        rw [hn0, r0] at h1;simp only [hn0, if_true, Sem.run_bind, Sem.run_pure, Result.andThen_ok, r0, h1, newRow, run_newObj]
        rfl
       ·simp only [if_neg hn0, Sem.run_bind, hz, Result.andThen_ok, Sem.run_pure, h1, newRow, run_newObj]
        rfl
      ·refine ⟨len, cs', e, (0, 0), by simp [upm], Nat.le_refl _, by rw [show upm μ d w.heap.size d = w.heap.size by simp [upm]]; exact dq _ _, ?_⟩;rw [h2]; simp
     ·cases h
    ·cases h
   ·cases h
  ·cases h
 ·cases h

/-! #### Removing and renaming objects -/
def jc (σ : cv) (id : Nat) : cv := fun k => if k = id then none else σ k

theorem Sim.del (hs : Sim w0 X μ a w st) (id : Nat) : Sim w0 X μ a w { st with σ := jc st.σ id } := by
 have hM : ∀ k, Mut X μ (jc st.σ id) k → Mut X μ st.σ k := by
  intro k hm
  rcases hm with hm | ⟨j, oj, h1, h2⟩
  ·exact Or.inl hm
  ·simp only [jc] at h1
   split at h1
   ·cases h1
   ·exact Or.inr ⟨j, oj, h1, h2⟩
 have get : ∀ {j o}, jc st.σ id j = some o → st.σ j = some o := by
  intro j o h
  simp only [jc] at h
  split at h
  ·cases h
  ·exact h
 refine ⟨hs.xlt, hs.dfr, hs.bel, hs.len, fun i => (hs.slots i).mono (fun k _ h => hM k h) (Fwd.refl _ _), fun j o hj => ?_, fun i j oi oj hi hj => hs.inj i j oi oj (get hi) (get hj), fun j l hj => hs.rbs j l (get hj)⟩
 obtain ⟨h1, cs, E, hh, hr⟩ := hs.objs j o (get hj)
 exact ⟨h1, cs, E, hh, hr.mono (fun k _ h => hM k h) (Fwd.refl _ _)⟩

theorem Sim.move (hs : Sim w0 X μ a w st) {id d sz : Nat} {es : List (List DC)} (hid : st.σ id = some (.arr sz es)) (hno : st.noRef d = true) (hne : d ≠ id) :
  Sim w0 X (upm μ d (μ id)) a w { st with σ := bp (jc st.σ id) d (.arr sz es) } := by
 have hM : ∀ k, Mut X (upm μ d (μ id)) (bp (jc st.σ id) d (.arr sz es)) k → Mut X μ st.σ k := by
  intro k hm
  rcases hm with hm | ⟨j, oj, h1, h2⟩
  ·exact Or.inl hm
  ·by_cases hj : j = d
   ·subst hj; simp [upm] at h2; exact Or.inr ⟨id, _, hid, h2⟩
   ·simp only [bp, if_neg hj, jc] at h1
    split at h1
    ·cases h1
    ·rw [cH hj] at h2; exact Or.inr ⟨j, oj, h1, h2⟩
 have get : ∀ {j o}, j ≠ d → bp (jc st.σ id) d (.arr sz es) j = some o → j ≠ id ∧ st.σ j = some o := by
  intro j o hj h
  simp only [bp, if_neg hj, jc] at h
  split at h
  ·cases h
  ·rename_i h'; exact ⟨h', h⟩
 refine ⟨hs.xlt, hs.dfr, hs.bel, hs.len, fun i => ((hs.slots i).mono (fun k _ h => hM k h) (Fwd.refl _ _)).ren (jA hno i) (fun k hk => cH hk), fun j o hj => ?_, fun i j oi oj hi hj hij => ?_, fun j l hj => ?_⟩
 ·by_cases hjd : j = d
  ·subst hjd
   simp only [bp, if_true] at hj; cases hj
   obtain ⟨h1, cs, E, hh, hr⟩ := hs.objs id _ hid
   refine ⟨by simpa [upm] using h1, cs, E, by simpa [upm] using hh, ?_⟩;exact (hr.mono (fun k _ h => hM k h) (Fwd.refl _ _)).ren (id := j) rfl (fun k hk => cH hk)
  ·obtain ⟨_, hj'⟩ := get hjd hj
   obtain ⟨h1, cs, E, hh, hr⟩ := hs.objs j o hj'
   rw [cH hjd];exact ⟨h1, cs, E, hh, (hr.mono (fun k _ h => hM k h) (Fwd.refl _ _)).ren (sJ hs hno hj') (fun k hk => cH hk)⟩
 ·by_cases hid' : i = d
  ·by_cases hjd : j = d
   ·rw [hid', hjd]
   ·obtain ⟨h1, h2⟩ := get hjd hj
    rw [cH hjd] at hij
    subst hid'
    simp [upm] at hij
    exact absurd (hs.inj j id _ _ h2 hid hij.symm) h1
  ·obtain ⟨h1, h2⟩ := get hid' hi
   by_cases hjd : j = d
   ·rw [cH hid'] at hij
    subst hjd
    simp [upm] at hij
    exact absurd (hs.inj i id _ _ h2 hid hij) h1
   ·obtain ⟨h3, h4⟩ := get hjd hj
    rw [cH hid', cH hjd] at hij;exact hs.inj i j _ _ h2 h4 hij
 ·by_cases hjd : j = d
  ·subst hjd
   simp only [bp, if_true] at hj; cases hj
  ·exact hs.rbs j l (get hjd hj).2

end
end Go.Proofs.YtfichkokppbipaaGreatDoor

/- Append, and one operation of the abstract state against the model's. No condition. -/
namespace Go.Proofs.YtfichkokppbipaaGreatDoor
open Go.RowKit

section
variable {P : Program} {T : Tab} {w w' w0 : World} {X : Nat → Prop} {μ : Nat → Nat} {a : Act} {st : St}

theorem o5 {es : List (List DC)} {i j : Nat} {d : DC} (h : at2 es i j = some d) : i < es.length := by
 unfold at2 at h
 rcases Nat.lt_or_ge i es.length with h' | h'
 ·exact h'
 ·rw [List.getElem?_eq_none h'] at h; cases h

theorem sY (hs : Sim w0 X μ a w st) {vx : Value} {x : SV} {new : List (List DC)} {sz : Nat} (hx : RelV w (Mut X μ st.σ) μ vx x) (he : eX st x = some new)
  (hl : ∀ e ∈ new, e.length = sz) : (Builtin.lenOf vx).run P w = .ok new.length w ∧ ∃ cells : Array Value, (Builtin.firstCells sz new.length vx).run P w = .ok cells w ∧ cells.size = new.length * sz ∧
   ∀ (i j : Nat) (d : DC), at2 new i j = some d → ∃ v, cells[i * sz + j]? = some v ∧ RdC w (Mut X μ st.σ) v d := by
 have main : ∀ (b off0 cap : Nat) (cs : Array Value) (E : TypeId) (fr : Nat × Nat), w.heap[b]? = some (.cells cs E fr) →
   (∀ (i j : Nat) (d : DC), at2 new i j = some d → ∃ v, cs[off0 + i * sz + j]? = some v ∧ RdC w (Mut X μ st.σ) v d) →
   (new.length * sz ≠ 0 → off0 + new.length * sz ≤ cs.size) →
   ∃ cells : Array Value, (Builtin.firstCells sz new.length (.slice (some ⟨b, off0, none⟩) new.length cap)).run P w = .ok cells w ∧ cells.size = new.length * sz ∧
    ∀ (i j : Nat) (d : DC), at2 new i j = some d → ∃ v, cells[i * sz + j]? = some v ∧ RdC w (Mut X μ st.σ) v d := by
  intro b off0 cap cs E fr hh hg hle
  by_cases h0 : new.length * sz = 0
  ·refine ⟨#[], ?_, by simp [h0], fun i j d hd => ?_⟩
   ·simp only [Builtin.firstCells, h0, loadCells, loadCellsFrom, Sem.run_pure]
   ·exfalso
    have hi := o5 hd
    have hsz : sz = 0 := by
     rcases Nat.mul_eq_zero.1 h0 with h | h
     ·omega
     ·exact h
    unfold at2 at hd
    rw [List.getElem?_eq_getElem hi] at hd
    have := hl _ (List.getElem_mem hi)
    have hj := (List.getElem?_eq_some_iff.1 (show (new[i])[j]? = some d from hd)).1
    omega
  ·refine ⟨_, dy hh off0 (new.length * sz) (hle h0), by simp; have := hle h0; omega, fun i j d hd => ?_⟩
   obtain ⟨v, h1, h2⟩ := hg i j d hd
   refine ⟨v, ?_, h2⟩
   have hi := o5 hd
   have hj : j < sz := by
    unfold at2 at hd
    rw [List.getElem?_eq_getElem hi] at hd
    have := hl _ (List.getElem_mem hi)
    have hj := (List.getElem?_eq_some_iff.1 (show (new[i])[j]? = some d from hd)).1
    omega
   have hmul : i * sz + sz ≤ new.length * sz := by rw [← Nat.succ_mul]; exact Nat.mul_le_mul_right _ hi
   have := hle h0
   rw [Array.getElem?_extract, if_pos (by omega), ← h1]
   congr 1; omega
 unfold eX at he
 split at he
 ·cases he
  cases hx with
  | nil => exact ⟨rfl, by
    rename_i a c
    cases a with
    | none => exact ⟨#[], rfl, by simp, fun i j d hd => by simp [at2] at hd⟩
    | some a => exact ⟨#[], by simp [Builtin.firstCells, loadCells, loadCellsFrom], by simp, fun i j d hd => by simp [at2] at hd⟩⟩
  | sl vs hh hX hlen hcap hsz hv hr =>
   rename_i b off len cap sz' cs E fr
   subst hlen
   refine ⟨rfl, ?_⟩
   have hszz : ∀ i j d, at2 new i j = some d → sz' = sz := by
    intro i j d hd
    have hi := o5 hd
    rw [← hsz i _ (List.getElem?_eq_getElem hi), hl _ (List.getElem_mem hi)]
   refine main b off cap cs E fr hh (fun i j d hd => ⟨vs i j, by rw [← hv i j d hd, hszz i j d hd], hr i j d hd⟩) (fun h0 => ?_)
   have hn : 0 < new.length := by rcases Nat.eq_zero_or_pos new.length with h | h; (rw [h] at h0; simp at h0); exact h
   have hs0 : 0 < sz := by rcases Nat.eq_zero_or_pos sz with h | h; (rw [h] at h0; simp at h0); exact h
   have hi : new.length - 1 < new.length := by omega
   have hll := hl _ (List.getElem_mem hi)
   have hat : at2 new (new.length - 1) (sz - 1) = some ((new[new.length - 1])[sz - 1]'(by omega)) := by
    unfold at2; rw [List.getElem?_eq_getElem hi]; simp
   have h1 := hv _ _ _ hat
   rw [hszz _ _ _ hat] at h1
   have := (Array.getElem?_eq_some_iff.1 h1).1
   have e1 : (new.length - 1) * sz + sz = new.length * sz := by rw [← Nat.succ_mul]; congr 1; omega
   omega
 ·cases he
  cases hx
  exact ⟨rfl, #[], rfl, by simp, fun i j d hd => by simp [at2] at hd⟩
 ·rename_i id szx off len
  split at he
  ·rename_i sz' es hes
   split at he
   ·rename_i hc
    cases he
    obtain ⟨cap, cs, E, fr, rfl, hle, hh, hcap⟩ := hx
    obtain ⟨_, cs', E', hh', hle', hlen', hrel⟩ := hs.objs _ _ hes
    have hlen : ((es.drop off).take len).length = len := by simp; omega
    rw [hlen];refine ⟨rfl, ?_⟩
    have hszx : ∀ i, i < len → szx = sz := by
     intro i hi
     have hio : off + i < es.length := by omega
     have h1 := hlen' _ _ (List.getElem?_eq_getElem hio)
     have h2 := hl es[off + i] (by
      refine List.mem_of_getElem? (i := i) ?_
      rw [List.getElem?_take, if_pos hi, List.getElem?_drop, List.getElem?_eq_getElem hio])
     omega
    have := main (μ id) (off * szx) cap cs' E' (0, 0) hh' (fun i j d hd => ?_) (fun h0 => ?_)
    ·rw [hlen] at this; exact this
    ·have hi := o5 hd
     rw [hlen] at hi
     have hat : at2 es (off + i) j = some d := by
      unfold at2 at hd ⊢
      rw [List.getElem?_take, if_pos hi, List.getElem?_drop] at hd;exact hd
     obtain ⟨v, h1, h2⟩ := hrel _ _ _ hat
     refine ⟨v, ?_, h2⟩;rw [← h1, hc.1, hszx i hi, Nat.add_mul]
    ·rw [hlen] at h0 ⊢
     have hn : 0 < len := by rcases Nat.eq_zero_or_pos len with h | h; (rw [h] at h0; simp at h0); exact h
     have e := hszx 0 hn
     have h3 : (off + len) * sz' ≤ es.length * sz' := Nat.mul_le_mul_right _ hc.2
     rw [Nat.add_mul, hc.1, e] at h3;rw [e];rw [hc.1, e] at hle'
     omega
   ·cases he
  ·cases he
 ·cases he

theorem sT (n : Nat) : ∀ (r c : Nat), 256 ≤ c → c < n → Builtin.growBy n r c ≤ 2 * n
 | 0, c, _, h => by simp [Builtin.growBy]; omega
 | r + 1, c, h1, h2 => by
  simp only [Builtin.growBy]
  split
  ·omega
  ·by_cases h3 : c + (c + 768) / 4 < n
   ·exact sT n r _ (by omega) h3
   ·have : ∀ r c, n ≤ c → Builtin.growBy n r c = c := by
     intro r c hc
     cases r with
     | zero => rfl
     | succ r => simp [Builtin.growBy, hc]
    rw [this _ _ (by omega)]
    omega

theorem qT {n c : Nat} (h : c < n) : Builtin.nextslicecap n c ≤ 2 * n := by
 unfold Builtin.nextslicecap
 split
 ·omega
 ·split
  ·omega
  ·exact sT n 4 c (by omega) h

theorem j3 (z : Array Value) (n : Nat) : (Builtin.zeroCells z n).size = n * z.size := by simp [Builtin.zeroCells]

theorem pm {sz : Nat} {es new : List (List DC)} {old cells rest : Array Value} (hold : old.size = es.length * sz) (hcells : cells.size = new.length * sz)
  (hes : ∀ e ∈ es, e.length = sz) (hnew : ∀ e ∈ new, e.length = sz)
  (h1 : ∀ (i j : Nat) (d : DC), at2 es i j = some d → ∃ v, old[i * sz + j]? = some v ∧ RdC w X v d)
  (h2 : ∀ (i j : Nat) (d : DC), at2 new i j = some d → ∃ v, cells[i * sz + j]? = some v ∧ RdC w X v d) :
  RelO w X μ (old ++ cells ++ rest) (.arr sz (es ++ new)) := by
 refine ⟨by simp only [Array.size_append, List.length_append, Nat.add_mul]; omega, fun i e he => ?_, fun i j d hd => ?_⟩
 ·rcases List.mem_append.1 (List.mem_of_getElem? he) with h | h
  ·exact hes e h
  ·exact hnew e h
 ·have hjlt : j < sz := by
   unfold at2 at hd
   cases he : (es ++ new)[i]? with
   | none => rw [he] at hd; cases hd
   | some e =>
    rw [he] at hd
    have hj := (List.getElem?_eq_some_iff.1 (show e[j]? = some d from hd)).1
    rcases List.mem_append.1 (List.mem_of_getElem? he) with h | h
    ·rw [hes e h] at hj; exact hj
    ·rw [hnew e h] at hj; exact hj
  by_cases hi : i < es.length
  ·have hat : at2 es i j = some d := by unfold at2 at hd ⊢; rwa [List.getElem?_append_left hi] at hd
   obtain ⟨v, hv, hr⟩ := h1 i j d hat
   have hlt := (Array.getElem?_eq_some_iff.1 hv).1
   exact ⟨v, by rw [Array.append_assoc, Array.getElem?_append_left hlt]; exact hv, hr⟩
  ·have hat : at2 new (i - es.length) j = some d := by unfold at2 at hd ⊢; rwa [List.getElem?_append_right (by omega)] at hd
   obtain ⟨v, hv, hr⟩ := h2 _ j d hat
   have hlt := (Array.getElem?_eq_some_iff.1 hv).1
   have e : i * sz = es.length * sz + (i - es.length) * sz := by rw [← Nat.add_mul]; congr 1; omega
   refine ⟨v, ?_, hr⟩;rw [Array.append_assoc, Array.getElem?_append_right (by omega), Array.getElem?_append_left (by omega), ← hv]
   congr 1; omega

theorem Sim.drew (hs : Sim w0 X μ a w st) : Sim w0 X μ a w.drew st := hs.below ((Below.refl _ _).drew)

theorem yG {d : Nat} (hno : st.noRef d = true) (id : Nat) (o : OO) (ho : o.noRef d = true) : ({ st with σ := bp st.σ id o } : St).noRef d = true := by
 simp only [St.noRef, Bool.and_eq_true] at hno ⊢;refine ⟨hno.1, List.all_eq_true.2 fun k hk => ?_⟩
 have := List.all_eq_true.1 hno.2 k hk
 simp only [bp]
 by_cases hki : k = id
 ·simp [hki, ho]
 ·simpa [hki] using this

theorem yH {d : Nat} (hno : st.noRef d = true) (id : Nat) : ({ st with σ := jc st.σ id } : St).noRef d = true := by
 simp only [St.noRef, Bool.and_eq_true] at hno ⊢;refine ⟨hno.1, List.all_eq_true.2 fun k hk => ?_⟩
 have := List.all_eq_true.1 hno.2 k hk
 simp only [jc]
 by_cases hki : k = id
 ·simp [hki]
 ·simpa [hki] using this

theorem pK (hT : TOK P T) (hs : Sim w0 X μ a w st) {t t2 tt : TypeId} {vs vx : Value} {s x : SV} {id : Option Nat} {sz : Nat} {es : List (List DC)} {d : Nat}
  (hvs : RelV w (Mut X μ st.σ) μ vs s) (hvx : RelV w (Mut X μ st.σ) μ vx x) (h : bq T st t t2 s x = .app id sz es) (hno : st.noRef d = true) (hsn : s.noRef d = true) :
  ∃ u w' μ', (Builtin.append_ #[t, t2] tt #[vs, vx]).run P w = .ok u w' ∧ Sim w0 X μ' (a.put (some d) u) w' (st.app d id (.arr sz es) (.val (.one (.own d sz 0 es.length)))) := by
 unfold bq at h
 split at h
 ·rename_i ti ti2 hti hti2
  split at h
  ·rename_i e e2 he he2
   split at h
   ·rename_i ei new hei hnew
    split at h
    ·rename_i hcond
     obtain ⟨hsz0, hby, hall⟩ := hcond
     have hnl : ∀ el ∈ new, el.length = ei.size := fun el hel => by have := List.all_eq_true.1 hall el hel; simpa using this
     have hu := (hT.ty _ _ hti).run_slice w he
     have hu2 := (hT.ty _ _ hti2).run_slice w he2
     have ht := hT.ty _ _ hei
     have hsize := ht.run_sizeOf w
     obtain ⟨inf, hinf, hinfb, _⟩ := ht.run_bytes w
     obtain ⟨hlenx, cells, hcells, hcsz, hcrel⟩ := sY (P := P) hs hvx hnew hnl
     have hsD := hs.drew
     have hcellsD := (sY (P := P) hsD (w := w.drew) (hvx.mono (fun _ _ h => h) (Fwd.of_below ((Below.refl _ _).drew))) hnew hnl).2
     -- it does not fit: a new row
     have grow : ∀ (base : Option Addr) (sLen sCap : Nat) (old : Array Value), vs = .slice base sLen sCap → sLen + new.length ≤ 2 ^ 36 → ¬ sLen + new.length ≤ sCap →
       (Builtin.firstCells ei.size sLen vs).run P w.drew = .ok old w.drew →
       ∃ (cells : Array Value) (rest : Array Value) (newCap : Nat), sLen + new.length ≤ newCap ∧ rest.size = (newCap - (sLen + new.length)) * ei.size ∧ cells.size = new.length * ei.size ∧
        (∀ (i j : Nat) (d : DC), at2 new i j = some d → ∃ v, cells[i * ei.size + j]? = some v ∧ RdC w.drew (Mut X μ st.σ) v d) ∧
        (Builtin.append_ #[t, t2] tt #[vs, vx]).run P w = .ok (.slice (some ⟨w.drew.heap.size, 0, none⟩) (sLen + new.length) newCap) (w.drew.alloc (.cells (old ++ cells ++ rest) e)) := by
      intro base sLen sCap old hv hb hcap hold
      obtain ⟨cells, hc1, hc2, hc3⟩ := hcellsD
      have hinfD : (typeInfo e).run P w.drew = .ok inf w.drew := by
       obtain ⟨i, hi, _⟩ := ht.run_bytes w.drew
       have h1 := hinf
       simp only [typeInfo, Sem.run_bind, run_program, Result.andThen_ok] at h1 hi ⊢
       cases hp : P.info? e with
       | none => rw [hp] at h1; simp at h1
       | some i' => rw [hp] at h1; simp at h1; rw [h1]; rfl
      have hmax : IntKind.i64.max = 9223372036854775807 := by decide
      have hnc := qT (n := sLen + new.length) (c := sCap) (by omega)
      have hmul : Builtin.nextslicecap (sLen + new.length) sCap * inf.bytes ≤ 2 ^ 37 * 256 := by
       rw [hinfb]; exact Nat.mul_le_mul (by omega) hby
      refine ⟨cells, Builtin.zeroCells (mkV ei.agg (ei.zero.map gH)).cells ((Question.appendCap (sLen + new.length) sCap e).cut (w.tape w.drawn (.appendCap (sLen + new.length) sCap e)) - (sLen + new.length)),
       (Question.appendCap (sLen + new.length) sCap e).cut (w.tape w.drawn (.appendCap (sLen + new.length) sCap e)), by simp [Question.cut], ?_, hc2, hc3, ?_⟩
      ·rw [j3]
       have := congrArg List.length (ip ht)
       simp [ht.zsz] at this
       rw [this]
      ·subst hv
       unfold Builtin.append_
       simp only [List.getElem?_toArray, List.getElem?_cons_zero, List.getElem?_cons_succ, Sem.run_bind, hu, hu2, hsize, Result.andThen_ok, Sem.run_pure];rw [if_neg (by simp)];simp only [Sem.run_bind, hlenx, Result.andThen_ok];rw [if_neg hcap];simp only [Sem.run_bind, hinf, Result.andThen_ok];rw [if_neg (by rw [hmax]; omega)];simp only [Sem.run_bind, hinf, Result.andThen_ok];rw [if_neg (by omega)]
       have hforced : (Question.appendCap (sLen + new.length) sCap e).forced = false := rfl
       simp only [Sem.run_bind, run_choose, hforced, Bool.false_eq_true, if_false, Result.andThen_ok]
       change Result.andThen (Sem.run P _ w.drew) _ = _
       simp only [hinfD, Result.andThen_ok, run_askRoom, hold];rw [if_pos (by simp)];simp only [hc1, Result.andThen_ok, ht.run_zero, newRow, Sem.run_bind, run_newObj, Sem.run_pure]
       rfl
     -- it fits: the row is written
     have fits : ∀ (b o sLen sCap : Nat) (w1 : World), vs = .slice (some ⟨b, o, none⟩) sLen sCap → sLen + new.length ≤ sCap →
       (storeCells ⟨b, o + sLen * ei.size, none⟩ cells.toList).run P w = .ok () w1 →
       (Builtin.append_ #[t, t2] tt #[vs, vx]).run P w = .ok (.slice (some ⟨b, o, none⟩) (sLen + new.length) sCap) w1 := by
      intro b o sLen sCap w1 hv hcap hst
      subst hv
      unfold Builtin.append_
      simp only [List.getElem?_toArray, List.getElem?_cons_zero, List.getElem?_cons_succ, Sem.run_bind, hu, hu2, hsize, Result.andThen_ok, Sem.run_pure];rw [if_neg (by simp)];simp only [Sem.run_bind, hlenx, Result.andThen_ok];rw [if_pos hcap];simp only [Sem.run_bind];rw [if_pos (by simp)];simp only [hcells, Result.andThen_ok, ga, hst, Sem.run_pure]
     have hel : ∀ (l : List (List DC)), (∀ e ∈ l, e.length = ei.size) → ∀ e ∈ l, e.length = ei.size := fun _ h => h
     split at h
     ·-- a nil slice
      split at h
      ·rename_i hn
       injection h with h1 h2 h3
       subst h1; subst h2; subst h3
       have hv : vs = .slice none 0 0 := hvs
       obtain ⟨cells', rest, newCap, h1, h2, h3, h4, h5⟩ := grow none 0 0 #[] hv (by omega) (by omega) (by rw [hv]; rfl)
       have hrel := pm (w := w.drew) (X := Mut X μ st.σ) (μ := μ) (sz := ei.size) (es := []) (new := new) (old := #[]) (rest := rest) (by simp) h3 (by simp) hnl
        (fun i j d hd => by simp [at2] at hd) h4
       refine ⟨_, _, upm μ d w.drew.heap.size, h5, ?_⟩
       have := hsD.alloc (d := d) (u := .slice (some ⟨w.drew.heap.size, 0, none⟩) (0 + new.length) newCap) (v := .val (.one (.own d ei.size 0 new.length))) (E := e) hno hrel rfl
        ⟨newCap, _, e, (0, 0), by simp [upm], by omega, by rw [show upm μ d w.drew.heap.size d = w.drew.heap.size by simp [upm]]; exact dq _ _, by
         simp only [Array.empty_append, Array.size_append, h2, h3, Nat.zero_add]
         rw [← Nat.add_mul]; exact Nat.mul_le_mul_right _ (by omega)⟩
       have e1 : (fun k => if some k = (none : Option Nat) then none else st.σ k) = st.σ := by funext k; simp
       simpa [St.new, St.app, OO.noOwn, e1] using this
      ·cases h
     ·rename_i id' sz' len
      split at h
      ·rename_i sz'' es' hes'
       split at h
       ·rename_i hc
        obtain ⟨hc1, hc2, hc3, hc4⟩ := hc
        injection h with h1 h2 h3
        subst h1; subst h3; subst hc2; subst hc3; subst h2; subst hc1
        have hcl : cells.toList.length = cells.size := Array.length_toList
        have hne : d ≠ id' := by
         intro e; subst e
         simp [SV.noRef, VV.noRef, SC.noRef] at hsn
        obtain ⟨cap, cs, E, fr, hv, hle, hh, hcapsz⟩ := hvs
        obtain ⟨hB, cs0, E0, hh0, hl0, hlen0, hrel0⟩ := hs.objs _ _ hes'
        rw [hh] at hh0; cases hh0;simp only [Nat.zero_mul, Nat.zero_add] at hv hcapsz
        by_cases hcap : es'.length + new.length ≤ cap
        ·-- in place
         have hmul : (es'.length + new.length) * ei.size ≤ cap * ei.size := Nat.mul_le_mul_right _ hcap
         rw [Nat.add_mul] at hmul
         have hone : ∀ v ∈ cells.toList, v.oneCell' = true := by
          intro v hvm
          obtain ⟨k, hk⟩ := List.mem_iff_getElem?.1 hvm
          have hklt : k < cells.size := by have := (List.getElem?_eq_some_iff.1 hk).1; simpa using this
          have hs0 : 0 < ei.size := by omega
          have hi : k / ei.size < new.length := by rw [Nat.div_lt_iff_lt_mul hs0]; omega
          have hj : k % ei.size < ei.size := Nat.mod_lt _ hs0
          have hll := hnl _ (List.getElem_mem hi)
          have hat : at2 new (k / ei.size) (k % ei.size) = some ((new[k / ei.size])[k % ei.size]'(by omega)) := by
           unfold at2; rw [List.getElem?_eq_getElem hi]; simp
          obtain ⟨v', h1, h2⟩ := hcrel _ _ _ hat
          rw [Nat.div_add_mod' k ei.size] at h1;rw [Array.getElem?_toList, h1] at hk; cases hk;exact h2.oneCell
         have hst := eR (P := P) cells.toList hh (0 + es'.length * ei.size) 0 (by omega) hone
         simp only [Nat.zero_add, Nat.add_zero] at hst
         have hrun := fits _ 0 _ _ _ hv hcap (by simpa using hst)
         have hrelA : RelO w (Mut X μ st.σ) μ (spl cs (es'.length * ei.size) cells.toList) (.arr ei.size (es' ++ new)) := by
          refine ⟨by rw [cb, List.length_append, Nat.add_mul]; omega, fun i el hel => ?_, fun i j dd hd => ?_⟩
          ·rcases List.mem_append.1 (List.mem_of_getElem? hel) with hm | hm
           ·obtain ⟨k, hk⟩ := List.mem_iff_getElem?.1 hm; exact hlen0 _ _ hk
           ·exact hnl _ hm
          ·rw [iM _ _ _ _ (by omega), hcl]
           by_cases hi : i < es'.length
           ·have hat : at2 es' i j = some dd := by unfold at2 at hd ⊢; rwa [List.getElem?_append_left hi] at hd
            obtain ⟨v, h1, h2⟩ := hrel0 _ _ _ hat
            have hj : j < ei.size := by
             unfold at2 at hat
             rw [List.getElem?_eq_getElem hi] at hat
             have := (List.getElem?_eq_some_iff.1 (show (es'[i])[j]? = some dd from hat)).1
             rw [hlen0 _ _ (List.getElem?_eq_getElem hi)] at this; exact this
            have hm : i * ei.size + ei.size ≤ es'.length * ei.size := by rw [← Nat.succ_mul]; exact Nat.mul_le_mul_right _ hi
            exact ⟨v, by rw [if_neg (by omega)]; exact h1, h2⟩
           ·have hat : at2 new (i - es'.length) j = some dd := by unfold at2 at hd ⊢; rwa [List.getElem?_append_right (by omega)] at hd
            obtain ⟨v, h1, h2⟩ := hcrel _ _ _ hat
            have hlt := (Array.getElem?_eq_some_iff.1 h1).1
            have e1 : i * ei.size = es'.length * ei.size + (i - es'.length) * ei.size := by rw [← Nat.add_mul]; congr 1; omega
            refine ⟨v, ?_, h2⟩;rw [if_pos (by omega), Array.getElem?_toList, ← h1]
            congr 1; omega
         have s1 := hs.upd (o' := .arr ei.size (es' ++ new)) hes' hh (cb _ _ _) hrelA (rb' := st.rb) (fun k hk => hk) (fun l hl => by cases hl)
         have s2 := s1.move (id := id') (d := d) (sz := ei.size) (es := es' ++ new) (by simp [bp]) (yG hno id' _ rfl) hne
         have s3 := s2.put (dst := some d) (u := .slice (some ⟨μ id', 0, none⟩) (es'.length + new.length) cap) (v := .val (.one (.own d ei.size 0 (es' ++ new).length))) ⟨cap, _, E, (0, 0),
          by simp [upm], by rw [List.length_append]; exact hcap, by rw [show upm μ d (μ id') d = μ id' by simp [upm]]; exact dP hh _, by rw [cb]; simpa using hcapsz⟩
         refine ⟨_, _, upm μ d (μ id'), hrun, ?_⟩
         have e1 : jc (bp st.σ id' (.arr ei.size (es' ++ new))) id' = (fun k => if some k = some id' then none else st.σ k) := by
          funext k
          simp only [jc, bp, Option.some.injEq]
          split <;> simp_all
         simp only [e1] at s3;exact s3
        ·-- a new row
         have hhD : w.drew.heap[μ id']? = some (.cells cs E (0, 0)) := hh
         have hold := dy (P := P) hhD 0 (es'.length * ei.size) (by omega)
         obtain ⟨cells', rest, newCap, h1, h2, h3, h4, h5⟩ := grow _ _ _ _ hv (by omega) hcap (by rw [hv]; exact hold)
         have sd := (hsD.del id')
         have hM : ∀ k, k < w.drew.heap.size → Mut X μ (jc st.σ id') k → Mut X μ st.σ k := by
          intro k _ hm
          rcases hm with hm | ⟨j, oj, g1, g2⟩
          ·exact Or.inl hm
          ·simp only [jc] at g1
           split at g1
           ·cases g1
           ·exact Or.inr ⟨j, oj, g1, g2⟩
         have hrel := pm (w := w.drew) (X := Mut X μ (jc st.σ id')) (μ := μ) (sz := ei.size) (es := es') (new := new) (old := cs.extract 0 (0 + es'.length * ei.size)) (rest := rest)
          (by simp; omega) h3 (fun e he => by obtain ⟨k, hk⟩ := List.mem_iff_getElem?.1 he; exact hlen0 _ _ hk) hnl
          (fun i j dd hd => by
           obtain ⟨v, g1, g2⟩ := hrel0 i j dd hd
           refine ⟨v, ?_, RdC.mono (w := w) (w' := w.drew) hM (fun _ _ _ => rfl) g2⟩
           have hi := o5 hd
           have hj : j < ei.size := by
            unfold at2 at hd
            rw [List.getElem?_eq_getElem hi] at hd
            have := (List.getElem?_eq_some_iff.1 (show (es'[i])[j]? = some dd from hd)).1
            rw [hlen0 _ _ (List.getElem?_eq_getElem hi)] at this; exact this
           have hm : i * ei.size + ei.size ≤ es'.length * ei.size := by rw [← Nat.succ_mul]; exact Nat.mul_le_mul_right _ hi
           rw [Array.getElem?_extract, if_pos (by omega), ← g1]
           congr 1; omega)
          (fun i j dd hd => by obtain ⟨v, g1, g2⟩ := h4 i j dd hd; exact ⟨v, g1, RdC.mono hM (fun _ _ _ => rfl) g2⟩)
         refine ⟨_, _, upm μ d w.drew.heap.size, h5, ?_⟩
         have := sd.alloc (d := d) (u := .slice (some ⟨w.drew.heap.size, 0, none⟩) (es'.length + new.length) newCap) (v := .val (.one (.own d ei.size 0 (es' ++ new).length))) (E := e) (yH hno id') hrel rfl
          ⟨newCap, _, e, (0, 0), by simp [upm], by rw [List.length_append]; omega, by rw [show upm μ d w.drew.heap.size d = w.drew.heap.size by simp [upm]]; exact dq _ _, by
           simp only [Array.size_append, h2, h3, Nat.zero_add, Array.size_extract]
           have e2 : min (es'.length * ei.size) cs.size - 0 = es'.length * ei.size := by omega
           rw [e2, ← Nat.add_mul, ← Nat.add_mul]; exact Nat.mul_le_mul_right _ (by omega)⟩
         have e1 : (fun k => if some k = some id' then none else st.σ k) = jc st.σ id' := by
          funext k; simp [jc]
         have e2 : st.app d (some id') (.arr ei.size (es' ++ new)) (.val (.one (.own d ei.size 0 (es' ++ new).length))) = St.new { st with σ := jc st.σ id' } d (.arr ei.size (es' ++ new)) (.val (.one (.own d ei.size 0 (es' ++ new).length))) := by
          simp only [St.new, St.app, OO.noOwn, e1, if_true]
         rw [e2];exact this
       ·cases h
      ·cases h
     ·cases h
    ·cases h
   ·cases h
  ·cases h
 ·cases h

end
end Go.Proofs.YtfichkokppbipaaGreatDoor
