/- Part of a proof that a Go function answers true for every input. No condition. -/
import Derived.Lib.TrailingZeros
import Derived.Below
import Derived.Orders
import Derived.KernelRfl
import Derived.IntWalk
set_option linter.unusedVariables false
set_option linter.unusedSimpArgs false
set_option linter.unusedSectionVars false
/- The tables of numbers that this program reads, by the number of their block. No condition. -/
namespace Go.Proofs.YtnoildlijhapaaaGreatDoor
def qt : List Int := [1, 10, 100, 1000, 10000, 100000, 1000000, 10000000, 100000000, 1000000000, 10000000000, 100000000000, 1000000000000, 10000000000000, 100000000000000, 1000000000000000, 10000000000000000, 100000000000000000, 1000000000000000000, 10000000000000000000]
def oc : List (Nat × List Nat) := [(0, Go.Lib.deBruijn32tab), (2, []), (4, Go.Lib.deBruijn64tab)]
end Go.Proofs.YtnoildlijhapaaaGreatDoor

/- Words of 32 bits and the numbers that they stand for. No condition. -/
namespace Go.Proofs.YtnoildlijhapaaaGreatDoor

def wv : List Nat -> Nat
 | [] => 0
 | x :: xs => x + 4294967296 * wv xs
def wOK (ws : List Nat) : Prop := ∀ x ∈ ws, x < 4294967296
def a7 : Nat -> Nat -> List Nat
 | 0, _ => []
 | k + 1, n => n % 4294967296 :: a7 k (n / 4294967296)
def dP (ws : List Nat) : List Nat := (ws.reverse.dropWhile (· == 0)).reverse
theorem iL (ws : List Nat) : dP (ws ++ [0]) = dP ws := by simp [dP]
theorem jB (ws : List Nat) {x : Nat} (h : x ≠ 0) : dP (ws ++ [x]) = ws ++ [x] := by simp [dP, h]
theorem wOK.cons {x : Nat} {xs : List Nat} (h : wOK (x :: xs)) : x < 4294967296 /\ wOK xs := ⟨h x (by simp), fun y hy => h y (by simp [hy])⟩
theorem wOK.append {a b : List Nat} (h : wOK a) (k : wOK b) : wOK (a ++ b) := fun x hx => by
 rcases List.mem_append.1 hx with h1 | h1
 ·exact h x h1
 ·exact k x h1
theorem wOK.one {x : Nat} (h : x < 4294967296) : wOK [x] := fun y hy => by simp at hy; omega
theorem wOK.nil : wOK [] := fun y hy => by simp at hy
theorem wOK.take {a : List Nat} (h : wOK a) (k : Nat) : wOK (a.take k) := fun x hx => h x (List.mem_of_mem_take hx)
theorem wOK.drop {a : List Nat} (h : wOK a) (k : Nat) : wOK (a.drop k) := fun x hx => h x (List.mem_of_mem_drop hx)
theorem wOK.set {a : List Nat} (h : wOK a) (k : Nat) {y : Nat} (hy : y < 4294967296) : wOK (a.set k y) := fun x hx => by
 rcases List.mem_or_eq_of_mem_set hx with h1 | h1
 ·exact h x h1
 ·omega
theorem wOK.get {a : List Nat} (h : wOK a) {k : Nat} (hk : k < a.length) : a[k] < 4294967296 := h _ (List.getElem_mem hk)
theorem wOK.rep0 (k : Nat) : wOK (List.replicate k 0) := fun x hx => by rw [(List.mem_replicate.1 hx).2]; decide

theorem jf (a b : List Nat) : wv (a ++ b) = wv a + 4294967296 ^ a.length * wv b := by
 induction a with
 | nil => simp [wv]
 | cons x xs ih => simp only [List.cons_append, wv, ih, List.length_cons, Nat.pow_succ]; grind
theorem kG (k : Nat) : wv (List.replicate k 0) = 0 := by
 induction k with
 | zero => rfl
 | succ k ih => simp [List.replicate_succ, wv, ih]
theorem pow_pos (k : Nat) : 0 < 4294967296 ^ k := Nat.pow_pos (by decide)
theorem d7 {a : List Nat} (h : wOK a) : wv a < 4294967296 ^ a.length := by
 induction a with
 | nil => simp [wv]
 | cons x xs ih =>
  obtain ⟨h1, h2⟩ := h.cons
  have := ih h2
  simp only [wv, List.length_cons, Nat.pow_succ]
  have h3 : 4294967296 * wv xs + 4294967296 <= 4294967296 * 4294967296 ^ xs.length := by
   rw [<- Nat.mul_succ]; exact Nat.mul_le_mul_left _ this
  rw [Nat.mul_comm (4294967296 ^ xs.length)]
  omega
theorem aE (k n : Nat) : (a7 k n).length = k := by
 induction k generalizing n with
 | zero => rfl
 | succ k ih => simp [a7, ih]
theorem bU (k n : Nat) : wOK (a7 k n) := by
 induction k generalizing n with
 | zero => exact wOK.nil
 | succ k ih =>
  intro x hx
  simp only [a7, List.mem_cons] at hx
  rcases hx with rfl | hx
  ·exact Nat.mod_lt _ (by decide)
  ·exact ih _ x hx
theorem cb (k n : Nat) : wv (a7 k n) = n % 4294967296 ^ k := by
 induction k generalizing n with
 | zero => simp [a7, wv, Nat.mod_one]
 | succ k ih =>
  simp only [a7, wv, ih, Nat.pow_succ];rw [Nat.mul_comm (4294967296 ^ k) 4294967296, Nat.mod_mul]
theorem kH {a : List Nat} (h : wOK a) : a7 a.length (wv a) = a := by
 induction a with
 | nil => rfl
 | cons x xs ih =>
  obtain ⟨h1, h2⟩ := h.cons
  simp only [List.length_cons, a7, wv]
  have e1 : (x + 4294967296 * wv xs) % 4294967296 = x := by rw [Nat.add_mul_mod_self_left, Nat.mod_eq_of_lt h1]
  have e2 : (x + 4294967296 * wv xs) / 4294967296 = wv xs := by rw [Nat.add_mul_div_left _ _ (by decide), Nat.div_eq_of_lt h1, Nat.zero_add]
  rw [e1, e2, ih h2]
theorem jh {a : List Nat} {k n : Nat} (h : wOK a) (hl : a.length = k) (hv : wv a = n) : a = a7 k n := by subst hl hv; exact (kH h).symm
theorem ln {a : List Nat} (h : wOK a) (i : Nat) : a.getD i 0 = wv a / 4294967296 ^ i % 4294967296 := by
 induction a generalizing i with
 | nil => simp [wv]
 | cons x xs ih =>
  obtain ⟨h1, h2⟩ := h.cons
  cases i with
  | zero =>
   simp only [List.getD_cons_zero, wv, Nat.pow_zero, Nat.div_one];rw [Nat.add_mul_mod_self_left, Nat.mod_eq_of_lt h1]
  | succ i =>
   simp only [List.getD_cons_succ, wv, ih h2];rw [Nat.pow_succ, Nat.mul_comm (4294967296 ^ i) 4294967296, <- Nat.div_div_eq_div_mul, Nat.add_mul_div_left _ _ (by decide), Nat.div_eq_of_lt h1, Nat.zero_add]
theorem Fo {a : List Nat} {i : Nat} (hi : i < a.length) (y : Nat) : wv (a.set i y) + a[i] * 4294967296 ^ i = wv a + y * 4294967296 ^ i := by
 induction a generalizing i with
 | nil => simp at hi
 | cons x xs ih =>
  cases i with
  | zero => simp only [List.set_cons_zero, wv, List.getElem_cons_zero, Nat.pow_zero]; omega
  | succ i =>
   have hi' : i < xs.length := by simpa using hi
   simp only [List.set_cons_succ, wv, List.getElem_cons_succ, Nat.pow_succ]
   have := ih hi'
   grind
theorem jA {a : List Nat} {i : Nat} (hi : i < a.length) : wv (a.take (i + 1)) = wv (a.take i) + a[i] * 4294967296 ^ i := by
 rw [List.take_add_one, List.getElem?_eq_getElem hi];simp only [Option.toList_some, jf, wv];rw [List.length_take, Nat.min_eq_left (by omega)]
 grind
theorem xq (a : List Nat) (x : Nat) : wv (a ++ [x]) = wv a + x * 4294967296 ^ a.length := by
 rw [jf]; simp only [wv]; grind

theorem pH (ws : List Nat) : wv (dP ws) = wv ws := by
 induction hn : ws.length generalizing ws with
 | zero => have := List.length_eq_zero_iff.1 hn; subst this; rfl
 | succ n ih =>
  rcases List.eq_nil_or_concat ws with rfl | ⟨vs, x, rfl⟩
  ·rfl
  ·rw [List.concat_eq_append] at hn ⊢
   by_cases hx : x = 0
   ·subst hx; rw [iL, ih vs (by simpa using hn), jf]; simp [wv]
   ·rw [jB _ hx]
theorem ur {ws : List Nat} (h : wOK ws) : wOK (dP ws) := by
 intro x hx
 unfold dP at hx
 have := (List.dropWhile_sublist _).subset (List.mem_reverse.1 hx)
 exact h x (List.mem_reverse.1 this)
theorem zY (ws : List Nat) : (dP ws).length <= ws.length := by
 unfold dP
 rw [List.length_reverse];exact Nat.le_trans (List.dropWhile_sublist _).length_le (by simp)
def kf (ws : List Nat) : Prop := ∀ h : ws ≠ [], ws.getLast h ≠ 0
theorem nu (ws : List Nat) : kf (dP ws) := by
 induction hn : ws.length generalizing ws with
 | zero => have := List.length_eq_zero_iff.1 hn; subst this; intro h; exact absurd rfl h
 | succ n ih =>
  rcases List.eq_nil_or_concat ws with rfl | ⟨vs, x, rfl⟩
  ·intro h; exact absurd rfl h
  ·rw [List.concat_eq_append] at hn ⊢
   by_cases hx : x = 0
   ·subst hx; rw [iL]; exact ih vs (by simpa using hn)
   ·rw [jB _ hx]; intro h; simpa using hx
def wof (n : Nat) : List Nat := dP (a7 (n + 1) n)
theorem Gj (n : Nat) : n < 4294967296 ^ (n + 1) := Nat.lt_of_lt_of_le (Nat.lt_pow_self (by decide)) (Nat.pow_le_pow_right (by decide) (by omega))
theorem aF (n : Nat) : wv (wof n) = n := by
 unfold wof
 rw [pH, cb, Nat.mod_eq_of_lt (Gj n)]
theorem aw (n : Nat) : wOK (wof n) := ur (bU _ _)
theorem ce (n : Nat) : kf (wof n) := nu _
theorem l9 {ws : List Nat} (h : kf ws) (hne : ws ≠ []) : 4294967296 ^ (ws.length - 1) <= wv ws := by
 rcases List.eq_nil_or_concat ws with rfl | ⟨vs, x, rfl⟩
 ·exact absurd rfl hne
 ·rw [List.concat_eq_append] at h ⊢
  have := h (by simp)
  rw [List.getLast_concat] at this;rw [xq, List.length_append, List.length_singleton, Nat.add_sub_cancel]
  have : 1 * 4294967296 ^ vs.length <= x * 4294967296 ^ vs.length := Nat.mul_le_mul_right _ (by omega)
  omega
theorem ut {a b : List Nat} (ha : wOK a) (hb : wOK b) (ta : kf a) (tb : kf b) (h : wv a = wv b) : a = b := by
 have key : ∀ {a b : List Nat}, wOK a -> kf b -> wv a = wv b -> b.length <= a.length := by
  intro a b ha tb h
  by_cases hb : b = []
  ·simp [hb]
  ·have h1 := l9 tb hb
   have h2 := d7 ha
   rw [h] at h2
   have : 4294967296 ^ (b.length - 1) < 4294967296 ^ a.length := by omega
   have := (Nat.pow_lt_pow_iff_right (by decide : 1 < 4294967296)).1 this
   have : b.length ≠ 0 := by simpa using hb
   omega
 have h1 := key ha tb h
 have h2 := key hb ta h.symm
 have hl : a.length = b.length := by omega
 rw [<- kH ha, <- kH hb, hl, h]
theorem ip {ws : List Nat} (h : wOK ws) : dP ws = wof (wv ws) :=
 ut (ur h) (aw _) (nu _) (ce _) (by rw [pH, aF])
theorem pB : wof 0 = [] := rfl
theorem ep {n : Nat} : wof n = [] ↔ n = 0 := by
 refine ⟨fun h => ?_, fun h => by subst h; rfl⟩
 have := aF n
 rw [h] at this; exact this.symm
def wl (n : Nat) : Nat := (wof n).length
theorem rX (n : Nat) : n < 4294967296 ^ wl n := by have := d7 (aw n); rw [aF] at this; exact this
theorem EM {n : Nat} (h : n ≠ 0) : 4294967296 ^ (wl n - 1) <= n := by
 have := l9 (ce n) (fun h' => h (ep.1 h'))
 rwa [aF] at this
theorem rD {n k : Nat} (h : n < 4294967296 ^ k) : wl n <= k := by
 by_cases hn : n = 0
 ·subst hn; simp [wl, pB]
 ·have h1 := EM hn
  have : 4294967296 ^ (wl n - 1) < 4294967296 ^ k := by omega
  have := (Nat.pow_lt_pow_iff_right (by decide : 1 < 4294967296)).1 this
  omega
theorem GT {m n : Nat} (h : wl m < wl n) : m < n := by
 have h1 := rX m
 have h2 : n ≠ 0 := by intro h'; subst h'; simp [wl, pB] at h
 have h3 := EM h2
 have : 4294967296 ^ wl m <= 4294967296 ^ (wl n - 1) := Nat.pow_le_pow_right (by decide) (by omega)
 omega
theorem bO {m n : Nat} (h : m <= n) : wl m <= wl n := by
 rcases Nat.lt_or_ge (wl n) (wl m) with h1 | h1
 ·have := GT h1; omega
 ·exact h1
theorem zO (m n : Nat) : wl (m + n) <= max (wl m) (wl n) + 1 := by
 refine rD ?_
 have h1 := rX m
 have h2 := rX n
 have h3 : 4294967296 ^ wl m <= 4294967296 ^ max (wl m) (wl n) := Nat.pow_le_pow_right (by decide) (by omega)
 have h4 : 4294967296 ^ wl n <= 4294967296 ^ max (wl m) (wl n) := Nat.pow_le_pow_right (by decide) (by omega)
 rw [Nat.pow_succ]; show m + n < 4294967296 ^ max (wl m) (wl n) * 4294967296; omega
theorem zN (m n : Nat) : wl (m * n) <= wl m + wl n := by
 refine rD ?_;rw [Nat.pow_add]
 by_cases hn : n = 0
 ·subst hn; rw [Nat.mul_zero]; exact Nat.mul_pos (pow_pos _) (pow_pos _)
 ·calc m * n < 4294967296 ^ wl m * n := Nat.mul_lt_mul_of_pos_right (rX m) (by omega)
   _ <= 4294967296 ^ wl m * 4294967296 ^ wl n := Nat.mul_le_mul_left _ (Nat.le_of_lt (rX n))
end Go.Proofs.YtnoildlijhapaaaGreatDoor

/- Words: differences, products, quotients, as plain laws. No condition. -/
namespace Go.Proofs.YtnoildlijhapaaaGreatDoor

theorem co (a : List Nat) (i : Nat) : wv (a.take (i + 1)) = wv (a.take i) + a.getD i 0 * 4294967296 ^ i := by
 rcases Nat.lt_or_ge i a.length with h | h
 ·rw [jA h, List.getD_eq_getElem?_getD, List.getElem?_eq_getElem h]; rfl
 ·rw [List.take_of_length_le h, List.take_of_length_le (by omega), List.getD_eq_getElem?_getD, List.getElem?_eq_none h]; simp
theorem ik (k n : Nat) : a7 (k + 1) n = a7 k n ++ [n / 4294967296 ^ k % 4294967296] := by
 have h1 : a7 k n ++ [n / 4294967296 ^ k % 4294967296] = a7 (k + 1) (n % 4294967296 ^ (k + 1)) := by
  refine jh ((bU _ _).append (wOK.one (Nat.mod_lt _ (by decide)))) (by simp [aE]) ?_;rw [xq, aE, cb, Nat.pow_succ, Nat.mod_mul, Nat.mul_comm]
 have h2 := kH (bU (k + 1) n)
 rw [aE, cb] at h2;rw [h1, h2]
theorem mh {k m n : Nat} (h : m % 4294967296 ^ k = n % 4294967296 ^ k) : a7 k m = a7 k n := by
 have h2 := kH (bU k m)
 have h3 := kH (bU k n)
 rw [aE, cb] at h2 h3;rw [<- h2, h, h3]
theorem uo (k m n : Nat) : a7 k (m + n * 4294967296 ^ k) = a7 k m := mh (Nat.add_mul_mod_self_right _ _ _)
theorem a8 {a : List Nat} (h : wOK a) (i : Nat) : a.getD i 0 < 4294967296 := by
 rw [List.getD_eq_getElem?_getD]
 rcases Nat.lt_or_ge i a.length with h' | h'
 ·rw [List.getElem?_eq_getElem h']; exact h.get h'
 ·rw [List.getElem?_eq_none h']; decide
theorem dT {a : List Nat} {i : Nat} (h : i < a.length) : a.getD i 0 = a[i] := by
 rw [List.getD_eq_getElem?_getD, List.getElem?_eq_getElem h]; rfl
theorem cg {a : List Nat} (h : wOK a) (i : Nat) : wv (a.take i) < 4294967296 ^ i :=
 Nat.lt_of_lt_of_le (d7 (h.take i)) (Nat.pow_le_pow_right (by decide) (by simp; omega))
theorem jd (a : List Nat) (k : Nat) : wv a = wv (a.take k) + 4294967296 ^ k * wv (a.drop k) := by
 have := jf (a.take k) (a.drop k)
 rw [List.take_append_drop] at this
 rcases Nat.lt_or_ge a.length k with h | h
 ·rw [this, List.drop_eq_nil_of_le (by omega)]; simp [wv]
 ·rw [List.length_take, Nat.min_eq_left h] at this; exact this
theorem iK {a : List Nat} {i : Nat} (hi : i < a.length) (y : Nat) : wv (a.set i y) + a.getD i 0 * 4294967296 ^ i = wv a + y * 4294967296 ^ i := by
 rw [dT hi]; exact Fo hi y
theorem ia (a : List Nat) (i : Nat) : wv (a.drop i) = a.getD i 0 + 4294967296 * wv (a.drop (i + 1)) := by
 rcases Nat.lt_or_ge i a.length with h | h
 ·rw [List.drop_eq_getElem_cons h, dT h]; rfl
 ·rw [List.drop_eq_nil_of_le h, List.drop_eq_nil_of_le (by omega), List.getD_eq_getElem?_getD, List.getElem?_eq_none h]; simp [wv]
theorem l8 {a : List Nat} (h : wOK a) (h0 : wv a = 0) (i : Nat) : a.getD i 0 = 0 := by rw [ln h, h0]; simp
theorem gj (a : List Nat) (i k y : Nat) (hi : i < a.length) : (a.set i y).getD k 0 = if k = i then y else a.getD k 0 := by
 rw [List.getD_eq_getElem?_getD, List.getD_eq_getElem?_getD, List.getElem?_set]
 by_cases h : i = k
 ·subst h; simp [hi]
 ·rw [if_neg h, if_neg (Ne.symm h)]
theorem lE (a : List Nat) (i k : Nat) : (a.drop i).getD k 0 = a.getD (i + k) 0 := by
 rw [List.getD_eq_getElem?_getD, List.getD_eq_getElem?_getD, List.getElem?_drop]
/-! ### Differences -/
def difN (x y : List Nat) (i : Nat) : Nat := 4294967296 ^ i + wv (x.take i) - wv (y.take i)
theorem sj (x y : List Nat) : difN x y 0 = 1 := by simp [difN, wv]
theorem nN (x : List Nat) {y : List Nat} (hy : wOK y) (i : Nat) : difN x y (i + 1) + (y.getD i 0 + 1) * 4294967296 ^ i = (4294967296 + x.getD i 0) * 4294967296 ^ i + difN x y i := by
 unfold difN
 have h1 := cg hy i
 have h2 := cg hy (i + 1)
 rw [co, co] at *;rw [Nat.pow_succ] at *
 grind
theorem sn (x : List Nat) {y : List Nat} (hy : wOK y) (i : Nat) : difN x y (i + 1) / 4294967296 ^ i + y.getD i 0 + 1 = 4294967296 + x.getD i 0 + difN x y i / 4294967296 ^ i := by
 have h := nN x hy i
 have hp := pow_pos i
 have h1 : _ / 4294967296 ^ i = _ / 4294967296 ^ i := congrArg (· / 4294967296 ^ i) h
 rw [Nat.add_mul_div_right _ _ hp, Nat.add_comm (_ * _), Nat.add_mul_div_right _ _ hp] at h1
 omega
theorem qZ {x y : List Nat} (hx : wOK x) (i : Nat) : difN x y i / 4294967296 ^ i <= 1 := by
 unfold difN
 have h1 := cg hx i
 have : (4294967296 ^ i + wv (x.take i) - wv (y.take i)) / 4294967296 ^ i < 2 := by
  rw [Nat.div_lt_iff_lt_mul (pow_pos i)]; omega
 omega
theorem vH {x y : List Nat} (hl : y.length <= x.length) (h : wv y <= wv x) : a7 x.length (difN x y x.length) = a7 x.length (wv x - wv y) := by
 refine mh ?_
 unfold difN
 rw [List.take_of_length_le (Nat.le_refl _), List.take_of_length_le hl, Nat.add_sub_assoc h]
 simp

/-! ### Products -/
structure WTI (a b : List Nat) (i j : Nat) (out : List Nat) (c : Nat) : Prop where
 ok : wOK out
 len : out.length = a.length + b.length
 hi : ∀ k, i + b.length <= k -> out.getD k 0 = 0
 val : wv out + c * 4294967296 ^ (i + j) = wv (a.take i) * wv b + a.getD i 0 * wv (b.take j) * 4294967296 ^ i
 cl : c < 4294967296

theorem WTI.bound {a b : List Nat} (ha : wOK a) (hb : wOK b) {i j : Nat} {out : List Nat} {c : Nat} (h : WTI a b i j out c) :
  a.getD i 0 * b.getD j 0 + out.getD (i + j) 0 + c < 18446744073709551616 := by
 have h1 := a8 ha i
 have h2 := a8 hb j
 have h3 := a8 h.ok (i + j)
 have h4 := h.cl
 have : a.getD i 0 * b.getD j 0 <= 4294967295 * 4294967295 := Nat.mul_le_mul (by omega) (by omega)
 omega
theorem WTI.step {a b : List Nat} {i j : Nat} {out : List Nat} {c : Nat} (h : WTI a b i j out c) (hi : i < a.length) (hj : j < b.length)
  (hB : a.getD i 0 * b.getD j 0 + out.getD (i + j) 0 + c < 18446744073709551616) :
  WTI a b i (j + 1) (out.set (i + j) ((a.getD i 0 * b.getD j 0 + out.getD (i + j) 0 + c) % 4294967296)) ((a.getD i 0 * b.getD j 0 + out.getD (i + j) 0 + c) / 4294967296) := by
 have hlt : i + j < out.length := by rw [h.len]; omega
 have hs := iK hlt ((a.getD i 0 * b.getD j 0 + out.getD (i + j) 0 + c) % 4294967296)
 have hv := h.val
 refine ⟨h.ok.set _ (Nat.mod_lt _ (by decide)), by rw [List.length_set]; exact h.len, fun k hk => ?_, ?_, by omega⟩
 ·rw [gj _ _ _ _ hlt, if_neg (by omega)]; exact h.hi k hk
 ·rw [co, show i + (j + 1) = i + j + 1 from by omega, Nat.pow_succ]
  have hd := Nat.div_add_mod (a.getD i 0 * b.getD j 0 + out.getD (i + j) 0 + c) 4294967296
  generalize (a.getD i 0 * b.getD j 0 + out.getD (i + j) 0 + c) / 4294967296 = q at *;generalize (a.getD i 0 * b.getD j 0 + out.getD (i + j) 0 + c) % 4294967296 = r at *;generalize wv (out.set (i + j) r) = o' at *;rw [Nat.pow_add] at *;generalize 4294967296 ^ i = p at *;generalize 4294967296 ^ j = p' at *
  grind
theorem WTI.row {a b : List Nat} {i : Nat} {out : List Nat} {c : Nat} (h : WTI a b i b.length out c) (hi : i < a.length) :
  WTI a b (i + 1) 0 (out.set (i + b.length) c) 0 := by
 have hlt : i + b.length < out.length := by rw [h.len]; omega
 have hs := iK hlt c
 have h0 := h.hi (i + b.length) (Nat.le_refl _)
 have hv := h.val
 rw [h0] at hs;rw [List.take_of_length_le (Nat.le_refl _)] at hv;refine ⟨h.ok.set _ h.cl, by rw [List.length_set]; exact h.len, fun k hk => ?_, ?_, by decide⟩
 ·rw [gj _ _ _ _ hlt, if_neg (by omega)]; exact h.hi k (by omega)
 ·rw [co];simp only [List.take_zero, wv, Nat.mul_zero, Nat.zero_mul, Nat.add_zero] at *;rw [hs, hv]
  grind
theorem WTI.start (a b : List Nat) : WTI a b 0 0 (List.replicate (a.length + b.length) 0) 0 :=
 ⟨wOK.rep0 _, by simp, fun k _ => l8 (wOK.rep0 _) (kG _) k, by simp [kG, wv], by decide⟩
theorem WTI.fin {a b : List Nat} {out : List Nat} (h : WTI a b a.length 0 out 0) : out = a7 (a.length + b.length) (wv a * wv b) := by
 refine jh h.ok h.len ?_
 have hv := h.val
 simp only [List.take_zero, wv, Nat.mul_zero, Nat.zero_mul, Nat.add_zero, List.take_of_length_le (Nat.le_refl _)] at hv;exact hv

/-! ### Division by a word -/
def shq (a : List Nat) (d i : Nat) : List Nat := List.replicate i 0 ++ a7 (a.length - i) (wv (a.drop i) / d)
theorem Dg (a : List Nat) (d : Nat) {i : Nat} (hi : i <= a.length) : (shq a d i).length = a.length := by simp [shq, aE]; omega
theorem sh_step (a : List Nat) {d : Nat} (hd : 0 < d) (i : Nat) : wv (a.drop i) / d = (wv (a.drop (i + 1)) % d * 4294967296 + a.getD i 0) / d + 4294967296 * (wv (a.drop (i + 1)) / d) /\
  wv (a.drop i) % d = (wv (a.drop (i + 1)) % d * 4294967296 + a.getD i 0) % d := by
 rw [ia]
 have h := Nat.div_add_mod (wv (a.drop (i + 1))) d
 generalize wv (a.drop (i + 1)) / d = q at *;generalize wv (a.drop (i + 1)) % d = r at *;rw [<- h]
 have e : a.getD i 0 + 4294967296 * (d * q + r) = (r * 4294967296 + a.getD i 0) + d * (4294967296 * q) := by grind
 rw [e, Nat.add_mul_div_left _ _ hd, Nat.add_mul_mod_self_left];exact ⟨rfl, rfl⟩
theorem sh_digit {a : List Nat} (ha : wOK a) {d : Nat} (hd : 0 < d) (i : Nat) : (wv (a.drop (i + 1)) % d * 4294967296 + a.getD i 0) / d < 4294967296 := by
 have h1 := a8 ha i
 have h2 := Nat.mod_lt (wv (a.drop (i + 1))) hd
 rw [Nat.div_lt_iff_lt_mul hd]
 have : (wv (a.drop (i + 1)) % d + 1) * 4294967296 <= d * 4294967296 := Nat.mul_le_mul_right _ h2
 rw [Nat.mul_comm 4294967296 d]; omega
theorem Aj {a : List Nat} (ha : wOK a) {d : Nat} (hd : 0 < d) {i : Nat} (hi : i < a.length) :
  (shq a d (i + 1)).set i ((wv (a.drop (i + 1)) % d * 4294967296 + a.getD i 0) / d) = shq a d i := by
 unfold shq
 have e : a.length - i = (a.length - (i + 1)) + 1 := by omega
 rw [e, (sh_step a hd i).1, a7]
 have h := sh_digit ha hd i
 rw [Nat.add_mul_mod_self_left, Nat.mod_eq_of_lt h, Nat.add_mul_div_left _ _ (by decide), Nat.div_eq_of_lt h, Nat.zero_add];rw [List.replicate_succ', List.append_assoc, List.set_append_right _ _ (by simp)]
 simp

/-! ### Bits moved up -/
theorem pS {a : List Nat} (ha : wOK a) (n : Nat) (i : Nat) :
  wv (a.take (i + 1)) * 2 ^ n / 4294967296 ^ i = wv (a.take i) * 2 ^ n / 4294967296 ^ i + a.getD i 0 * 2 ^ n /\ wv (a.take i) * 2 ^ n / 4294967296 ^ i < 2 ^ n := by
 refine ⟨?_, ?_⟩
 ·rw [co]
  have : (wv (a.take i) + a.getD i 0 * 4294967296 ^ i) * 2 ^ n = wv (a.take i) * 2 ^ n + (a.getD i 0 * 2 ^ n) * 4294967296 ^ i := by grind
  rw [this, Nat.add_mul_div_right _ _ (pow_pos i)]
 ·rw [Nat.div_lt_iff_lt_mul (pow_pos i), Nat.mul_comm (2 ^ n)];exact Nat.mul_lt_mul_of_pos_right (cg ha i) (Nat.two_pow_pos n)

theorem Ak {a : List Nat} (ha : wOK a) {n : Nat} (hn : n <= 31) (i : Nat) : wv (a.take i) * 2 ^ n < 4294967296 ^ (i + 1) := by
 have h1 := cg ha i
 have h2 : 2 ^ n <= 4294967296 := Nat.le_trans (Nat.pow_le_pow_right (by decide) hn) (by decide)
 have h3 : wv (a.take i) * 2 ^ n <= wv (a.take i) * 4294967296 := Nat.mul_le_mul_left _ h2
 have h4 : wv (a.take i) * 4294967296 < 4294967296 ^ i * 4294967296 := Nat.mul_lt_mul_of_pos_right h1 (by decide)
 rw [Nat.pow_succ]; omega
theorem ux {a : List Nat} (ha : wOK a) {n : Nat} (hn : n <= 31) {i : Nat} (hi : i < a.length) :
  (a7 (a.length + 1) (wv (a.take i) * 2 ^ n)).getD i 0 = wv (a.take i) * 2 ^ n / 4294967296 ^ i /\ (a7 (a.length + 1) (wv (a.take i) * 2 ^ n)).getD (i + 1) 0 = 0 /\
   wv (a7 (a.length + 1) (wv (a.take i) * 2 ^ n)) = wv (a.take i) * 2 ^ n := by
 have h1 := Ak ha hn i
 have h2 : 4294967296 ^ (i + 1) <= 4294967296 ^ (a.length + 1) := Nat.pow_le_pow_right (by decide) (by omega)
 have h3 := (pS ha n i).2
 have h4 : 2 ^ n <= 4294967296 := Nat.le_trans (Nat.pow_le_pow_right (by decide) hn) (by decide)
 have hv : wv (a7 (a.length + 1) (wv (a.take i) * 2 ^ n)) = wv (a.take i) * 2 ^ n := by rw [cb, Nat.mod_eq_of_lt (by omega)]
 refine ⟨?_, ?_, hv⟩
 ·rw [ln (bU _ _), hv, Nat.mod_eq_of_lt (by omega)]
 ·rw [ln (bU _ _), hv, Nat.div_eq_of_lt h1]
theorem Dh {a : List Nat} (ha : wOK a) {n : Nat} (hn : n <= 31) {i : Nat} (hi : i < a.length) :
  ((a7 (a.length + 1) (wv (a.take i) * 2 ^ n)).set i (wv (a.take i) * 2 ^ n / 4294967296 ^ i + a.getD i 0 * 2 ^ n % 4294967296)).set (i + 1) (a.getD i 0 * 2 ^ n / 4294967296) = a7 (a.length + 1) (wv (a.take (i + 1)) * 2 ^ n) /\
   wv (a.take i) * 2 ^ n / 4294967296 ^ i + a.getD i 0 * 2 ^ n % 4294967296 < 4294967296 := by
 obtain ⟨h1, h2, h3⟩ := ux ha hn hi
 have hd : a.getD i 0 * 2 ^ n % 4294967296 % 2 ^ n = 0 := by
  have : 4294967296 = 2 ^ n * 2 ^ (32 - n) := by rw [<- Nat.pow_add, show n + (32 - n) = 32 from by omega]
  rw [this, Nat.mul_comm (a.getD i 0), Nat.mul_mod_mul_left, Nat.mul_mod_right]
 have hlow : a.getD i 0 * 2 ^ n % 4294967296 < 4294967296 := Nat.mod_lt _ (by decide)
 have hsm := (pS ha n i).2
 have hfit : wv (a.take i) * 2 ^ n / 4294967296 ^ i + a.getD i 0 * 2 ^ n % 4294967296 < 4294967296 := by
  have e : 4294967296 = 2 ^ n * 2 ^ (32 - n) := by rw [<- Nat.pow_add, show n + (32 - n) = 32 from by omega]
  obtain ⟨q, hq⟩ := Nat.dvd_of_mod_eq_zero hd
  rw [hq] at hlow ⊢
  have h5 : q < 2 ^ (32 - n) := Nat.lt_of_mul_lt_mul_left (a := 2 ^ n) (by rw [<- e]; exact hlow)
  have h6 : 2 ^ n * (q + 1) <= 2 ^ n * 2 ^ (32 - n) := Nat.mul_le_mul_left _ h5
  rw [<- e, Nat.mul_succ] at h6
  omega
 refine ⟨?_, hfit⟩
 have hhi : a.getD i 0 * 2 ^ n / 4294967296 < 4294967296 := by
  have := a8 ha i
  have h4 : 2 ^ n <= 4294967296 := Nat.le_trans (Nat.pow_le_pow_right (by decide) hn) (by decide)
  rw [Nat.div_lt_iff_lt_mul (by decide)]
  calc a.getD i 0 * 2 ^ n <= a.getD i 0 * 4294967296 := Nat.mul_le_mul_left _ h4
   _ < 4294967296 * 4294967296 := Nat.mul_lt_mul_of_pos_right this (by decide)
 have hl : (a7 (a.length + 1) (wv (a.take i) * 2 ^ n)).length = a.length + 1 := aE _ _
 refine jh (((bU _ _).set _ hfit).set _ hhi) (by simp [aE]) ?_
 have s1 := iK (a := a7 (a.length + 1) (wv (a.take i) * 2 ^ n)) (i := i) (by omega) (wv (a.take i) * 2 ^ n / 4294967296 ^ i + a.getD i 0 * 2 ^ n % 4294967296)
 have s2 := iK (a := (a7 (a.length + 1) (wv (a.take i) * 2 ^ n)).set i (wv (a.take i) * 2 ^ n / 4294967296 ^ i + a.getD i 0 * 2 ^ n % 4294967296)) (i := i + 1) (by rw [List.length_set]; omega) (a.getD i 0 * 2 ^ n / 4294967296)
 rw [gj _ _ _ _ (by omega), if_neg (by omega), h2] at s2;rw [h1, h3] at s1;rw [co]
 have hdm := Nat.div_add_mod (a.getD i 0 * 2 ^ n) 4294967296
 rw [Nat.pow_succ] at s2
 have e3 : (wv (a.take i) + a.getD i 0 * 4294967296 ^ i) * 2 ^ n = wv (a.take i) * 2 ^ n + (a.getD i 0 * 2 ^ n) * 4294967296 ^ i := by grind
 simp only [Nat.zero_mul, Nat.add_zero] at s2;rw [e3, s2];generalize a.getD i 0 * 2 ^ n / 4294967296 = hi' at *;generalize a.getD i 0 * 2 ^ n % 4294967296 = lo' at *;generalize a.getD i 0 * 2 ^ n = t at *
 have e4 : t * 4294967296 ^ i = hi' * (4294967296 ^ i * 4294967296) + lo' * 4294967296 ^ i := by rw [<- hdm]; grind
 rw [e4];rw [Nat.add_mul] at s1
 omega

/-! ### Long division: the guess of a digit -/
theorem wP {U V g rest top v1 v2 u2 w : Nat} (hV : (v1 * 4294967296 + v2) * w <= V) (hU : U < (top * 4294967296 + u2 + 1) * w)
  (he : g * v1 + rest = top) (h : rest * 4294967296 + u2 < g * v2) : U < g * V := by
 have h1 : g * ((v1 * 4294967296 + v2) * w) <= g * V := Nat.mul_le_mul_left _ hV
 have h2 : (top * 4294967296 + u2 + 1) * w <= g * ((v1 * 4294967296 + v2) * w) := by
  rw [<- Nat.mul_assoc];refine Nat.mul_le_mul_right _ ?_
  subst he
  have : g * (v1 * 4294967296 + v2) = g * v1 * 4294967296 + g * v2 := by grind
  rw [this]; omega
 omega
theorem qp {U V g rest top v1 v2 u2 w : Nat} (hV : (v1 * 4294967296 + v2) * w <= V) (hV' : V < (v1 * 4294967296 + v2 + 1) * w) (hU : (top * 4294967296 + u2) * w <= U)
  (he : g * v1 + rest = top) (hg : g < 4294967296) (h1 : 2147483648 <= v1) (h2 : v2 < 4294967296) (h : g * v2 <= rest * 4294967296 + u2 \/ 4294967296 <= rest) : g * V <= U + V := by
 have e : g * (v1 * 4294967296 + v2) <= top * 4294967296 + u2 := by
  have e1 : g * (v1 * 4294967296 + v2) = g * v1 * 4294967296 + g * v2 := by grind
  rw [e1]
  rcases h with h | h
  ·subst he; omega
  ·have : g * v2 <= 4294967296 * 4294967296 := Nat.mul_le_mul (by omega) (by omega)
   subst he
   omega
 have e2 : g * V <= g * ((v1 * 4294967296 + v2 + 1) * w) := Nat.mul_le_mul_left _ (by omega)
 have e3 : g * ((v1 * 4294967296 + v2 + 1) * w) = g * (v1 * 4294967296 + v2) * w + g * w := by grind
 have e4 : g * (v1 * 4294967296 + v2) * w <= (top * 4294967296 + u2) * w := Nat.mul_le_mul_right _ e
 have e5 : g * w <= (v1 * 4294967296 + v2) * w := Nat.mul_le_mul_right _ (by omega)
 omega
end Go.Proofs.YtnoildlijhapaaaGreatDoor

/- Words: long division, as plain laws. No condition. -/
namespace Go.Proofs.YtnoildlijhapaaaGreatDoor

theorem oX {a : List Nat} (h : wOK a) (m : Nat) : wv (a.drop m) = wv a / 4294967296 ^ m := by
 rw [jd a m, Nat.add_mul_div_left _ _ (pow_pos m), Nat.div_eq_of_lt (cg h m), Nat.zero_add]
theorem ul {a : List Nat} (h : wOK a) (m : Nat) : wv (a.take m) = wv a % 4294967296 ^ m := by
 rw [jd a m, Nat.add_mul_mod_self_left, Nat.mod_eq_of_lt (cg h m)]

structure WMS (u v : List Nat) (g j i : Nat) (u' : List Nat) (c b : Nat) : Prop where
 ok : wOK u'
 len : u'.length = u.length
 lo : u'.take j = u.take j
 hi : u'.drop (j + i) = u.drop (j + i)
 val : wv u' + g * wv (v.take i) * 4294967296 ^ j = wv u + (c + b) * 4294967296 ^ (j + i)
 cl : c < 4294967296
 bl : b <= 1
theorem WMS.start {u : List Nat} (hu : wOK u) (v : List Nat) (g j : Nat) : WMS u v g j 0 u 0 0 :=
 ⟨hu, rfl, rfl, rfl, by simp [wv], by decide, by decide⟩
theorem WMS.bound {u v : List Nat} (hv : wOK v) {g j i : Nat} {u' : List Nat} {c b : Nat} (h : WMS u v g j i u' c b) (hg : g < 4294967296) : g * v.getD i 0 + c < 18446744073709551616 := by
 have h1 := a8 hv i
 have h2 := h.cl
 have : g * v.getD i 0 <= 4294967295 * 4294967295 := Nat.mul_le_mul (by omega) (by omega)
 omega
theorem WMS.step {u v : List Nat} (hv : wOK v) {g j i : Nat} {u' : List Nat} {c b : Nat} (h : WMS u v g j i u' c b) (hg : g < 4294967296) (hi : j + i < u.length) :
  WMS u v g j (i + 1) (u'.set (j + i) ((u'.getD (j + i) 0 + 8589934592 - (g * v.getD i 0 + c) % 4294967296 - b) % 4294967296)) ((g * v.getD i 0 + c) / 4294967296)
   (if u'.getD (j + i) 0 < (g * v.getD i 0 + c) % 4294967296 + b then 1 else 0) := by
 have hB := h.bound hv hg
 have hlt : j + i < u'.length := by rw [h.len]; exact hi
 have hx := a8 h.ok (j + i)
 have hs := iK hlt ((u'.getD (j + i) 0 + 8589934592 - (g * v.getD i 0 + c) % 4294967296 - b) % 4294967296)
 have hval := h.val
 have hbl := h.bl
 have hd := Nat.div_add_mod (g * v.getD i 0 + c) 4294967296
 have hr : (g * v.getD i 0 + c) % 4294967296 < 4294967296 := Nat.mod_lt _ (by decide)
 have hdig : (u'.getD (j + i) 0 + 8589934592 - (g * v.getD i 0 + c) % 4294967296 - b) % 4294967296 + (g * v.getD i 0 + c) % 4294967296 + b =
   u'.getD (j + i) 0 + 4294967296 * (if u'.getD (j + i) 0 < (g * v.getD i 0 + c) % 4294967296 + b then 1 else 0) := by split <;> omega
 refine ⟨h.ok.set _ (Nat.mod_lt _ (by decide)), by rw [List.length_set]; exact h.len, ?_, ?_, ?_, by omega, by split <;> omega⟩
 ·rw [List.take_set_of_le (by omega)]; exact h.lo
 ·rw [List.drop_set_of_lt (by omega)]
  have := congrArg (List.drop 1) h.hi
  rwa [List.drop_drop, List.drop_drop] at this
 ·rw [co, show j + (i + 1) = j + i + 1 from by omega, Nat.pow_succ];generalize (if u'.getD (j + i) 0 < (g * v.getD i 0 + c) % 4294967296 + b then 1 else 0) = b' at *;generalize (u'.getD (j + i) 0 + 8589934592 - (g * v.getD i 0 + c) % 4294967296 - b) % 4294967296 = y at *;generalize (g * v.getD i 0 + c) / 4294967296 = q at *;generalize (g * v.getD i 0 + c) % 4294967296 = r at *;generalize wv (u'.set (j + i) y) = o' at *;generalize u'.getD (j + i) 0 = x at *;rw [Nat.pow_add] at *;generalize 4294967296 ^ i = p at *;generalize 4294967296 ^ j = p' at *;clear hx hlt hB hr hbl
  have h1 : (y + r + b) * (p' * p) = (x + 4294967296 * b') * (p' * p) := by rw [hdig]
  have h2 : (4294967296 * q + r) * (p' * p) = (g * v.getD i 0 + c) * (p' * p) := by rw [hd]
  grind

structure WAB (u v : List Nat) (j i : Nat) (u' : List Nat) (c : Nat) : Prop where
 ok : wOK u'
 len : u'.length = u.length
 lo : u'.take j = u.take j
 hi : u'.drop (j + i) = u.drop (j + i)
 val : wv u' + c * 4294967296 ^ (j + i) = wv u + wv (v.take i) * 4294967296 ^ j
 cl : c <= 1
theorem WAB.start {u : List Nat} (hu : wOK u) (v : List Nat) (j : Nat) : WAB u v j 0 u 0 := ⟨hu, rfl, rfl, rfl, by simp [wv], by decide⟩
theorem WAB.step {u v : List Nat} (hv : wOK v) {j i : Nat} {u' : List Nat} {c : Nat} (h : WAB u v j i u' c) (hi : j + i < u.length) :
  WAB u v j (i + 1) (u'.set (j + i) ((u'.getD (j + i) 0 + v.getD i 0 + c) % 4294967296)) ((u'.getD (j + i) 0 + v.getD i 0 + c) / 4294967296) := by
 have hlt : j + i < u'.length := by rw [h.len]; exact hi
 have hx := a8 h.ok (j + i)
 have hy := a8 hv i
 have hcl := h.cl
 have hs := iK hlt ((u'.getD (j + i) 0 + v.getD i 0 + c) % 4294967296)
 have hval := h.val
 have hd := Nat.div_add_mod (u'.getD (j + i) 0 + v.getD i 0 + c) 4294967296
 refine ⟨h.ok.set _ (Nat.mod_lt _ (by decide)), by rw [List.length_set]; exact h.len, ?_, ?_, ?_, by omega⟩
 ·rw [List.take_set_of_le (by omega)]; exact h.lo
 ·rw [List.drop_set_of_lt (by omega)]
  have := congrArg (List.drop 1) h.hi
  rwa [List.drop_drop, List.drop_drop] at this
 ·rw [co, show j + (i + 1) = j + i + 1 from by omega, Nat.pow_succ];generalize (u'.getD (j + i) 0 + v.getD i 0 + c) / 4294967296 = q at *;generalize (u'.getD (j + i) 0 + v.getD i 0 + c) % 4294967296 = r at *;generalize wv (u'.set (j + i) r) = o' at *;generalize u'.getD (j + i) 0 = x at *;rw [Nat.pow_add] at *;generalize 4294967296 ^ i = p at *;generalize 4294967296 ^ j = p' at *;clear hx hlt hcl hy
  have h2 : (4294967296 * q + r) * (p' * p) = (x + v.getD i 0 + c) * (p' * p) := by rw [hd]
  grind

theorem iV {u u' : List Nat} (ho : wOK u) (h : wOK u') {m : Nat} (hd : u'.drop m = u.drop m) (hu : wv u < 4294967296 ^ m) : wv u' < 4294967296 ^ m := by
 rw [jd u' m, hd, oX ho, Nat.div_eq_of_lt hu, Nat.mul_zero, Nat.add_zero];exact cg h m
theorem un (u : List Nat) (j : Nat) : wv u = wv (u.take j) + 4294967296 ^ j * wv (u.drop j) := jd u j

theorem WMS.fits {u v : List Nat} {g j : Nat} {u' : List Nat} (h : WMS u v g j (v.length + 1) u' 0 0) (hD : wv (u.drop j) < (g + 1) * wv v) :
  g = wv (u.drop j) / wv v /\ wv (u'.drop j) = wv (u.drop j) % wv v /\ wv u' + g * wv v * 4294967296 ^ j = wv u := by
 have hval := h.val
 rw [List.take_of_length_le (by omega)] at hval;simp only [Nat.zero_mul, Nat.add_zero] at hval
 have h1 := un u' j
 have h2 := un u j
 rw [h.lo] at h1
 have key : wv (u'.drop j) + g * wv v = wv (u.drop j) := by
  have hp := pow_pos j
  refine Nat.eq_of_mul_eq_mul_left hp ?_
  have : 4294967296 ^ j * (wv (u'.drop j) + g * wv v) = 4294967296 ^ j * wv (u'.drop j) + g * wv v * 4294967296 ^ j := by grind
  rw [this]; omega
 have hlt : wv (u'.drop j) < wv v := by rw [Nat.add_mul] at hD; omega
 refine ⟨?_, ?_, hval⟩
 ·rw [<- key, Nat.add_mul_div_right _ _ (by omega), Nat.div_eq_of_lt hlt, Nat.zero_add]
 ·rw [<- key, Nat.add_mul_mod_self_right, Nat.mod_eq_of_lt hlt]
theorem WAB.fits {u v : List Nat} (hu : wOK u) {g j : Nat} {u' u'' : List Nat} {c : Nat} (h : WMS u v (g + 1) j (v.length + 1) u' 0 1) (k : WAB u' v j (v.length + 1) u'' c)
  (hU : wv u < 4294967296 ^ (j + (v.length + 1))) (hD : (g + 1) * wv v <= wv (u.drop j) + wv v) (hV : 0 < wv v) :
  g = wv (u.drop j) / wv v /\ wv (u''.drop j) = wv (u.drop j) % wv v /\ wv u'' + g * wv v * 4294967296 ^ j = wv u := by
 have hval := h.val
 have kval := k.val
 rw [List.take_of_length_le (by omega)] at hval kval
 have hl' := iV hu h.ok h.hi hU
 have hl'' := iV h.ok k.ok k.hi hl'
 have h1 := un u' j
 have h2 := un u j
 have h3 := un u'' j
 rw [k.lo] at h3;rw [h.lo] at h1 h3
 have hcl := k.cl
 have hgd : 4294967296 ^ j * ((g + 1) * wv v) <= 4294967296 ^ j * (wv (u.drop j) + wv v) := Nat.mul_le_mul_left _ hD
 have e1 : 4294967296 ^ j * ((g + 1) * wv v) = g * wv v * 4294967296 ^ j + wv v * 4294967296 ^ j := by grind
 have e2 : 4294967296 ^ j * (wv (u.drop j) + wv v) = 4294967296 ^ j * wv (u.drop j) + wv v * 4294967296 ^ j := by grind
 have e3 : (g + 1) * wv v * 4294967296 ^ j = g * wv v * 4294967296 ^ j + wv v * 4294967296 ^ j := by grind
 rw [e3] at hval
 have hVp : 0 < wv v * 4294967296 ^ j := Nat.mul_pos hV (pow_pos j)
 have hc : c = 1 := by
  rcases Nat.lt_or_ge c 1 with h' | h'
  ·have : c = 0 := by omega
   subst this
   simp only [Nat.zero_mul, Nat.add_zero, Nat.zero_add, Nat.one_mul] at hval kval
   omega
  ·omega
 subst hc
 simp only [Nat.zero_add, Nat.one_mul] at hval kval
 have hval2 : wv u'' + g * wv v * 4294967296 ^ j = wv u := by omega
 have key : wv (u''.drop j) + g * wv v = wv (u.drop j) := by
  refine Nat.eq_of_mul_eq_mul_left (pow_pos j) ?_
  have : 4294967296 ^ j * (wv (u''.drop j) + g * wv v) = 4294967296 ^ j * wv (u''.drop j) + g * wv v * 4294967296 ^ j := by grind
  rw [this]; omega
 have hlt : wv (u''.drop j) < wv v := by
  have hb : wv u < (g + 1) * wv v * 4294967296 ^ j := by rw [e3]; omega
  have : wv u'' < wv v * 4294967296 ^ j := by rw [e3] at hb; omega
  rw [h3] at this
  have h5 : 4294967296 ^ j * wv (u''.drop j) < 4294967296 ^ j * wv v := by rw [Nat.mul_comm _ (wv v)]; omega
  exact Nat.lt_of_mul_lt_mul_left h5
 refine ⟨?_, ?_, hval2⟩
 ·rw [<- key, Nat.add_mul_div_right _ _ hV, Nat.div_eq_of_lt hlt, Nat.zero_add]
 ·rw [<- key, Nat.add_mul_mod_self_right, Nat.mod_eq_of_lt hlt]

structure WDV (U V L k : Nat) (u q : List Nat) (n : Nat) : Prop where
 oku : wOK u
 okq : wOK q
 lenu : u.length = L
 lenq : q.length + k = L
 top : wv (u.drop n) < V
 val : wv u + V * wv q = U
 qz : ∀ m, m < n -> q.getD m 0 = 0
theorem WDV.start {u : List Nat} (hu : wOK u) {V k n : Nat} (hn : n + k = u.length) (ht : wv (u.drop n) < V) : WDV (wv u) V u.length k u (List.replicate n 0) n :=
 ⟨hu, wOK.rep0 _, rfl, by simpa using hn, ht, by rw [kG]; omega, fun m _ => l8 (wOK.rep0 _) (kG _) m⟩
theorem WDV.step {U V L k : Nat} {u q u' : List Nat} {n g : Nat} (h : WDV U V L k u q (n + 1)) (hu' : wOK u') (hl : u'.length = u.length) (hn : n < q.length)
  (hr : wv (u'.drop n) = wv (u.drop n) % V) (hv : wv u' + g * V * 4294967296 ^ n = wv u) (hgl : g < 4294967296) (hV : 0 < V) : WDV U V L k u' (q.set n g) n := by
 have hs := iK hn g
 rw [h.qz n (by omega)] at hs;refine ⟨hu', h.okq.set _ hgl, by rw [hl]; exact h.lenu, by rw [List.length_set]; exact h.lenq, by rw [hr]; exact Nat.mod_lt _ hV, ?_, fun m hm => ?_⟩
 ·have := h.val
  simp only [Nat.zero_mul, Nat.add_zero] at hs;rw [hs, Nat.mul_add, <- this, <- hv]
  grind
 ·rw [gj _ _ _ _ hn, if_neg (by omega)]; exact h.qz m (by omega)
theorem WDV.fin {U V L k : Nat} {u q : List Nat} (h : WDV U V L k u q 0) (hV : 0 < V) : wv u = U % V /\ wv q = U / V := by
 have h1 := h.top
 have h2 := h.val
 simp only [List.drop_zero] at h1
 constructor
 ·rw [<- h2, Nat.add_mul_mod_self_left, Nat.mod_eq_of_lt h1]
 ·rw [<- h2, Nat.add_mul_div_left _ _ hV, Nat.div_eq_of_lt h1, Nat.zero_add]
theorem WDV.digits {U L : Nat} {v u q : List Nat} {n : Nat} (hv : wOK v) (h : WDV U (wv v) L v.length u q (n + 1)) (hk : 2 <= v.length) :
  wv v = (v.getD (v.length - 1) 0 * 4294967296 + v.getD (v.length - 2) 0) * 4294967296 ^ (v.length - 2) + wv (v.take (v.length - 2)) /\
  wv (u.drop n) = ((u.getD (n + v.length) 0 * 4294967296 + u.getD (n + v.length - 1) 0) * 4294967296 + u.getD (n + v.length - 2) 0) * 4294967296 ^ (v.length - 2) + wv ((u.drop n).take (v.length - 2)) /\
  wv (v.take (v.length - 2)) < 4294967296 ^ (v.length - 2) /\ wv ((u.drop n).take (v.length - 2)) < 4294967296 ^ (v.length - 2) /\
  wv u < 4294967296 ^ (n + (v.length + 1)) := by
 obtain ⟨k, hk'⟩ : ∃ k, v.length = k + 2 := ⟨v.length - 2, by omega⟩
 have ht := h.top
 have hvl := d7 hv
 have hud : wOK (u.drop n) := h.oku.drop n
 have hU : wv u < 4294967296 ^ (n + (v.length + 1)) := by
  rw [jd u (n + 1)]
  have h1 := cg h.oku (n + 1)
  have h2 : wv (u.drop (n + 1)) + 1 <= 4294967296 ^ v.length := by omega
  have h3 := Nat.mul_le_mul_left (4294967296 ^ (n + 1)) h2
  rw [<- Nat.pow_add] at h3;rw [show n + (v.length + 1) = n + 1 + v.length from by omega];rw [Nat.mul_add] at h3
  omega
 refine ⟨?_, ?_, cg hv _, cg hud _, hU⟩
 ·rw [hk', show k + 2 - 1 = k + 1 from by omega, show k + 2 - 2 = k from by omega]
  have e1 := co v (k + 1)
  rw [List.take_of_length_le (by omega), co v k] at e1;rw [e1, Nat.pow_succ]; grind
 ·rw [hk', show n + (k + 2) - 1 = n + (k + 1) from by omega, show n + (k + 2) - 2 = n + k from by omega]
  have e0 : wv ((u.drop n).take (k + 2 + 1)) = wv (u.drop n) := by
   rw [ul hud, Nat.mod_eq_of_lt];rw [oX h.oku, Nat.div_lt_iff_lt_mul (pow_pos n), <- Nat.pow_add];rw [hk', show n + (k + 2 + 1) = k + 2 + 1 + n from by omega] at hU;exact hU
  have e1 := co (u.drop n) (k + 2)
  rw [e0, co _ (k + 1), co _ k, lE, lE, lE] at e1;rw [show k + 2 - 2 = k from by omega, e1, Nat.pow_succ, Nat.pow_succ]
  grind
theorem jr {v : List Nat} {i : Nat} (h : v.length <= i) : v.getD i 0 = 0 := by rw [List.getD_eq_getElem?_getD, List.getElem?_eq_none h]; rfl
theorem WMS.last {u v : List Nat} (hv : wOK v) {g j : Nat} {u' : List Nat} {c b : Nat} (h : WMS u v g j v.length u' c b) (hg : g < 4294967296) (hi : j + v.length < u.length) :
  WMS u v g j (v.length + 1) (u'.set (j + v.length) ((u'.getD (j + v.length) 0 + 8589934592 - c - b) % 4294967296)) 0 (if u'.getD (j + v.length) 0 < c + b then 1 else 0) := by
 have := h.step hv hg hi
 have hc := h.cl
 rw [jr (Nat.le_refl _), Nat.mul_zero, Nat.zero_add, Nat.mod_eq_of_lt hc, Nat.div_eq_of_lt hc] at this;exact this
theorem WMS.pos {u v : List Nat} (hu : wOK u) {g j : Nat} {u' : List Nat} (h : WMS u v g j (v.length + 1) u' 0 1) (hU : wv u < 4294967296 ^ (j + (v.length + 1))) : 0 < g := by
 rcases Nat.eq_zero_or_pos g with h0 | h0
 ·subst h0
  have h1 := iV hu h.ok h.hi hU
  have h2 := h.val
  simp only [Nat.zero_mul, Nat.add_zero, Nat.zero_add, Nat.one_mul] at h2
  omega
 ·exact h0
theorem WAB.last {u v : List Nat} (hv : wOK v) {j : Nat} {u' : List Nat} {c : Nat} (h : WAB u v j v.length u' c) (hi : j + v.length < u.length) :
  WAB u v j (v.length + 1) (u'.set (j + v.length) ((u'.getD (j + v.length) 0 + c) % 4294967296)) ((u'.getD (j + v.length) 0 + c) / 4294967296) := by
 have := h.step hv hi
 rw [jr (Nat.le_refl _), Nat.add_zero] at this;exact this
theorem vr {U V top v1 v2 u2 w : Nat} (hV : (v1 * 4294967296 + v2) * w <= V) (hU : U < (top * 4294967296 + u2 + 1) * w) (h1 : 0 < v1) (h2 : u2 < 4294967296) : U < (top / v1 + 1) * V := by
 have hd := Nat.div_add_mod top v1
 have hm := Nat.mod_lt top h1
 have e1 : (top / v1 + 1) * ((v1 * 4294967296 + v2) * w) <= (top / v1 + 1) * V := Nat.mul_le_mul_left _ hV
 have e2 : (top * 4294967296 + u2 + 1) * w <= (top / v1 + 1) * ((v1 * 4294967296 + v2) * w) := by
  rw [<- Nat.mul_assoc];refine Nat.mul_le_mul_right _ ?_;generalize top / v1 = g at *
  have e3 : (g + 1) * (v1 * 4294967296 + v2) = (v1 * g + v1) * 4294967296 + (g + 1) * v2 := by grind
  rw [e3]; omega
 omega
theorem yH (k n : Nat) : (a7 (k + 1) n).take k = a7 k n := by
 rw [ik, List.take_append_of_le_length (by rw [aE]; omega), List.take_of_length_le (by rw [aE]; omega)]
theorem nl {k m : Nat} (n : Nat) (h : m < k) : (a7 k n).getD m 0 = n / 4294967296 ^ m % 4294967296 := by
 rw [ln (bU _ _), cb]
 obtain ⟨d, rfl⟩ : ∃ d, k = m + (d + 1) := ⟨k - m - 1, by omega⟩
 rw [Nat.pow_add, Nat.mod_mul, Nat.add_mul_div_left _ _ (pow_pos m), Nat.div_eq_of_lt (Nat.mod_lt _ (pow_pos m)), Nat.zero_add, Nat.pow_succ, Nat.mul_comm _ 4294967296, Nat.mod_mul_right_mod]
theorem rZ {a b : List Nat} (hl : a.length = b.length) (h : ∀ m, m < a.length -> a.getD m 0 = b.getD m 0) : a = b := by
 apply List.ext_getElem hl
 intro i h1 h2
 have := h i h1
 rwa [dT h1, dT h2] at this
theorem rL {u : List Nat} {n : Nat} (hn : n <= 31) (i : Nat) (hu : wOK u) : (u.getD (i + 1) 0 * 4294967296 + u.getD i 0) / 2 ^ n % 4294967296 = wv u / 2 ^ n / 4294967296 ^ i % 4294967296 := by
 rw [Nat.div_div_eq_div_mul, Nat.mul_comm (2 ^ n), <- Nat.div_div_eq_div_mul, <- oX hu, ia, ia]
 have e : 4294967296 = 2 ^ n * 2 ^ (32 - n) := by rw [<- Nat.pow_add, show n + (32 - n) = 32 from by omega]
 have e1 : u.getD i 0 + 4294967296 * (u.getD (i + 1) 0 + 4294967296 * wv (u.drop (i + 1 + 1))) = (u.getD (i + 1) 0 * 4294967296 + u.getD i 0) + 2 ^ n * (4294967296 * (2 ^ (32 - n) * wv (u.drop (i + 1 + 1)))) := by
  generalize wv (u.drop (i + 1 + 1)) = z
  have : 2 ^ n * (4294967296 * (2 ^ (32 - n) * z)) = 4294967296 * ((2 ^ n * 2 ^ (32 - n)) * z) := by grind
  rw [this, <- e]; omega
 rw [e1, Nat.add_mul_div_left _ _ (Nat.two_pow_pos n), Nat.add_mul_mod_self_left]
def oU (a b : List Nat) : List Nat := if wv a < wv b then [] else if b.length = 1 then a7 a.length (wv a / wv b) else a7 (a.length + 1 - b.length) (wv a / wv b)
def oR (a b : List Nat) : List Nat := if wv a < wv b then a else if b.length = 1 then [wv a % wv b] else a7 b.length (wv a % wv b)
theorem Ep (a b : List Nat) : wOK (oU a b) := by
 unfold oU; split
 ·exact wOK.nil
 ·split <;> exact bU _ _
theorem Cp (a b : List Nat) : (oU a b).length <= a.length + 1 := by
 unfold oU; split
 ·simp
 ·split <;> rw [aE] <;> omega
theorem En {a b : List Nat} (ha : wOK a) (hb : wOK b) (hn : b ≠ []) (t : kf b) : wOK (oR a b) := by
 unfold oR; split
 ·exact ha
 ·split
  ·refine wOK.one ?_
   have h1 := l9 t hn
   have h2 := d7 hb
   rename_i h3
   have h4 : 0 < wv b := Nat.lt_of_lt_of_le (pow_pos _) h1
   rw [h3, Nat.pow_one] at h2;exact Nat.lt_trans (Nat.mod_lt _ h4) h2
  ·exact bU _ _
theorem Co (a b : List Nat) : (oR a b).length <= a.length + b.length := by
 unfold oR; split
 ·omega
 ·split
  ·simp; omega
  ·rw [aE]; omega
theorem Em {a b : List Nat} (hb : wOK b) (hn : b ≠ []) (t : kf b) : wv (oR a b) = wv a % wv b := by
 have h1 := l9 t hn
 have h4 : 0 < wv b := Nat.lt_of_lt_of_le (pow_pos _) h1
 unfold oR; split
 ·rename_i h; rw [Nat.mod_eq_of_lt h]
 ·split
  ·simp [wv]
  ·rw [cb, Nat.mod_eq_of_lt];exact Nat.lt_trans (Nat.mod_lt _ h4) (d7 hb)
theorem Eo {a b : List Nat} (ha : wOK a) (hn : b ≠ []) (t : kf b) : wv (oU a b) = wv a / wv b := by
 have h1 := l9 t hn
 have h4 : 0 < wv b := Nat.lt_of_lt_of_le (pow_pos _) h1
 have h2 := d7 ha
 unfold oU; split
 ·rename_i h; rw [Nat.div_eq_of_lt h]; rfl
 ·rename_i h
  split
  ·rw [cb, Nat.mod_eq_of_lt];exact Nat.lt_of_le_of_lt (Nat.div_le_self _ _) h2
  ·rw [cb, Nat.mod_eq_of_lt];rw [Nat.div_lt_iff_lt_mul h4]
   have hl : b.length <= a.length + 1 := by
    rcases Nat.lt_or_ge (a.length + 1) b.length with h' | h'
    ·have : 4294967296 ^ a.length <= 4294967296 ^ (b.length - 1) := Nat.pow_le_pow_right (by decide) (by omega)
     omega
    ·exact h'
   have hbl : b.length ≠ 0 := by simpa using hn
   have : 4294967296 ^ (a.length + 1 - b.length) * 4294967296 ^ (b.length - 1) <= 4294967296 ^ (a.length + 1 - b.length) * wv b := Nat.mul_le_mul_left _ h1
   rw [<- Nat.pow_add, show a.length + 1 - b.length + (b.length - 1) = a.length from by omega] at this
   omega
end Go.Proofs.YtnoildlijhapaaaGreatDoor

/- Rationals: numerators and denominators, and how many words they have. No condition. -/
namespace Go.Proofs.YtnoildlijhapaaaGreatDoor

def zl (z : Int) : Nat := wl z.natAbs
theorem nh (z : Int) : zl (-z) = zl z := by unfold zl; rw [Int.natAbs_neg]
theorem cG (x y : Int) : zl (x * y) <= zl x + zl y := by unfold zl; rw [Int.natAbs_mul]; exact zN _ _
theorem lj (x y : Int) : zl (x + y) <= max (zl x) (zl y) + 1 := by
 unfold zl
 exact Nat.le_trans (bO (Int.natAbs_add_le x y)) (zO _ _)
theorem zE (x y : Int) : zl (x - y) <= max (zl x) (zl y) + 1 := by
 have := lj x (-y)
 rwa [nh, <- Int.sub_eq_add_neg] at this
theorem zJ (n : Nat) : zl (n : Int) = wl n := by unfold zl; rw [Int.natAbs_natCast]
theorem zM {n : Nat} (h : 0 < n) : 1 <= wl n := by
 unfold wl
 have := List.length_pos_iff.2 (fun h' => by rw [ep] at h'; omega : wof n ≠ [])
 exact this
theorem vW : wl 1 = 1 := by
 have := rD (n := 1) (k := 1) (by decide)
 have := zM (n := 1) (by decide)
 omega
theorem nj {n : Int} (h : -9223372036854775808 <= n /\ n <= 9223372036854775807) : zl n <= 2 := by
 unfold zl
 exact rD (by show n.natAbs < 18446744073709551616; omega)

def ql (q : Rat) : Nat := max (zl q.num) (wl q.den)
theorem gZ (q : Rat) : zl q.num <= ql q := Nat.le_max_left _ _
theorem g6 (q : Rat) : zl (q.den : Int) <= ql q := by rw [zJ]; exact Nat.le_max_right _ _
theorem wx (q : Rat) : 1 <= ql q := Nat.le_trans (zM (Nat.pos_of_ne_zero q.den_nz)) (Nat.le_max_right _ _)
theorem iC (x : Int) (g : Nat) : (x / (g : Int)).natAbs <= x.natAbs := by
 rcases Nat.eq_zero_or_pos g with h | h
 ·subst h; simp
 ·exact Int.natAbs_ediv_le_natAbs x g
theorem d3 (x y : Int) : ql (Rat.divInt x y) <= max 1 (max (zl x) (zl y)) := by
 unfold ql
 have h1 : zl (Rat.divInt x y).num <= zl x := by
  unfold zl
  refine bO ?_;rw [Rat.num_divInt];refine Nat.le_trans (iC _ _) ?_;rw [Int.natAbs_mul]
  have : y.sign.natAbs <= 1 := by
   rcases Int.lt_trichotomy y 0 with h | h | h
   ·rw [Int.sign_eq_neg_one_of_neg h]; decide
   ·subst h; decide
   ·rw [Int.sign_eq_one_of_pos h]; decide
  calc y.sign.natAbs * x.natAbs <= 1 * x.natAbs := Nat.mul_le_mul_right _ this
   _ = x.natAbs := Nat.one_mul _
 have h2 : wl (Rat.divInt x y).den <= max 1 (zl y) := by
  rw [Rat.den_divInt]
  split
  ·rw [vW]; omega
  ·unfold zl
   exact Nat.le_trans (bO (Nat.div_le_self _ _)) (Nat.le_max_right _ _)
 omega
theorem qY (a b : Rat) : a + b = Rat.divInt (a.num * b.den + b.num * a.den) ((a.den : Int) * b.den) := by
 rw [Rat.add_def', <- Rat.divInt_ofNat]; rfl
theorem w7 (a b : Rat) : a * b = Rat.divInt (a.num * b.num) ((a.den : Int) * b.den) := by
 rw [Rat.mul_def', <- Rat.divInt_ofNat]; rfl
theorem vG (a : Rat) : Rat.divInt a.num a.den = a := Rat.num_divInt_den a
theorem AY (a b : Rat) : ql (a + b) <= ql a + ql b + 1 := by
 rw [qY];refine Nat.le_trans (d3 _ _) ?_
 have h1 := lj (a.num * b.den) (b.num * a.den)
 have h2 := cG a.num b.den
 have h3 := cG b.num a.den
 have h4 := cG a.den b.den
 have h5 := gZ a
 have h6 := g6 a
 have h7 := gZ b
 have h8 := g6 b
 omega
theorem AV (a b : Rat) : ql (a * b) <= ql a + ql b := by
 rw [w7];refine Nat.le_trans (d3 _ _) ?_
 have h2 := cG a.num b.num
 have h4 := cG a.den b.den
 have h5 := gZ a
 have h6 := g6 a
 have h7 := gZ b
 have h8 := g6 b
 have h9 := wx a
 omega
theorem wy (a : Rat) : ql (-a) = ql a := by
 unfold ql
 rw [Rat.neg_num, Rat.neg_den, nh]
theorem AS (a b : Rat) : ql (a - b) <= ql a + ql b + 1 := by
 have := AY a (-b)
 rwa [wy, <- Rat.sub_eq_add_neg] at this
theorem AW (n : Int) : ql (n : Rat) = max (zl n) 1 := by
 unfold ql
 rw [Rat.num_intCast, Rat.den_intCast, vW]
theorem jY (n : Int) : Rat.divInt n 1 = (n : Rat) := by
 rw [Rat.divInt_eq_div]
 show (n : Rat) / ((1 : Int) : Rat) = n
 rw [Rat.intCast_one]
 grind
theorem xU (x y : Int) : (Rat.divInt x y).num = (y.sign * x) / (Int.gcd x y : Int) := by rw [Rat.num_divInt, Int.gcd_comm]
theorem yq {x y : Int} (h : y ≠ 0) : ((Rat.divInt x y).den : Int) = (y.natAbs : Int) / (Int.gcd x y : Int) := by
 rw [Rat.den_divInt, if_neg h, Int.gcd_comm]; rfl
/-! ### Bounds put together -/
theorem ba {a k m : Nat} (h : a <= k) (hk : Nat.ble k m = true) : a <= m := Nat.le_trans h (Nat.le_of_ble_eq_true hk)
theorem dG {x y : Int} {k l : Nat} (hx : zl x <= k) (hy : zl y <= l) : zl (x * y) <= k + l := Nat.le_trans (cG x y) (Nat.add_le_add hx hy)
theorem nk {x y : Int} {k : Nat} (hx : zl x <= k) (hy : zl y <= k) : zl (x + y) <= k + 1 := Nat.le_trans (lj x y) (Nat.add_le_add_right (Nat.max_le.2 ⟨hx, hy⟩) 1)
theorem yD {x y : Int} {k : Nat} (hx : zl x <= k) (hy : zl y <= k) : zl (x - y) <= k + 1 := Nat.le_trans (zE x y) (Nat.add_le_add_right (Nat.max_le.2 ⟨hx, hy⟩) 1)
theorem aP {x y : Rat} {k l : Nat} (hx : ql x <= k) (hy : ql y <= l) : ql (x * y) <= k + l := Nat.le_trans (AV x y) (Nat.add_le_add hx hy)
theorem br {x y : Rat} {k l : Nat} (hx : ql x <= k) (hy : ql y <= l) : ql (x + y) <= k + l + 1 := Nat.le_trans (AY x y) (Nat.add_le_add_right (Nat.add_le_add hx hy) 1)
theorem cw {x y : Rat} {k l : Nat} (hx : ql x <= k) (hy : ql y <= l) : ql (x - y) <= k + l + 1 := Nat.le_trans (AS x y) (Nat.add_le_add_right (Nat.add_le_add hx hy) 1)
theorem cx {x : Rat} {k : Nat} (hx : ql x <= k) : zl x.num <= k := Nat.le_trans (gZ x) hx
theorem cy {x : Rat} {k : Nat} (hx : ql x <= k) : zl (x.den : Int) <= k := Nat.le_trans (g6 x) hx
theorem th {x y : Int} {k : Nat} (hk : Nat.ble 1 k = true) (hx : zl x <= k) (hy : zl y <= k) : ql (Rat.divInt x y) <= k :=
 Nat.le_trans (d3 x y) (Nat.max_le.2 ⟨Nat.le_of_ble_eq_true hk, Nat.max_le.2 ⟨hx, hy⟩⟩)
end Go.Proofs.YtnoildlijhapaaaGreatDoor

/- Rotations as pairs of integers. No condition. -/
namespace Go.Proofs.YtnoildlijhapaaaGreatDoor

def Av (p q : Int) : Bool := decide (q < 0) || (decide (q = 0) && decide (p < 0))
def rg (p q : Int) : Int := if Av p q then -(Int.gcd p q : Int) else (Int.gcd p q : Int)
def rP (p q : Int) : Int := if p = 0 /\ q = 0 then 0 else p / rg p q
def rQ (p q : Int) : Int := if p = 0 /\ q = 0 then 1 else q / rg p q

theorem Gs {p q : Int} (h : ¬ (p = 0 /\ q = 0)) : (Int.gcd p q : Int) ≠ 0 := by
 intro h'
 have := Int.gcd_eq_zero_iff.1 (by omega : Int.gcd p q = 0)
 exact h this
theorem Hi {p q : Int} (h : ¬ (p = 0 /\ q = 0)) : rg p q ≠ 0 := by
 have := Gs h
 unfold rg; split <;> omega
theorem AE (p q : Int) : rg p q ∣ p /\ rg p q ∣ q := by
 have h1 : (Int.gcd p q : Int) ∣ p := Int.gcd_dvd_left ..
 have h2 : (Int.gcd p q : Int) ∣ q := Int.gcd_dvd_right ..
 unfold rg
 split
 ·exact ⟨Int.neg_dvd.2 h1, Int.neg_dvd.2 h2⟩
 ·exact ⟨h1, h2⟩
theorem Dr {p q : Int} (h : ¬ (p = 0 /\ q = 0)) : rP p q * rg p q = p /\ rQ p q * rg p q = q := by
 unfold rP rQ
 rw [if_neg h, if_neg h];exact ⟨Int.ediv_mul_cancel (AE p q).1, Int.ediv_mul_cancel (AE p q).2⟩
theorem AR (p q : Int) : ¬ (rP p q = 0 /\ rQ p q = 0) := by
 by_cases h : p = 0 /\ q = 0
 ·unfold rP rQ; rw [if_pos h, if_pos h]; omega
 ·intro h'
  have := Dr h
  rw [h'.1, h'.2] at this
  omega
theorem zd (p q : Int) : (rg p q).natAbs = Int.gcd p q := by unfold rg; split <;> omega
theorem n7 (x p q : Int) : (x / rg p q).natAbs <= x.natAbs := by
 unfold rg
 split
 ·rw [Int.ediv_neg, Int.natAbs_neg]; exact iC x _
 ·exact iC x _
theorem zH (p q : Int) : zl (rP p q) <= max 1 (zl p) := by
 unfold rP
 split
 ·simp [zl, wl, pB]
 ·exact Nat.le_trans (bO (n7 p p q)) (Nat.le_max_right _ _)
theorem zF (p q : Int) : zl (rQ p q) <= max 1 (zl q) := by
 unfold rQ
 split
 ·show wl 1 <= _; rw [vW]; omega
 ·exact Nat.le_trans (bO (n7 q p q)) (Nat.le_max_right _ _)
theorem uk {p q : Int} {k : Nat} (hk : Nat.ble 1 k = true) (hp : zl p <= k) : zl (rP p q) <= k := Nat.le_trans (zH p q) (Nat.max_le.2 ⟨Nat.le_of_ble_eq_true hk, hp⟩)
theorem uj {p q : Int} {k : Nat} (hk : Nat.ble 1 k = true) (hq : zl q <= k) : zl (rQ p q) <= k := Nat.le_trans (zF p q) (Nat.max_le.2 ⟨Nat.le_of_ble_eq_true hk, hq⟩)
def lZ (p q : Int) : Rat := Rat.divInt (rQ p q * rQ p q - rP p q * rP p q) (rQ p q * rQ p q + rP p q * rP p q)
def lJ (p q : Int) : Rat := Rat.divInt (rQ p q * rP p q + rP p q * rQ p q) (rQ p q * rQ p q + rP p q * rP p q)
def thP (p q r s : Int) : Int := rP (rQ p q * rP r s + rP p q * rQ r s) (rQ p q * rQ r s - rP p q * rP r s)
def thQ (p q r s : Int) : Int := rQ (rQ p q * rP r s + rP p q * rQ r s) (rQ p q * rQ r s - rP p q * rP r s)
theorem AX (p q : Int) {k : Nat} (hp : zl p <= k) (hq : zl q <= k) (hk : 1 <= k) : ql (lZ p q) <= 2 * k + 1 := by
 have h1 := zH p q
 have h2 := zF p q
 refine Nat.le_trans (d3 _ _) ?_
 have m1 := cG (rQ p q) (rQ p q)
 have m2 := cG (rP p q) (rP p q)
 have m3 := zE (rQ p q * rQ p q) (rP p q * rP p q)
 have m4 := lj (rQ p q * rQ p q) (rP p q * rP p q)
 omega
theorem AT (p q : Int) {k : Nat} (hp : zl p <= k) (hq : zl q <= k) (hk : 1 <= k) : ql (lJ p q) <= 2 * k + 1 := by
 have h1 := zH p q
 have h2 := zF p q
 refine Nat.le_trans (d3 _ _) ?_
 have m1 := cG (rQ p q) (rQ p q)
 have m2 := cG (rP p q) (rP p q)
 have m5 := cG (rQ p q) (rP p q)
 have m6 := cG (rP p q) (rQ p q)
 have m3 := lj (rQ p q * rP p q) (rP p q * rQ p q)
 have m4 := lj (rQ p q * rQ p q) (rP p q * rP p q)
 omega
end Go.Proofs.YtnoildlijhapaaaGreatDoor

/- Roots of a forest over numbers, and the numbers of its trees. No condition. -/
namespace Go.Proofs.YtnoildlijhapaaaGreatDoor

def fnd (r : List Nat) : Nat -> Nat -> Nat
 | 0, v => v
 | k + 1, v => if r.getD v 0 = v then v else fnd r k (r.getD v 0)
def fd (r : List Nat) (v : Nat) : Nat := fnd r v v
def RG (r : List Nat) : Prop := ∀ v, r.getD v 0 <= v
theorem B0 {r : List Nat} (h : RG r) : ∀ v k, v <= k -> fnd r k v = fd r v := by
 intro v
 induction v using Nat.strongRecOn with
 | _ v ih =>
  intro k hk
  by_cases hv : r.getD v 0 = v
  ·have a : ∀ k, fnd r k v = v := by intro k; cases k with | zero => rfl | succ k => rw [fnd, if_pos hv]
   rw [fd, a, a]
  ·have hlt : r.getD v 0 < v := by have := h v; omega
   obtain ⟨v', rfl⟩ : ∃ v', v = v' + 1 := ⟨v - 1, by omega⟩
   obtain ⟨k', rfl⟩ : ∃ k', k = k' + 1 := ⟨k - 1, by omega⟩
   rw [fd, fnd, fnd, if_neg hv, if_neg hv, ih _ hlt k' (by omega), ih _ hlt v' (by omega)]
theorem lg {r : List Nat} (h : RG r) (v : Nat) : fd r v = if r.getD v 0 = v then v else fd r (r.getD v 0) := by
 by_cases hv : r.getD v 0 = v
 ·rw [if_pos hv, fd]; cases v with | zero => rfl | succ v => rw [fnd, if_pos hv]
 ·have hlt : r.getD v 0 < v := by have := h v; omega
  rw [if_neg hv]
  obtain ⟨v', rfl⟩ : ∃ v', v = v' + 1 := ⟨v - 1, by omega⟩
  rw [fd, fnd, if_neg hv, B0 h _ _ (by omega)]
theorem yg {r : List Nat} (h : RG r) (v : Nat) : fd r v <= v := by
 induction v using Nat.strongRecOn with
 | _ v ih =>
  rw [lg h]
  by_cases hv : r.getD v 0 = v
  ·rw [if_pos hv]; exact Nat.le_refl _
  ·rw [if_neg hv]
   have := h v
   have := ih _ (by omega : r.getD v 0 < v)
   omega
theorem mQ {r : List Nat} (h : RG r) (v : Nat) : r.getD (fd r v) 0 = fd r v := by
 induction v using Nat.strongRecOn with
 | _ v ih =>
  rw [lg h]
  by_cases hv : r.getD v 0 = v
  ·rw [if_pos hv]; exact hv
  ·rw [if_neg hv]
   have := h v
   exact ih _ (by omega)
def uni (r : List Nat) (f t : Nat) : List Nat := r.set (max (fd r f) (fd r t)) (min (fd r f) (fd r t))
theorem xl {r : List Nat} (h : RG r) (f t : Nat) : RG (uni r f t) := by
 intro v
 rw [uni, List.getD_eq_getElem?_getD, List.getElem?_set]
 split
 ·split
  ·rw [Option.getD_some]; omega
  ·simp
 ·rw [<- List.getD_eq_getElem?_getD]; exact h v
theorem pF (r : List Nat) (f t : Nat) : (uni r f t).length = r.length := by simp [uni]
theorem ri (n : Nat) : RG (List.range n) := by
 intro v
 rw [List.getD_eq_getElem?_getD]
 rcases Nat.lt_or_ge v n with h | h
 ·rw [List.getElem?_eq_getElem (by simpa using h)]; simp
 ·rw [List.getElem?_eq_none (by simpa using h)]; simp
def num (r : List Nat) : Nat -> List Nat × Nat
 | 0 => ([], 0)
 | v + 1 => if fd r v = v then ((num r v).1 ++ [(num r v).2], (num r v).2 + 1) else ((num r v).1 ++ [(num r v).1.getD (fd r v) 0], (num r v).2)
theorem wE (r : List Nat) (v : Nat) : (num r v).1.length = v := by
 induction v with
 | zero => rfl
 | succ v ih => rw [num]; split <;> simp [ih]
end Go.Proofs.YtnoildlijhapaaaGreatDoor

/- Components of a graph: the least member of each, by joined trees and by repeated minima. No condition. -/
namespace Go.Proofs.YtnoildlijhapaaaGreatDoor

inductive Cnn (ps : List (Nat × Nat)) : Nat -> Nat -> Prop
 | refl (a : Nat) : Cnn ps a a
 | step {a b c : Nat} (h : Cnn ps a b) (hp : (b, c) ∈ ps \/ (c, b) ∈ ps) : Cnn ps a c
section
variable {ps : List (Nat × Nat)} {a b c : Nat}
theorem Cnn.trans (h : Cnn ps a b) (h' : Cnn ps b c) : Cnn ps a c := by
 induction h' with
 | refl => exact h
 | step _ hp ih => exact .step ih hp
theorem Cnn.one (hp : (a, b) ∈ ps \/ (b, a) ∈ ps) : Cnn ps a b := .step (.refl a) hp
theorem Cnn.symm (h : Cnn ps a b) : Cnn ps b a := by
 induction h with
 | refl => exact .refl _
 | step _ hp ih => exact (Cnn.one hp.symm).trans ih
theorem Cnn.mono {qs : List (Nat × Nat)} (hs : ∀ p ∈ ps, p ∈ qs) (h : Cnn ps a b) : Cnn qs a b := by
 induction h with
 | refl => exact .refl _
 | step _ hp ih => exact .step ih (hp.imp (hs _) (hs _))
theorem Cnn.nil (h : Cnn [] a b) : a = b := by
 induction h with
 | refl => rfl
 | step _ hp _ => rcases hp with hp | hp <;> cases hp
theorem Cnn.lt {n : Nat} (hn : ∀ p ∈ ps, p.1 < n /\ p.2 < n) (h : Cnn ps a b) (ha : a < n) : b < n := by
 induction h with
 | refl => exact ha
 | step _ hp _ => exact hp.elim (fun hp => (hn _ hp).2) (fun hp => (hn _ hp).1)
theorem Cnn.snoc {f t : Nat} : Cnn (ps ++ [(f, t)]) a b ↔ Cnn ps a b \/ (Cnn ps a f /\ Cnn ps t b) \/ (Cnn ps a t /\ Cnn ps f b) := by
 constructor
 ·intro h
  induction h with
  | refl => exact Or.inl (.refl _)
  | step _ hp ih =>
   have key : ∀ {x y : Nat}, (x, y) ∈ ps ++ [(f, t)] \/ (y, x) ∈ ps ++ [(f, t)] -> Cnn ps x y \/ (x = f /\ y = t) \/ (x = t /\ y = f) := by
    intro x y h
    simp only [List.mem_append, List.mem_singleton, Prod.mk.injEq] at h
    rcases h with (h | h) | (h | h)
    ·exact Or.inl (.one (Or.inl h))
    ·exact Or.inr (Or.inl h)
    ·exact Or.inl (.one (Or.inr h))
    ·exact Or.inr (Or.inr ⟨h.2, h.1⟩)
   rcases key hp with h | ⟨rfl, rfl⟩ | ⟨rfl, rfl⟩
   ·rcases ih with i | i | i
    ·exact Or.inl (i.trans h)
    ·exact Or.inr (Or.inl ⟨i.1, i.2.trans h⟩)
    ·exact Or.inr (Or.inr ⟨i.1, i.2.trans h⟩)
   ·rcases ih with i | i | i
    ·exact Or.inr (Or.inl ⟨i, .refl _⟩)
    ·exact Or.inr (Or.inl ⟨i.1, .refl _⟩)
    ·exact Or.inl i.1
   ·rcases ih with i | i | i
    ·exact Or.inr (Or.inr ⟨i, .refl _⟩)
    ·exact Or.inl i.1
    ·exact Or.inr (Or.inr ⟨i.1, .refl _⟩)
 ·have s : ∀ p ∈ ps, p ∈ ps ++ [(f, t)] := fun p hp => List.mem_append_left _ hp
  have e : Cnn (ps ++ [(f, t)]) f t := .one (Or.inl (by simp))
  rintro (h | h | h)
  ·exact h.mono s
  ·exact ((h.1.mono s).trans e).trans (h.2.mono s)
  ·exact ((h.1.mono s).trans e.symm).trans (h.2.mono s)
end

theorem yh {r : List Nat} (h : RG r) (v : Nat) : fd r (fd r v) = fd r v := by
 rw [lg h (fd r v), if_pos (mQ h v)]
theorem zj {r : List Nat} {i j x : Nat} (hi : i < r.length) : (r.set i x).getD j 0 = if j = i then x else r.getD j 0 := by
 rw [List.getD_eq_getElem?_getD, List.getElem?_set, List.getD_eq_getElem?_getD]
 by_cases h : i = j
 ·subst h; rw [if_pos rfl, if_pos rfl, if_pos hi]; rfl
 ·rw [if_neg h, if_neg (fun e => h e.symm)]
theorem B2 {r : List Nat} (h : RG r) {f t : Nat} (hf : fd r f < r.length) (ht : fd r t < r.length) (v : Nat) : fd (uni r f t) v = if fd r v = max (fd r f) (fd r t) then min (fd r f) (fd r t) else fd r v := by
 have hu := xl h f t
 have hm : max (fd r f) (fd r t) < r.length := by omega
 have hroot : r.getD (max (fd r f) (fd r t)) 0 = max (fd r f) (fd r t) := by
  rcases Nat.le_total (fd r f) (fd r t) with hl | hl
  ·rw [Nat.max_eq_right hl]; exact mQ h t
  ·rw [Nat.max_eq_left hl]; exact mQ h f
 have hmin : r.getD (min (fd r f) (fd r t)) 0 = min (fd r f) (fd r t) := by
  rcases Nat.le_total (fd r f) (fd r t) with hl | hl
  ·rw [Nat.min_eq_left hl]; exact mQ h f
  ·rw [Nat.min_eq_right hl]; exact mQ h t
 have hg : ∀ j, (uni r f t).getD j 0 = if j = max (fd r f) (fd r t) then min (fd r f) (fd r t) else r.getD j 0 := fun j => zj hm
 have hmm : fd (uni r f t) (min (fd r f) (fd r t)) = min (fd r f) (fd r t) := by
  rw [lg hu, hg]
  by_cases e : min (fd r f) (fd r t) = max (fd r f) (fd r t)
  ·rw [if_pos e, if_pos rfl]
  ·rw [if_neg e, if_pos hmin]
 induction v using Nat.strongRecOn with
 | _ v ih =>
  by_cases hv : v = max (fd r f) (fd r t)
  ·have e1 : fd r v = v := by rw [lg h, hv, if_pos hroot]
   rw [e1, if_pos hv, lg hu, hg, if_pos hv]
   by_cases e : min (fd r f) (fd r t) = v
   ·rw [if_pos e]; exact e.symm
   ·rw [if_neg e]; exact hmm
  ·rw [lg hu, hg, if_neg hv]
   by_cases hr : r.getD v 0 = v
   ·have e1 : fd r v = v := by rw [lg h, if_pos hr]
    rw [if_pos hr, e1, if_neg hv]
   ·have hlt : r.getD v 0 < v := by have := h v; omega
    have e1 : fd r v = fd r (r.getD v 0) := by rw [lg h v, if_neg hr]
    rw [if_neg hr, ih _ hlt, e1]

def kZ (n : Nat) (ps : List (Nat × Nat)) : List Nat := ps.foldl (fun r p => uni r p.1 p.2) (List.range n)
theorem CZ (n : Nat) (ps : List (Nat × Nat)) : RG (kZ n ps) /\ (kZ n ps).length = n := by
 have : ∀ (ps : List (Nat × Nat)) (r : List Nat), RG r -> RG (ps.foldl (fun r p => uni r p.1 p.2) r) /\ (ps.foldl (fun r p => uni r p.1 p.2) r).length = r.length := by
  intro ps
  induction ps with
  | nil => intro r h; exact ⟨h, rfl⟩
  | cons p ps ih =>
   intro r h
   have := ih _ (xl h p.1 p.2)
   rw [pF] at this;exact this
 have h := this ps (List.range n) (ri n)
 rw [List.length_range] at h;exact h
theorem yI (n : Nat) (ps : List (Nat × Nat)) (p : Nat × Nat) : kZ n (ps ++ [p]) = uni (kZ n ps) p.1 p.2 := by
 rw [kZ, List.foldl_append]; rfl
theorem vB {n v : Nat} (h : v < n) : fd (List.range n) v = v := by
 rw [lg (ri n), List.getD_eq_getElem?_getD, List.getElem?_range h]; simp
theorem Dc {α : Type} {P : List α -> Prop} (h0 : P []) (h1 : ∀ l a, P l -> P (l ++ [a])) : ∀ l, P l := by
 intro l
 have : ∀ k, ∀ l : List α, l.length = k -> P l := by
  intro k
  induction k with
  | zero => intro l hl; rw [List.length_eq_zero_iff.1 hl]; exact h0
  | succ k ih =>
   intro l hl
   rcases List.eq_nil_or_concat l with rfl | ⟨l', a, rfl⟩
   ·exact h0
   ·rw [List.concat_eq_append] at *;exact h1 _ _ (ih _ (by simpa using hl))
 exact this _ l rfl
theorem zS (n : Nat) (ps : List (Nat × Nat)) (hn : ∀ p ∈ ps, p.1 < n /\ p.2 < n) : ∀ u v, u < n -> v < n -> (fd (kZ n ps) u = fd (kZ n ps) v ↔ Cnn ps u v) := by
 induction ps using Dc with
 | h0 =>
  intro u v hu hv
  have e : kZ n [] = List.range n := rfl
  rw [e, vB hu, vB hv];exact ⟨fun h => h ▸ .refl _, Cnn.nil⟩
 | h1 ps p ih =>
  obtain ⟨f, t⟩ := p
  intro u v hu hv
  have ih := ih fun p hp => hn p (List.mem_append_left _ hp)
  have hp := hn (f, t) (by simp)
  obtain ⟨o1, o2⟩ := CZ n ps
  have lt : ∀ {x}, x < n -> fd (kZ n ps) x < (kZ n ps).length := fun hx => by have := yg o1 (v := ‹_›); omega
  rw [yI, B2 o1 (lt hp.1) (lt hp.2), B2 o1 (lt hp.1) (lt hp.2), Cnn.snoc, <- ih u v hu hv, <- ih u f hu hp.1, <- ih t v hp.2 hv, <- ih u t hu hp.2, <- ih f v hp.1 hv]
  simp only
  generalize fd (kZ n ps) u = a;generalize fd (kZ n ps) v = b;generalize fd (kZ n ps) f = c;generalize fd (kZ n ps) t = d
  rcases Nat.le_total c d with h | h
  ·rw [Nat.max_eq_right h, Nat.min_eq_left h]
   split <;> split <;> omega
  ·rw [Nat.max_eq_left h, Nat.min_eq_right h]
   split <;> split <;> omega

/-! ### By repeated minima -/
theorem HF {ps : List (Nat × Nat)} {D : Nat -> Prop} {a b : Nat} (h : Cnn ps a b) (ha : D a) (hb : ¬ D b) : ∃ p ∈ ps, (D p.1 /\ ¬ D p.2) \/ (¬ D p.1 /\ D p.2) := by
 induction h with
 | refl => exact absurd ha hb
 | step _ hp ih =>
  rename_i x y _
  by_cases hx : D x
  ·rcases hp with hp | hp
   ·exact ⟨_, hp, Or.inl ⟨hx, hb⟩⟩
   ·exact ⟨_, hp, Or.inr ⟨hb, hx⟩⟩
  ·exact ih hx

end Go.Proofs.YtnoildlijhapaaaGreatDoor

/- Cosine and sine; sums over links. No condition. -/
namespace Go.Proofs.YtnoildlijhapaaaGreatDoor

end Go.Proofs.YtnoildlijhapaaaGreatDoor

/- Rotations as pairs up to a factor. No condition. -/
namespace Go.Proofs.YtnoildlijhapaaaGreatDoor

def nz (a : Int × Int) : Prop := ¬ (a.1 = 0 /\ a.2 = 0)
def Px (a b : Int × Int) : Prop := a.1 * b.2 = b.1 * a.2
def gm (a b : Int × Int) : Int × Int := (a.2 * b.1 + a.1 * b.2, a.2 * b.2 - a.1 * b.1)
theorem Px.refl (a : Int × Int) : Px a a := rfl
theorem Px.symm {a b : Int × Int} (h : Px a b) : Px b a := Eq.symm h
def cs2 (a : Int × Int) : Rat := ((a.2 * a.2 - a.1 * a.1 : Int) : Rat) / ((a.2 * a.2 + a.1 * a.1 : Int) : Rat)
end Go.Proofs.YtnoildlijhapaaaGreatDoor

/- Powers of rotations, their orders; transforms. No condition. -/
namespace Go.Proofs.YtnoildlijhapaaaGreatDoor

abbrev HT : Int × Int := (0, 1)
def gp (a : Int × Int) : Nat -> Int × Int
 | 0 => HT
 | n + 1 => gm (gp a n) a
def Cn2 (a : Int × Int) : Prop := Nat.Coprime a.1.natAbs a.2.natAbs /\ (0 < a.2 \/ (a.2 = 0 /\ 0 < a.1))
theorem Cn2.nz {a : Int × Int} (h : Cn2 a) : nz a := fun e => by
 rcases h.2 with h | h <;> omega
end Go.Proofs.YtnoildlijhapaaaGreatDoor

/- Which powers are the identity; transforms; marks. No condition. -/
namespace Go.Proofs.YtnoildlijhapaaaGreatDoor

end Go.Proofs.YtnoildlijhapaaaGreatDoor

/- Sums and determinants of rationals. No condition. -/
namespace Go.Proofs.YtnoildlijhapaaaGreatDoor

def sm : Nat -> (Nat -> Rat) -> Rat
 | 0, _ => 0
 | n + 1, f => sm n f + f n
theorem sm_congr {f g : Nat -> Rat} : ∀ {n : Nat}, (∀ i, i < n -> f i = g i) -> sm n f = sm n g
 | 0, _ => rfl
 | n + 1, h => by simp only [sm]; rw [sm_congr (n := n) (fun i hi => h i (by omega)), h n (by omega)]
theorem sR : ∀ n : Nat, sm n (fun _ => 0) = 0
 | 0 => rfl
 | n + 1 => by simp only [sm]; rw [sR n]; grind
theorem gI {n : Nat} {f : Nat -> Rat} (h : ∀ i, i < n -> f i = 0) : sm n f = 0 := by rw [sm_congr h, sR]
theorem gX (x y : Rat) (f g : Nat -> Rat) : ∀ n : Nat, sm n (fun i => x * f i + y * g i) = x * sm n f + y * sm n g
 | 0 => by simp only [sm]; grind
 | n + 1 => by simp only [sm]; rw [gX x y f g n]; grind
theorem lG (f g : Nat -> Rat) (n : Nat) : sm n (fun i => f i + g i) = sm n f + sm n g := by
 have := gX 1 1 f g n
 rw [sm_congr (g := fun i => 1 * f i + 1 * g i) (fun i _ => by grind), this]; grind
theorem jE (x : Rat) (f : Nat -> Rat) (n : Nat) : sm n (fun i => x * f i) = x * sm n f := by
 have := gX x 0 f f n
 rw [sm_congr (g := fun i => x * f i + 0 * f i) (fun i _ => by grind), this]; grind
theorem sS (f : Nat -> Rat) (n : Nat) : sm n (fun i => - f i) = - sm n f := by
 have := jE (-1) f n
 rw [sm_congr (g := fun i => (-1) * f i) (fun i _ => by grind), this]; grind
theorem mm (f : Nat -> Nat -> Rat) (m : Nat) : ∀ n : Nat, sm n (fun i => sm m (fun j => f i j)) = sm m (fun j => sm n (fun i => f i j))
 | 0 => by simp only [sm]; rw [sR]
 | n + 1 => by simp only [sm]; rw [mm f m n, <- lG]
theorem ew {n j : Nat} (f : Nat -> Rat) (hj : j < n) (h : ∀ i, i < n -> i ≠ j -> f i = 0) : sm n f = f j := by
 induction n with
 | zero => omega
 | succ n ih =>
  simp only [sm]
  by_cases hn : j = n
  ·subst hn
   rw [gI (fun i hi => h i (by omega) (by omega))]; grind
  ·rw [ih (by omega) (fun i hi hne => h i (by omega) hne), h n (by omega) (by omega)]; grind
theorem Ad {n a b : Nat} (f : Nat -> Rat) (ha : a < n) (hb : b < n) (hab : a ≠ b) : sm n f = f a + f b + sm n (fun i => if i = a \/ i = b then 0 else f i) := by
 have e : sm n f = sm n (fun i => (if i = a then f a else 0) + ((if i = b then f b else 0) + (if i = a \/ i = b then 0 else f i))) := sm_congr fun i _ => by
  by_cases h1 : i = a
  ·subst h1; rw [if_pos rfl, if_neg hab, if_pos (Or.inl rfl)]; grind
  ·by_cases h2 : i = b
   ·subst h2; rw [if_neg h1, if_pos rfl, if_pos (Or.inr rfl)]; grind
   ·rw [if_neg h1, if_neg h2, if_neg (by omega)]; grind
 rw [e, lG, lG, ew (j := a) _ ha (fun i _ h => if_neg h), ew (j := b) _ hb (fun i _ h => if_neg h), if_pos rfl, if_pos rfl]
 grind
def sk (i k : Nat) : Nat := if k < i then k else k + 1
theorem EU (i k : Nat) : sk i k ≠ i := by unfold sk; split <;> omega
theorem mn {i k n : Nat} (h : k < n) : sk i k < n + 1 := by unfold sk; split <;> omega
theorem cf (n : Nat) (f : Nat -> Rat) : sm (n + 1) f = sm n f + f n := rfl
theorem xA (f : Nat -> Rat) {i : Nat} : ∀ {n : Nat}, i <= n -> sm n (fun k => f (sk i k)) = sm (n + 1) (fun l => if l = i then 0 else f l)
 | 0, h => by
  have : i = 0 := by omega
  subst this
  rw [cf];simp only [sm, if_true]; grind
 | n + 1, h => by
  rw [cf (n + 1)]
  by_cases hi : i = n + 1
  ·subst hi
   have e1 : sm (n + 1) (fun k => f (sk (n + 1) k)) = sm (n + 1) (fun l => if l = n + 1 then 0 else f l) := sm_congr fun k hk => by
    rw [if_neg (by omega)]; unfold sk; rw [if_pos hk]
   rw [e1];simp only [if_true]; grind
  ·have ih := xA f (i := i) (n := n) (by omega)
   have e2 : sk i n = n + 1 := by unfold sk; rw [if_neg (by omega)]
   rw [cf n (fun k => f (sk i k)), ih, e2];rw [if_neg (show ¬ n + 1 = i by omega)]
def sgD : Nat -> Rat
 | 0 => 1
 | n + 1 => - sgD n
def dt : Nat -> (Nat -> Nat -> Rat) -> Rat
 | 0, _ => 1
 | n + 1, A => sm (n + 1) (fun i => sgD i * A i 0 * dt n (fun r c => A (sk i r) (c + 1)))
theorem bF : ∀ {n : Nat} {A B : Nat -> Nat -> Rat}, (∀ i j, i < n -> j < n -> A i j = B i j) -> dt n A = dt n B
 | 0, _, _, _ => rfl
 | n + 1, A, B, h => by
  simp only [dt];refine sm_congr fun i hi => ?_;rw [h i 0 hi (by omega), bF (n := n) (fun r c hr hc => h (sk i r) (c + 1) (mn hr) (by omega))]
theorem Cm : ∀ {n : Nat} {A B C : Nat -> Nat -> Rat} (r : Nat) (x y : Rat), r < n -> (∀ c, c < n -> A r c = x * B r c + y * C r c) -> (∀ i c, i < n -> c < n -> i ≠ r -> A i c = B i c /\ A i c = C i c) -> dt n A = x * dt n B + y * dt n C
 | 0, _, _, _, r, _, _, h, _, _ => by omega
 | n + 1, A, B, C, r, x, y, hr, h1, h2 => by
  simp only [dt];rw [<- gX];refine sm_congr fun i hi => ?_
  by_cases hir : i = r
  ·subst hir
   have e1 : dt n (fun r c => A (sk i r) (c + 1)) = dt n (fun r c => B (sk i r) (c + 1)) := bF fun a b ha hb => (h2 (sk i a) (b + 1) (mn ha) (by omega) (EU i a)).1
   have e2 : dt n (fun r c => A (sk i r) (c + 1)) = dt n (fun r c => C (sk i r) (c + 1)) := bF fun a b ha hb => (h2 (sk i a) (b + 1) (mn ha) (by omega) (EU i a)).2
   rw [<- e2, <- e1, h1 0 (by omega)]; grind
  ·have e3 := (h2 i 0 hi (by omega) hir)
   obtain ⟨q, hq, hq2⟩ : ∃ q, q < n /\ sk i q = r := by
    by_cases hlt : r < i
    ·exact ⟨r, by omega, by unfold sk; rw [if_pos hlt]⟩
    ·exact ⟨r - 1, by omega, by unfold sk; rw [if_neg (by omega)]; omega⟩
   have ih := Cm (n := n) (A := fun r c => A (sk i r) (c + 1)) (B := fun r c => B (sk i r) (c + 1)) (C := fun r c => C (sk i r) (c + 1)) q x y hq
    (fun c hc => by simp only [hq2]; exact h1 (c + 1) (by omega))
    (fun a c ha hc hne => h2 (sk i a) (c + 1) (mn ha) (by omega) (fun e => hne (by
     have : sk i a = sk i q := e.trans hq2.symm
     unfold sk at this; split at this <;> split at this <;> omega)))
   rw [ih, e3.1]
   have : B i 0 = C i 0 := e3.1.symm.trans e3.2
   rw [<- this]; grind
def nb (r i : Nat) : Nat := if i = r then r + 1 else if i = r + 1 then r else i
theorem mY : ∀ {n : Nat} {A : Nat -> Nat -> Rat} (r : Nat), r + 1 < n -> dt n (fun i c => A (nb r i) c) = - dt n A
 | 0, _, r, h => by omega
 | n + 1, A, r, hr => by
  simp only [dt];rw [<- sS];rw [Ad (a := r) (b := r + 1) _ (by omega) hr (by omega), Ad (n := n + 1) (a := r) (b := r + 1) (fun i => - (sgD i * A i 0 * dt n (fun r c => A (sk i r) (c + 1)))) (by omega) hr (by omega)]
  have e0 : nb r r = r + 1 := by unfold nb; rw [if_pos rfl]
  have e1 : nb r (r + 1) = r := by unfold nb; rw [if_neg (by omega), if_pos rfl]
  have m1 : dt n (fun q c => A (nb r (sk r q)) (c + 1)) = dt n (fun q c => A (sk (r + 1) q) (c + 1)) := bF fun q c _ _ => by
   have : nb r (sk r q) = sk (r + 1) q := by unfold nb sk; (repeat' split) <;> omega
   rw [this]
  have m2 : dt n (fun q c => A (nb r (sk (r + 1) q)) (c + 1)) = dt n (fun q c => A (sk r q) (c + 1)) := bF fun q c _ _ => by
   have : nb r (sk (r + 1) q) = sk r q := by unfold nb sk; (repeat' split) <;> omega
   rw [this]
  have m3 : sm (n + 1) (fun i => if i = r \/ i = r + 1 then 0 else sgD i * A (nb r i) 0 * dt n (fun q c => A (nb r (sk i q)) (c + 1))) =
    sm (n + 1) (fun i => if i = r \/ i = r + 1 then 0 else -(sgD i * A i 0 * dt n (fun q c => A (sk i q) (c + 1)))) := sm_congr fun i hi => by
   by_cases h : i = r \/ i = r + 1
   ·rw [if_pos h, if_pos h]
   ·rw [if_neg h, if_neg h]
    have e2 : nb r i = i := by unfold nb; rw [if_neg (by omega), if_neg (by omega)]
    rw [e2]
    by_cases hlt : i < r
    ·have ih := mY (n := n) (A := fun q c => A (sk i q) (c + 1)) (r - 1) (by omega)
     have : dt n (fun q c => A (nb r (sk i q)) (c + 1)) = dt n (fun q c => A (sk i (nb (r - 1) q)) (c + 1)) := bF fun q c _ _ => by
      have : nb r (sk i q) = sk i (nb (r - 1) q) := by unfold nb sk; (repeat' split) <;> omega
      rw [this]
     rw [this, ih]; grind
    ·have ih := mY (n := n) (A := fun q c => A (sk i q) (c + 1)) r (by omega)
     have : dt n (fun q c => A (nb r (sk i q)) (c + 1)) = dt n (fun q c => A (sk i (nb r q)) (c + 1)) := bF fun q c _ _ => by
      have : nb r (sk i q) = sk i (nb r q) := by unfold nb sk; (repeat' split) <;> omega
      rw [this]
     rw [this, ih]; grind
  rw [e0, e1, m1, m2, m3]
  have s : sgD (r + 1) = - sgD r := rfl
  rw [s]; grind
end Go.Proofs.YtnoildlijhapaaaGreatDoor

/- Determinants: rows and columns. No condition. -/
namespace Go.Proofs.YtnoildlijhapaaaGreatDoor

theorem GD {n : Nat} {A : Nat -> Nat -> Rat} (r : Nat) (hr : r + 1 < n) (h : ∀ c, c < n -> A r c = A (r + 1) c) : dt n A = 0 := by
 have h1 := mY (A := A) r hr
 have h2 : dt n (fun i c => A (nb r i) c) = dt n A := bF fun i c _ hc => by
  unfold nb
  by_cases h0 : i = r
  ·rw [if_pos h0, h0]; exact (h c hc).symm
  ·rw [if_neg h0]
   by_cases h0' : i = r + 1
   ·rw [if_pos h0', h0']; exact h c hc
   ·rw [if_neg h0']
 rw [h2] at h1; grind
theorem tZ {n : Nat} : ∀ (d : Nat) {A : Nat -> Nat -> Rat} (r : Nat), r + d + 1 < n -> (∀ c, c < n -> A r c = A (r + d + 1) c) -> dt n A = 0
 | 0, A, r, hr, h => GD r (by omega) h
 | d + 1, A, r, hr, h => by
  have h1 := mY (A := A) (r + d + 1) (by omega)
  have h2 : dt n (fun i c => A (nb (r + d + 1) i) c) = 0 := tZ d r (by omega) fun c hc => by
   have e1 : nb (r + d + 1) r = r := by unfold nb; (repeat' split) <;> omega
   have e2 : nb (r + d + 1) (r + d + 1) = r + (d + 1) + 1 := by unfold nb; (repeat' split) <;> omega
   rw [e1, e2]; exact h c hc
  rw [h2] at h1; grind
theorem Eh {n : Nat} {A : Nat -> Nat -> Rat} {r s : Nat} (hr : r < n) (hs : s < n) (hne : r ≠ s) (h : ∀ c, c < n -> A r c = A s c) : dt n A = 0 := by
 rcases Nat.lt_or_gt_of_ne hne with hlt | hlt
 ·exact tZ (s - r - 1) r (by omega) (fun c hc => by rw [h c hc]; congr 1; omega)
 ·exact tZ (r - s - 1) s (by omega) (fun c hc => by rw [<- h c hc]; congr 1; omega)
theorem Ei {n : Nat} {A B : Nat -> Nat -> Rat} {r s : Nat} (x : Rat) (hr : r < n) (hs : s < n) (hne : r ≠ s) (h1 : ∀ c, c < n -> B r c = A r c + x * A s c) (h2 : ∀ i c, i < n -> c < n -> i ≠ r -> B i c = A i c) : dt n B = dt n A := by
 have := Cm (A := B) (B := A) (C := fun i c => if i = r then A s c else A i c) r 1 x hr (fun c hc => by simp only [if_true]; rw [h1 c hc]; grind) (fun i c hi hc hir => ⟨h2 i c hi hc hir, by rw [if_neg hir]; exact h2 i c hi hc hir⟩)
 rw [this, Eh (A := fun i c => if i = r then A s c else A i c) hr hs hne (fun c _ => by simp only [if_true]; rw [if_neg (Ne.symm hne)])]
 grind
theorem w6 : ∀ {n : Nat} {A B C : Nat -> Nat -> Rat} (k : Nat) (x y : Rat), k < n -> (∀ i, i < n -> A i k = x * B i k + y * C i k) -> (∀ i c, i < n -> c < n -> c ≠ k -> A i c = B i c /\ A i c = C i c) -> dt n A = x * dt n B + y * dt n C
 | 0, _, _, _, k, _, _, h, _, _ => by omega
 | n + 1, A, B, C, k, x, y, hk, h1, h2 => by
  simp only [dt];rw [<- gX];refine sm_congr fun i hi => ?_
  rcases k with _ | k
  ·have e1 : dt n (fun r c => A (sk i r) (c + 1)) = dt n (fun r c => B (sk i r) (c + 1)) := bF fun a b ha hb => (h2 (sk i a) (b + 1) (mn ha) (by omega) (by omega)).1
   have e2 : dt n (fun r c => A (sk i r) (c + 1)) = dt n (fun r c => C (sk i r) (c + 1)) := bF fun a b ha hb => (h2 (sk i a) (b + 1) (mn ha) (by omega) (by omega)).2
   rw [<- e2, <- e1, h1 i hi]; grind
  ·have ih := w6 (n := n) (A := fun r c => A (sk i r) (c + 1)) (B := fun r c => B (sk i r) (c + 1)) (C := fun r c => C (sk i r) (c + 1)) k x y (by omega)
    (fun a ha => h1 (sk i a) (mn ha)) (fun a c ha hc hne => h2 (sk i a) (c + 1) (mn ha) (by omega) (by omega))
   have e3 := h2 i 0 hi (by omega) (by omega)
   rw [ih, e3.1]
   have : B i 0 = C i 0 := e3.1.symm.trans e3.2
   rw [<- this]; grind
def s2 (i l : Nat) : Rat := if l < i then sgD i * sgD l else - (sgD i * sgD l)
def p2 (i l q : Nat) : Nat := if i < l then sk i (sk (l - 1) q) else sk i (sk l q)
theorem DB {i l : Nat} (h : i ≠ l) (q : Nat) : p2 i l q = p2 l i q := by
 unfold p2 sk; (repeat' split) <;> omega
theorem Cl (n : Nat) (A : Nat -> Nat -> Rat) : dt (n + 2) A = sm (n + 2) (fun i => sm (n + 2) (fun l => if l = i then 0 else s2 i l * (A i 0 * A l 1) * dt n (fun q c => A (p2 i l q) (c + 2)))) := by
 show sm (n + 2) (fun i => sgD i * A i 0 * dt (n + 1) (fun r c => A (sk i r) (c + 1))) = _
 refine sm_congr fun i hi => ?_
 show sgD i * A i 0 * sm (n + 1) (fun k => sgD k * A (sk i k) 1 * dt n (fun r c => A (sk i (sk k r)) (c + 2))) = _
 rw [<- jE]
 have := xA (fun l => s2 i l * (A i 0 * A l 1) * dt n (fun q c => A (p2 i l q) (c + 2))) (i := i) (n := n + 1) (by omega)
 rw [<- this];refine sm_congr fun k hk => ?_
 have e : dt n (fun r c => A (sk i (sk k r)) (c + 2)) = dt n (fun q c => A (p2 i (sk i k) q) (c + 2)) := bF fun q c _ _ => by
  have : sk i (sk k q) = p2 i (sk i k) q := by unfold p2 sk; (repeat' split) <;> omega
  rw [this]
 rw [e]
 by_cases hki : k < i
 ·have e1 : sk i k = k := by unfold sk; rw [if_pos hki]
  rw [e1]; unfold s2; rw [if_pos hki]; grind
 ·have e1 : sk i k = k + 1 := by unfold sk; rw [if_neg hki]
  have e2 : sgD (k + 1) = - sgD k := rfl
  rw [e1]; unfold s2; rw [if_neg (by omega), e2]; grind
theorem qX : ∀ {n : Nat} {A : Nat -> Nat -> Rat} (k : Nat), k + 1 < n -> dt n (fun i c => A i (nb k c)) = - dt n A
 | 0, _, _, h => by omega
 | 1, _, _, h => by omega
 | n + 2, A, k, hk => by
  rcases k with _ | k
  ·rw [Cl, Cl, mm, <- sS];refine sm_congr fun i _ => ?_;rw [<- sS];refine sm_congr fun l _ => ?_
   by_cases hil : i = l
   ·rw [if_pos hil, if_pos hil.symm]; grind
   ·rw [if_neg hil, if_neg (Ne.symm hil)]
    have e1 : dt n (fun q c => A (p2 l i q) (nb 0 (c + 2))) = dt n (fun q c => A (p2 i l q) (c + 2)) := bF fun q c _ _ => by
     rw [DB (Ne.symm hil)]
     have : nb 0 (c + 2) = c + 2 := by unfold nb; (repeat' split) <;> omega
     rw [this]
    have e2 : nb 0 0 = 1 := rfl
    have e3 : nb 0 1 = 0 := rfl
    have e4 : s2 l i = - s2 i l := by
     unfold s2
     rcases Nat.lt_or_gt_of_ne hil with h | h
     ·rw [if_pos h, if_neg (by omega)]; grind
     ·rw [if_neg (by omega), if_pos h]; grind
    rw [e1, e2, e3, e4]; grind
  ·show sm (n + 2) _ = - sm (n + 2) _
   rw [<- sS];refine sm_congr fun i _ => ?_
   have ih := qX (n := n + 1) (A := fun r c => A (sk i r) (c + 1)) k (by omega)
   have e1 : dt (n + 1) (fun r c => A (sk i r) (nb (k + 1) (c + 1))) = dt (n + 1) (fun r c => A (sk i r) (nb k c + 1)) := bF fun r c _ _ => by
    have : nb (k + 1) (c + 1) = nb k c + 1 := by unfold nb; (repeat' split) <;> omega
    rw [this]
   have e2 : nb (k + 1) 0 = 0 := by unfold nb; (repeat' split) <;> omega
   show sgD i * A i (nb (k + 1) 0) * dt (n + 1) (fun r c => A (sk i r) (nb (k + 1) (c + 1))) = _
   rw [e1, e2, ih]; grind
end Go.Proofs.YtnoildlijhapaaaGreatDoor

/- Determinants: columns, triangles, minors, Cramer's rule. No condition. -/
namespace Go.Proofs.YtnoildlijhapaaaGreatDoor

theorem GE {n : Nat} {A : Nat -> Nat -> Rat} (k : Nat) (hk : k + 1 < n) (h : ∀ i, i < n -> A i k = A i (k + 1)) : dt n A = 0 := by
 have h1 := qX (A := A) k hk
 have h2 : dt n (fun i c => A i (nb k c)) = dt n A := bF fun i c hi _ => by
  unfold nb
  by_cases h0 : c = k
  ·rw [if_pos h0, h0]; exact (h i hi).symm
  ·rw [if_neg h0]
   by_cases h0' : c = k + 1
   ·rw [if_pos h0', h0']; exact h i hi
   ·rw [if_neg h0']
 rw [h2] at h1; grind
theorem ua {n : Nat} : ∀ (d : Nat) {A : Nat -> Nat -> Rat} (k : Nat), k + d + 1 < n -> (∀ i, i < n -> A i k = A i (k + d + 1)) -> dt n A = 0
 | 0, A, k, hk, h => GE k (by omega) h
 | d + 1, A, k, hk, h => by
  have h1 := qX (A := A) (k + d + 1) (by omega)
  have h2 : dt n (fun i c => A i (nb (k + d + 1) c)) = 0 := ua d k (by omega) fun i hi => by
   have e1 : nb (k + d + 1) k = k := by unfold nb; (repeat' split) <;> omega
   have e2 : nb (k + d + 1) (k + d + 1) = k + (d + 1) + 1 := by unfold nb; (repeat' split) <;> omega
   rw [e1, e2]; exact h i hi
  rw [h2] at h1; grind
theorem El {n : Nat} {A : Nat -> Nat -> Rat} {k l : Nat} (hk : k < n) (hl : l < n) (hne : k ≠ l) (h : ∀ i, i < n -> A i k = A i l) : dt n A = 0 := by
 rcases Nat.lt_or_gt_of_ne hne with hlt | hlt
 ·exact ua (l - k - 1) k (by omega) (fun i hi => by rw [h i hi]; congr 1; omega)
 ·exact ua (k - l - 1) l (by omega) (fun i hi => by rw [<- h i hi]; congr 1; omega)
theorem Df (q : Nat) : sk 0 q = q + 1 := by unfold sk; rw [if_neg (by omega)]
theorem Ek {n : Nat} {A : Nat -> Nat -> Rat} (h : ∀ i, 0 < i -> i < n + 1 -> A i 0 = 0) : dt (n + 1) A = A 0 0 * dt n (fun i c => A (i + 1) (c + 1)) := by
 show sm (n + 1) _ = _
 rw [ew (j := 0) _ (by omega) (fun i hi hne => by rw [h i (by omega) hi]; grind)]
 have e : sgD 0 = 1 := rfl
 rw [e, bF (A := fun r c => A (sk 0 r) (c + 1)) (B := fun i c => A (i + 1) (c + 1)) (fun i c _ _ => by rw [Df])]
 grind
def pr : Nat -> (Nat -> Rat) -> Rat
 | 0, _ => 1
 | n + 1, f => f 0 * pr n (fun i => f (i + 1))
theorem uS : ∀ {n : Nat} {f g : Nat -> Rat}, (∀ i, i < n -> f i = g i) -> pr n f = pr n g
 | 0, _, _, _ => rfl
 | n + 1, f, g, h => by simp only [pr]; rw [h 0 (by omega), uS (n := n) (fun i hi => h (i + 1) (by omega))]
theorem vF : ∀ {n : Nat} {A : Nat -> Nat -> Rat}, (∀ i j, i < n -> j < i -> A i j = 0) -> dt n A = pr n (fun i => A i i)
 | 0, _, _ => rfl
 | n + 1, A, h => by
  rw [Ek (fun i h0 hi => h i 0 hi h0), vF (n := n) (fun i j hi hj => h (i + 1) (j + 1) (by omega) (by omega))]; rfl
theorem yp {n : Nat} {A : Nat -> Nat -> Rat} (x : Nat -> Rat) {k : Nat} (hk : k < n) : ∀ m, m <= n -> dt n (fun i c => if c = k then sm m (fun j => x j * A i j) else A i c) = sm m (fun j => if j = k then x k * dt n A else 0)
 | 0, _ => by
  have := w6 (A := fun i c => if c = k then sm 0 (fun j => x j * A i j) else A i c) (B := fun i c => if c = k then sm 0 (fun j => x j * A i j) else A i c) (C := fun i c => if c = k then sm 0 (fun j => x j * A i j) else A i c) k 0 0 hk (fun i _ => by simp only [if_true, sm]; grind) (fun i c _ _ _ => ⟨rfl, rfl⟩)
  rw [this]; simp only [sm]; grind
 | m + 1, hm => by
  have := w6 (A := fun i c => if c = k then sm (m + 1) (fun j => x j * A i j) else A i c) (B := fun i c => if c = k then sm m (fun j => x j * A i j) else A i c) (C := fun i c => if c = k then A i m else A i c) k 1 (x m) hk (fun i _ => by simp only [if_true, sm]; grind) (fun i c _ _ hc => ⟨by rw [if_neg hc, if_neg hc], by rw [if_neg hc, if_neg hc]⟩)
  rw [this, yp x hk m (by omega), cf]
  by_cases h : m = k
  ·rw [if_pos h, bF (A := fun i c => if c = k then A i m else A i c) (B := A) (fun i c _ _ => by
    by_cases hc : c = k
    ·rw [if_pos hc, hc, h]
    ·rw [if_neg hc]), h]; grind
  ·rw [if_neg h, El (A := fun i c => if c = k then A i m else A i c) (k := k) (l := m) hk (by omega) (fun e => h e.symm) (fun i _ => by simp only [if_true]; rw [if_neg h])]; grind
theorem Ct {n : Nat} {A : Nat -> Nat -> Rat} {x b : Nat -> Rat} {k : Nat} (hk : k < n) (h : ∀ i, i < n -> sm n (fun j => A i j * x j) = b i) : x k * dt n A = dt n (fun i c => if c = k then b i else A i c) := by
 have h1 := yp (A := A) x hk n (Nat.le_refl _)
 rw [ew (j := k) _ hk (fun i _ hne => if_neg hne), if_pos rfl] at h1;rw [<- h1];refine bF fun i c hi _ => ?_
 by_cases hc : c = k
 ·rw [if_pos hc, if_pos hc, <- h i hi]; exact sm_congr fun j _ => by grind
 ·rw [if_neg hc, if_neg hc]
end Go.Proofs.YtnoildlijhapaaaGreatDoor

/- The matrix-tree theorem: determinants of Laplacians count spanning forests. No condition. -/
namespace Go.Proofs.YtnoildlijhapaaaGreatDoor

structure WL where
 f : Nat
 t : Nat
 w : Rat
def uu (p : Nat -> Nat) (x : WL) (i : Nat) : Rat := (if p x.f = i then 1 else 0) - (if p x.t = i then 1 else 0)
def lpl (p : Nat -> Nat) : List WL -> Nat -> Nat -> Rat
 | [], _, _ => 0
 | x :: xs, i, j => lpl p xs i j + x.w * (uu p x i * uu p x j)
theorem vg (p : Nat -> Nat) : ∀ (ls : List WL) (i j : Nat), lpl p ls i j = lpl p ls j i
 | [], _, _ => rfl
 | x :: xs, i, j => by simp only [lpl]; rw [vg p xs i j]; grind
structure VP (n : Nat) (p : Nat -> Nat) : Prop where
 lt : ∀ v, v < n -> p v < n
 id : ∀ v, v < n -> p (p v) = p v
end Go.Proofs.YtnoildlijhapaaaGreatDoor

/- The matrix-tree theorem: both ends in sight; the theorem. No condition. -/
namespace Go.Proofs.YtnoildlijhapaaaGreatDoor

end Go.Proofs.YtnoildlijhapaaaGreatDoor

/- The matrix-tree theorem. No condition. -/
namespace Go.Proofs.YtnoildlijhapaaaGreatDoor

end Go.Proofs.YtnoildlijhapaaaGreatDoor

/- The factors L and D of a symmetric matrix. No condition. -/
namespace Go.Proofs.YtnoildlijhapaaaGreatDoor

theorem iz {f : Nat -> Rat} {m : Nat} : ∀ {n : Nat}, m <= n -> (∀ k, m <= k -> k < n -> f k = 0) -> sm n f = sm m f
 | 0, h, _ => by
  have : m = 0 := by omega
  rw [this]
 | n + 1, h, hz => by
  by_cases e : m = n + 1
  ·rw [e]
  ·rw [cf, hz n (by omega) (by omega), iz (n := n) (by omega) (fun k h1 h2 => hz k h1 (by omega))]; grind
theorem yo {n : Nat} {A : Nat -> Nat -> Rat} (x : Nat -> Rat) {r : Nat} (hr : r < n) : ∀ m, m <= r -> dt n (fun i c => if i = r then A r c + sm m (fun k => x k * A k c) else A i c) = dt n A
 | 0, _ => bF fun i c _ _ => by
  by_cases h : i = r
  ·rw [if_pos h, h]; simp only [sm]; grind
  ·rw [if_neg h]
 | m + 1, hm => by
  rw [<- yo (A := A) x hr m (by omega)];refine Ei (r := r) (s := m) (x m) hr (by omega) (by omega) (fun c _ => ?_) (fun i c _ _ hi => ?_)
  ·simp only [if_true];rw [if_neg (show ¬ m = r by omega), cf]; grind
  ·rw [if_neg hi, if_neg hi]
theorem HE {n : Nat} {L U : Nat -> Nat -> Rat} (h1 : ∀ i, i < n -> L i i = 1) (h2 : ∀ i k, i < n -> k < n -> i < k -> L i k = 0) : dt n (fun i c => sm n (fun k => L i k * U k c)) = dt n U := by
 have row : ∀ i c, i < n -> sm n (fun k => L i k * U k c) = U i c + sm i (fun k => L i k * U k c) := fun i c hi => by
  rw [iz (m := i + 1) (by omega) (fun k hk hkn => by rw [h2 i k hi hkn (by omega)]; grind), cf, h1 i hi]; grind
 have key : ∀ m, m <= n -> dt n (fun i c => if i < m then U i c else sm n (fun k => L i k * U k c)) = dt n (fun i c => sm n (fun k => L i k * U k c)) := by
  intro m
  induction m with
  | zero => intro _; exact bF fun i c _ _ => if_neg (by omega)
  | succ m ih =>
   intro hm
   rw [<- ih (by omega)]
   have := yo (n := n) (A := fun i c => if i < m + 1 then U i c else sm n (fun k => L i k * U k c)) (fun k => L m k) (r := m) (by omega) m (Nat.le_refl _)
   rw [<- this];refine bF fun i c hi _ => ?_
   by_cases h : i = m
   ·subst h
    rw [if_pos rfl, if_pos (show i < i + 1 by omega), if_neg (show ¬ i < i by omega), row i c hi]
    congr 1
    refine sm_congr fun k hk => ?_;rw [if_pos (show k < i + 1 by omega)]
   ·rw [if_neg h]
    by_cases h' : i < m
    ·rw [if_pos (by omega), if_pos h']
    ·rw [if_neg (by omega), if_neg h']
 rw [<- key n (Nat.le_refl _)];exact bF fun i c hi _ => if_pos hi
def lr (B l : Nat -> Nat -> Rat) (d : Nat -> Rat) (i : Nat) : Nat -> Nat -> Rat
 | 0, _ => 0
 | j + 1, c => if c = j then (B i j - sm j (fun k => lr B l d i j k * l j k * d k)) / d j else lr B l d i j c
theorem tJ (B l : Nat -> Nat -> Rat) (d : Nat -> Rat) (i : Nat) {j c : Nat} : ∀ {m : Nat}, c < j -> j <= m -> lr B l d i m c = lr B l d i j c
 | 0, h, h' => by omega
 | m + 1, h, h' => by
  by_cases e : j = m + 1
  ·rw [e]
  ·simp only [lr]; rw [if_neg (by omega)]; exact tJ B l d i (m := m) h (by omega)
theorem Hv (B l : Nat -> Nat -> Rat) (d : Nat -> Rat) (i : Nat) {j m : Nat} (h : j < m) : lr B l d i m j = (B i j - sm j (fun k => lr B l d i m k * l j k * d k)) / d j := by
 rw [tJ B l d i (j := j + 1) (m := m) (by omega) (by omega)];simp only [lr, if_true];rw [sm_congr (f := fun k => lr B l d i j k * l j k * d k) (g := fun k => lr B l d i m k * l j k * d k) (fun k hk => by rw [tJ B l d i (j := j) (m := m) hk (by omega)])]
theorem E6 (B l : Nat -> Nat -> Rat) (d : Nat -> Rat) (i : Nat) : ∀ {m c : Nat}, m <= c -> lr B l d i m c = 0
 | 0, _, _ => rfl
 | m + 1, c, h => by simp only [lr]; rw [if_neg (by omega)]; exact E6 B l d i (by omega)
theorem mK {B l l' : Nat -> Nat -> Rat} {d d' : Nat -> Rat} {i : Nat} : ∀ {m : Nat} (c : Nat), (∀ j k, j < m -> k < j -> l j k = l' j k) -> (∀ k, k < m -> d k = d' k) -> lr B l d i m c = lr B l' d' i m c
 | 0, _, _, _ => rfl
 | m + 1, c, hl, hd => by
  simp only [lr];rw [mK (m := m) c (fun j k h1 h2 => hl j k (by omega) h2) (fun k hk => hd k (by omega)), hd m (by omega)];rw [sm_congr (f := fun k => lr B l d i m k * l m k * d k) (g := fun k => lr B l' d' i m k * l' m k * d' k) (fun k hk => by rw [mK (m := m) k (fun j k h1 h2 => hl j k (by omega) h2) (fun k hk => hd k (by omega)), hl m k (by omega) hk, hd k (by omega)])]
def fac (B : Nat -> Nat -> Rat) : Nat -> (Nat -> Nat -> Rat) × (Nat -> Rat)
 | 0 => (fun _ _ => 0, fun _ => 0)
 | i + 1 => (fun r c => if r = i then (if c = i then 1 else lr B (fac B i).1 (fac B i).2 i i c) else (fac B i).1 r c,
   fun k => if k = i then B i i - sm i (fun j => lr B (fac B i).1 (fac B i).2 i i j * lr B (fac B i).1 (fac B i).2 i i j * (fac B i).2 j) else (fac B i).2 k)
def LL (B : Nat -> Nat -> Rat) (r c : Nat) : Rat := (fac B (r + 1)).1 r c
def DD (B : Nat -> Nat -> Rat) (k : Nat) : Rat := (fac B (k + 1)).2 k
theorem jt (B : Nat -> Nat -> Rat) {r c : Nat} : ∀ {m : Nat}, r < m -> (fac B m).1 r c = LL B r c /\ (fac B m).2 r = DD B r
 | 0, h => by omega
 | m + 1, h => by
  by_cases e : r = m
  ·subst e; exact ⟨rfl, rfl⟩
  ·simp only [fac]; rw [if_neg e, if_neg e]; exact jt B (m := m) (by omega)
theorem yB (B : Nat -> Nat -> Rat) {i c : Nat} (h : c ≠ i) : LL B i c = lr B (LL B) (DD B) i i c := by
 show (fac B (i + 1)).1 i c = _
 simp only [fac, if_true];rw [if_neg h];exact mK c (fun j k h1 _ => (jt B h1).1) (fun k hk => (jt B (c := 0) hk).2)
theorem dN (B : Nat -> Nat -> Rat) (i : Nat) : LL B i i = 1 := by
 show (fac B (i + 1)).1 i i = _
 simp only [fac, if_true]
theorem jz (B : Nat -> Nat -> Rat) {i c : Nat} (h : i < c) : LL B i c = 0 := by
 rw [yB B (by omega)]; exact E6 _ _ _ _ (by omega)
theorem CQ (B : Nat -> Nat -> Rat) {i j : Nat} (h : j < i) (hd : DD B j ≠ 0) : LL B i j * DD B j = B i j - sm j (fun k => LL B i k * LL B j k * DD B k) := by
 rw [yB B (by omega), Hv _ _ _ _ h];rw [sm_congr (f := fun k => lr B (LL B) (DD B) i i k * LL B j k * DD B k) (g := fun k => LL B i k * LL B j k * DD B k) (fun k hk => by rw [<- yB B (show k ≠ i by omega)])]
 grind
theorem Fl (B : Nat -> Nat -> Rat) (i : Nat) : DD B i = B i i - sm i (fun j => LL B i j * LL B i j * DD B j) := by
 show (fac B (i + 1)).2 i = _
 simp only [fac, if_true]
 congr 1
 refine sm_congr fun j hj => ?_
 have e : lr B (fac B i).1 (fac B i).2 i i j = LL B i j := by
  rw [yB B (by omega)];exact mK j (fun j k h1 _ => (jt B h1).1) (fun k hk => (jt B (c := 0) hk).2)
 rw [e, (jt B (c := 0) hj).2]
theorem ldl {B : Nat -> Nat -> Rat} {n : Nat} (hs : ∀ i j, i < n -> j < n -> B i j = B j i) (hd : ∀ k, k + 1 < n -> DD B k ≠ 0) {i j : Nat} (hi : i < n) (hj : j < n) : sm n (fun k => LL B i k * (DD B k * LL B j k)) = B i j := by
 have low : ∀ i j, i < n -> j <= i -> sm n (fun k => LL B i k * (DD B k * LL B j k)) = B i j := by
  intro i j hi hji
  rw [iz (m := j + 1) (by omega) (fun k hk _ => by rw [jz B (show j < k by omega)]; grind), cf, dN]
  by_cases e : j = i
  ·subst e
   have := Fl B j
   rw [dN, sm_congr (g := fun k => LL B j k * LL B j k * DD B k) (fun k _ => by grind)]; grind
  ·have := CQ B (i := i) (j := j) (by omega) (hd j (by omega))
   rw [sm_congr (g := fun k => LL B i k * LL B j k * DD B k) (fun k _ => by grind)]; grind
 rcases Nat.le_total j i with h | h
 ·exact low i j hi h
 ·rw [hs i j hi hj, <- low j i hj h]
  exact sm_congr fun k _ => by grind
theorem w5 {B : Nat -> Nat -> Rat} {n : Nat} (hs : ∀ i j, i < n -> j < n -> B i j = B j i) (hd : ∀ k, k + 1 < n -> DD B k ≠ 0) : dt n B = pr n (DD B) := by
 rw [bF (A := B) (B := fun i c => sm n (fun k => LL B i k * (fun k c => DD B k * LL B c k) k c)) (fun i c hi hc => (ldl hs hd hi hc).symm)];rw [HE (L := LL B) (U := fun k c => DD B k * LL B c k) (fun i _ => dN B i) (fun i k _ _ h => jz B h)];rw [vF (fun i j _ hj => by rw [jz B hj]; grind)]
 exact uS fun i _ => by rw [dN]; grind
end Go.Proofs.YtnoildlijhapaaaGreatDoor

/- Definite forms; solving by the factors. No condition. -/
namespace Go.Proofs.YtnoildlijhapaaaGreatDoor

def fm (n : Nat) (B : Nat -> Nat -> Rat) (x : Nat -> Rat) : Rat := sm n (fun i => x i * sm n (fun j => B i j * x j))
theorem pO (f : Nat -> Rat) (x : Rat) (n : Nat) : sm n (fun i => f i * x) = sm n f * x := by
 rw [sm_congr (g := fun i => x * f i) (fun i _ => by grind), jE]; grind
theorem tK {B : Nat -> Nat -> Rat} {n : Nat} (hs : ∀ i j, i < n -> j < n -> B i j = B j i) (hd : ∀ k, k + 1 < n -> DD B k ≠ 0) (x : Nat -> Rat) {i : Nat} (hi : i < n) :
  sm n (fun j => B i j * x j) = sm n (fun k => LL B i k * (DD B k * sm n (fun j => LL B j k * x j))) := by
 rw [sm_congr (g := fun j => sm n (fun k => LL B i k * (DD B k * (LL B j k * x j)))) (fun j hj => by
  rw [<- ldl hs hd hi hj, <- pO]
  exact sm_congr fun k _ => by grind), mm]
 refine sm_congr fun k _ => ?_;rw [<- jE, <- jE]
theorem B1 {B : Nat -> Nat -> Rat} {n : Nat} (hs : ∀ i j, i < n -> j < n -> B i j = B j i) (hd : ∀ k, k + 1 < n -> DD B k ≠ 0) (x : Nat -> Rat) :
  fm n B x = sm n (fun k => DD B k * (sm n (fun j => LL B j k * x j) * sm n (fun j => LL B j k * x j))) := by
 unfold fm
 rw [sm_congr (g := fun i => sm n (fun k => LL B i k * x i * (DD B k * sm n (fun j => LL B j k * x j)))) (fun i hi => by
  rw [tK hs hd x hi, <- jE]
  exact sm_congr fun k _ => by grind), mm]
 refine sm_congr fun k _ => ?_;rw [pO]; grind
theorem sP (x : Rat) : 0 <= x * x := by
 rcases (show 0 <= x \/ x <= 0 by grind) with h | h
 ·exact Rat.mul_nonneg h h
 ·have := Rat.mul_nonneg (show 0 <= -x by grind) (show 0 <= -x by grind); grind
theorem Hd {n : Nat} {f : Nat -> Rat} (h : ∀ i, i < n -> 0 <= f i) : 0 <= sm n f := by
 induction n with
 | zero => show (0 : Rat) <= 0; grind
 | succ n ih =>
  rw [cf]
  have h1 := ih fun i hi => h i (by omega)
  have h2 := h n (by omega)
  grind
theorem Fz {n : Nat} {f : Nat -> Rat} (h : ∀ i, i < n -> 0 <= f i) {k : Nat} (hk : k < n) (hp : 0 < f k) : 0 < sm n f := by
 induction n with
 | zero => omega
 | succ n ih =>
  rw [cf]
  by_cases e : k = n
  ·subst e
   have := Hd (n := k) fun i hi => h i (by omega)
   grind
  ·have h1 := ih (fun i hi => h i (by omega)) (by omega)
   have h2 := h n (by omega)
   grind
def bsx (L : Nat -> Nat -> Rat) (b : Nat -> Rat) (n : Nat) : Nat -> Nat -> Rat
 | 0, _ => 0
 | s + 1, i => if i + s + 1 = n then b i - sm n (fun j => if i < j then L j i * bsx L b n s j else 0) else bsx L b n s i
theorem kD (L : Nat -> Nat -> Rat) (b : Nat -> Rat) {n i : Nat} : ∀ {m s : Nat}, n <= i + s -> s <= m -> bsx L b n m i = bsx L b n s i
 | 0, s, h, h' => by
  have : s = 0 := by omega
  rw [this]
 | m + 1, s, h, h' => by
  by_cases e : s = m + 1
  ·rw [e]
  ·simp only [bsx]; rw [if_neg (by omega)]; exact kD L b (m := m) h (by omega)
theorem xd {L : Nat -> Nat -> Rat} {b : Nat -> Rat} {n : Nat} (h1 : ∀ i, i < n -> L i i = 1) (h2 : ∀ i k, i < n -> k < n -> i < k -> L i k = 0) {m : Nat} (hm : m < n) : sm n (fun i => L i m * bsx L b n n i) = b m := by
 have e1 : bsx L b n n m = b m - sm n (fun j => if m < j then L j m * bsx L b n n j else 0) := by
  rw [kD L b (m := n) (s := n - m) (by omega) (by omega)]
  obtain ⟨s, hs⟩ : ∃ s, n - m = s + 1 := ⟨n - m - 1, by omega⟩
  rw [hs];simp only [bsx]
  rw [if_pos (by omega), sm_congr (f := fun j => if m < j then L j m * bsx L b n s j else 0) (g := fun j => if m < j then L j m * bsx L b n n j else 0) (fun j hj => by
   by_cases h : m < j
   ·rw [if_pos h, if_pos h, kD L b (m := n) (s := s) (i := j) (by omega) (by omega)]
   ·rw [if_neg h, if_neg h])]
 have e2 : sm n (fun i => L i m * bsx L b n n i) = sm n (fun i => (if i = m then bsx L b n n m else 0) + (if m < i then L i m * bsx L b n n i else 0)) := sm_congr fun i hi => by
  by_cases h : i = m
  ·subst h; rw [if_pos rfl, if_neg (by omega), h1 i hi]; grind
  ·by_cases h' : m < i
   ·rw [if_neg h, if_pos h']; grind
   ·rw [if_neg h, if_neg h', h2 i m hi hm (by omega)]; grind
 rw [e2, lG, ew (j := m) _ hm (fun i _ h => if_neg h), if_pos rfl]
 grind
theorem E3 {B : Nat -> Nat -> Rat} {n : Nat} (hs : ∀ i j, i < n -> j < n -> B i j = B j i) (hd : ∀ k, k < n -> 0 < DD B k) {x : Nat -> Rat} (hx : ∃ i, i < n /\ x i ≠ 0) : 0 < fm n B x := by
 rw [B1 hs (fun k hk => by have := hd k (by omega); grind)]
 have ne : ∃ k, k < n /\ sm n (fun j => LL B j k * x j) ≠ 0 := by
  refine Classical.byContradiction fun hcon => ?_
  have hz : ∀ k, k < n -> sm n (fun j => LL B j k * x j) = 0 := fun k hk => Classical.byContradiction fun e => hcon ⟨k, hk, e⟩
  have all : ∀ d k, k < n -> n <= k + d + 1 -> x k = 0 := by
   intro d
   induction d with
   | zero =>
    intro k hk hd
    have := hz k hk
    rw [ew (j := k) _ hk (fun i hi hne => by rw [jz B (show i < k by omega)]; grind), dN] at this
    grind
   | succ d ih =>
    intro k hk hd
    have := hz k hk
    rw [ew (j := k) _ hk (fun i hi hne => by
     rcases Nat.lt_or_gt_of_ne hne with h | h
     ·rw [jz B h]; grind
     ·rw [ih i hi (by omega)]; grind), dN] at this
    grind
  obtain ⟨i, h1, h2⟩ := hx
  exact h2 (all n i h1 (by omega))
 obtain ⟨k, hk, hne⟩ := ne
 refine Fz (fun i hi => Rat.mul_nonneg (by have := hd i hi; grind) (sP _)) hk ?_
 have h1 := hd k hk
 have h2 : 0 < sm n (fun j => LL B j k * x j) * sm n (fun j => LL B j k * x j) := by
  have := sP (sm n (fun j => LL B j k * x j))
  have h3 : sm n (fun j => LL B j k * x j) * sm n (fun j => LL B j k * x j) ≠ 0 := fun e => by
   rcases Rat.mul_eq_zero.1 e with h | h <;> exact hne h
  grind
 exact Rat.mul_pos h1 h2
theorem Gb {B : Nat -> Nat -> Rat} {n : Nat} (hs : ∀ i j, i < n -> j < n -> B i j = B j i) (hp : ∀ x : Nat -> Rat, (∃ i, i < n /\ x i ≠ 0) -> 0 < fm n B x) : ∀ k, k < n -> 0 < DD B k := by
 intro k
 induction k using Nat.strongRecOn with
 | ind k ih =>
  intro hk
  have hb := fun m (hm : m < k + 1) => xd (L := LL B) (b := fun i => if i = k then 1 else 0) (n := k + 1) (fun i _ => dN B i) (fun i c _ _ h => jz B h) hm
  generalize hX : bsx (LL B) (fun i => if i = k then 1 else 0) (k + 1) (k + 1) = X at hb
  have hk1 : X k = 1 := by
   have := hb k (by omega)
   rw [if_pos rfl, ew (j := k) _ (by omega) (fun i hi hne => by rw [jz B (show i < k by omega)]; grind), dN] at this
   grind
  have h1 := B1 (B := B) (n := k + 1) (fun i j hi hj => hs i j (by omega) (by omega)) (fun m hm => by have := ih m (by omega) (by omega); grind) X
  rw [ew (j := k) _ (by omega) (fun m hm hne => by rw [hb m hm, if_neg hne]; grind), hb k (by omega), if_pos rfl] at h1
  have h2 := hp (fun i => if i < k + 1 then X i else 0) ⟨k, hk, by rw [if_pos (by omega), hk1]; grind⟩
  have h3 : fm n B (fun i => if i < k + 1 then X i else 0) = fm (k + 1) B X := by
   unfold fm
   rw [iz (m := k + 1) (by omega) (fun i hi _ => by simp only; rw [if_neg (by omega)]; grind)];refine sm_congr fun i hi => ?_
   show (if i < k + 1 then X i else 0) * sm n (fun j => B i j * (if j < k + 1 then X j else 0)) = _
   rw [if_pos hi, iz (m := k + 1) (by omega) (fun j hj _ => by rw [if_neg (by omega)]; grind)]
   congr 1
   exact sm_congr fun j hj => by rw [if_pos hj]
  rw [h3, h1] at h2
  grind
end Go.Proofs.YtnoildlijhapaaaGreatDoor

/- Determinants of restricted matrices; too few links. No condition. -/
namespace Go.Proofs.YtnoildlijhapaaaGreatDoor

def rs (S : Nat -> Bool) (A : Nat -> Nat -> Rat) (l : List Nat) (i j : Nat) : Rat := if S (l.getD i 0) = true /\ S (l.getD j 0) = true then A (l.getD i 0) (l.getD j 0) else if i = j then 1 else 0
end Go.Proofs.YtnoildlijhapaaaGreatDoor

/- The form of a Laplacian. No condition. -/
namespace Go.Proofs.YtnoildlijhapaaaGreatDoor

theorem EP {n : Nat} {x : WL} (y : Nat -> Rat) (hf : x.f < n) (ht : x.t < n) : sm n (fun i => uu id x i * y i) = y x.f - y x.t := by
 unfold uu
 rw [sm_congr (g := fun i => (if i = x.f then y x.f else 0) + (if i = x.t then - y x.t else 0)) (fun i _ => by
  simp only [id]
  by_cases h1 : x.f = i
  ·by_cases h2 : x.t = i
   ·rw [if_pos h1, if_pos h2, if_pos h1.symm, if_pos h2.symm, <- h1, h1, h2]; grind
   ·rw [if_pos h1, if_neg h2, if_pos h1.symm, if_neg (fun e => h2 e.symm), h1]; grind
  ·by_cases h2 : x.t = i
   ·rw [if_neg h1, if_pos h2, if_neg (fun e => h1 e.symm), if_pos h2.symm, h2]; grind
   ·rw [if_neg h1, if_neg h2, if_neg (fun e => h1 e.symm), if_neg (fun e => h2 e.symm)]; grind), lG, ew (j := x.f) _ hf (fun i _ h => if_neg h), ew (j := x.t) _ ht (fun i _ h => if_neg h), if_pos rfl, if_pos rfl]
 grind
end Go.Proofs.YtnoildlijhapaaaGreatDoor

/- The Laplacian of what hangs on the ground is positive definite. No condition. -/
namespace Go.Proofs.YtnoildlijhapaaaGreatDoor

theorem xb {ls : List WL} {y : Nat -> Rat} (h : ∀ x ∈ ls, y x.f = y x.t) {u v : Nat} (hc : Cnn (ls.map fun x => (x.f, x.t)) u v) : y u = y v := by
 induction hc with
 | refl => rfl
 | step _ hp ih =>
  rw [ih]
  rcases hp with hp | hp
  ·obtain ⟨x, hx, e⟩ := List.mem_map.1 hp
   cases e; exact h x hx
  ·obtain ⟨x, hx, e⟩ := List.mem_map.1 hp
   cases e; exact (h x hx).symm
end Go.Proofs.YtnoildlijhapaaaGreatDoor

/- Effective resistance: by trees and forests. No condition. -/
namespace Go.Proofs.YtnoildlijhapaaaGreatDoor

end Go.Proofs.YtnoildlijhapaaaGreatDoor

/- Solving by the factors. No condition. -/
namespace Go.Proofs.YtnoildlijhapaaaGreatDoor

def fws (L : Nat -> Nat -> Rat) (b : Nat -> Rat) : Nat -> Nat -> Rat
 | 0, _ => 0
 | i + 1, c => if c = i then b i - sm i (fun j => L i j * fws L b i j) else fws L b i c
def fwv (L : Nat -> Nat -> Rat) (b : Nat -> Rat) (i : Nat) : Rat := fws L b (i + 1) i
theorem vz (L : Nat -> Nat -> Rat) (b : Nat -> Rat) {c : Nat} : ∀ {m : Nat}, c < m -> fws L b m c = fwv L b c
 | 0, h => by omega
 | m + 1, h => by
  by_cases e : c = m
  ·subst e; rfl
  ·simp only [fws]; rw [if_neg e]; exact vz L b (m := m) (by omega)
theorem wS (L : Nat -> Nat -> Rat) (b : Nat -> Rat) (i : Nat) : fwv L b i = b i - sm i (fun j => L i j * fwv L b j) := by
 show fws L b (i + 1) i = _
 simp only [fws, if_true]
 congr 1
 exact sm_congr fun j hj => by rw [vz L b hj]
def slv (B : Nat -> Nat -> Rat) (b : Nat -> Rat) (n : Nat) : Nat -> Rat := bsx (LL B) (fun k => fwv (LL B) b k / DD B k) n n
theorem sT {B : Nat -> Nat -> Rat} {n : Nat} {b : Nat -> Rat} (hs : ∀ i j, i < n -> j < n -> B i j = B j i) (hd : ∀ k, k < n -> DD B k ≠ 0) {i : Nat} (hi : i < n) : sm n (fun j => B i j * slv B b n j) = b i := by
 rw [tK hs (fun k hk => hd k (by omega)) _ hi]
 rw [sm_congr (g := fun k => LL B i k * fwv (LL B) b k) (fun k hk => by
  have := xd (L := LL B) (b := fun k => fwv (LL B) b k / DD B k) (n := n) (fun i _ => dN B i) (fun i c _ _ h => jz B h) hk
  show LL B i k * (DD B k * sm n (fun j => LL B j k * bsx (LL B) (fun k => fwv (LL B) b k / DD B k) n n j)) = _
  rw [this]
  have := hd k hk
  grind)]
 rw [iz (m := i + 1) (by omega) (fun k hk _ => by rw [jz B (show i < k by omega)]; grind), cf, dN]
 have := wS (LL B) b i
 grind
theorem Ag {B : Nat -> Nat -> Rat} {n : Nat} {b x : Nat -> Rat} (hs : ∀ i j, i < n -> j < n -> B i j = B j i) (hd : ∀ k, k < n -> 0 < DD B k) (hx : ∀ i, i < n -> sm n (fun j => B i j * x j) = b i) {i : Nat} (hi : i < n) : x i = slv B b n i := by
 have hd' : ∀ k, k < n -> DD B k ≠ 0 := fun k hk => by have := hd k hk; grind
 refine Classical.byContradiction fun hne => ?_
 have h1 := E3 hs hd (x := fun j => x j - slv B b n j) ⟨i, hi, by grind⟩
 have h2 : fm n B (fun j => x j - slv B b n j) = 0 := by
  unfold fm
  refine gI fun k hk => ?_;rw [sm_congr (g := fun j => 1 * (B k j * x j) + (-1) * (B k j * slv B b n j)) (fun j _ => by grind), gX, hx k hk, sT hs hd' hk]
  grind
 rw [h2] at h1
 grind
end Go.Proofs.YtnoildlijhapaaaGreatDoor

/- Elimination with exchanges gives the determinant. No condition. -/
namespace Go.Proofs.YtnoildlijhapaaaGreatDoor

def swp (r s i : Nat) : Nat := if i = r then s else if i = s then r else i
def piv (f : Nat -> Rat) (n : Nat) : Nat -> Nat -> Nat
 | 0, _ => n
 | d + 1, k => if f k = 0 then piv f n d (k + 1) else k
def el : Nat -> (Nat -> Nat -> Rat) -> Rat
 | 0, _ => 1
 | n + 1, A =>
  let k := piv (fun i => A i 0) (n + 1) (n + 1) 0
  if k = n + 1 then 0
  else (if k = 0 then 1 else -1) * (A k 0 * el n (fun i c => A (swp 0 k (i + 1)) (c + 1) - A (swp 0 k (i + 1)) 0 / A k 0 * A k (c + 1)))
end Go.Proofs.YtnoildlijhapaaaGreatDoor

/- Leading minors and pivots; permuted matrices. No condition. -/
namespace Go.Proofs.YtnoildlijhapaaaGreatDoor

theorem tv : ∀ (n : Nat) (f : Nat -> Rat), pr (n + 1) f = pr n f * f n
 | 0, f => by simp only [pr]; grind
 | n + 1, f => by
  show f 0 * pr (n + 1) (fun i => f (i + 1)) = f 0 * pr n (fun i => f (i + 1)) * f (n + 1)
  rw [tv n]; grind
end Go.Proofs.YtnoildlijhapaaaGreatDoor

/- Any order of rows and columns. No condition. -/
namespace Go.Proofs.YtnoildlijhapaaaGreatDoor

theorem Fx {r s i n : Nat} (hr : r < n) (hs : s < n) (hi : i < n) : swp r s i < n := by unfold swp; (repeat' split) <;> omega
end Go.Proofs.YtnoildlijhapaaaGreatDoor

/- How great determinants of integers are; words of what the factors hold. No condition. -/
namespace Go.Proofs.YtnoildlijhapaaaGreatDoor

def IB (k : Nat) (q : Rat) : Prop := ∃ z : Int, q = (z : Rat) /\ z.natAbs <= 2 ^ k
theorem IB.mono {k l : Nat} {q : Rat} (h : IB k q) (hl : k <= l) : IB l q := by
 obtain ⟨z, h1, h2⟩ := h
 exact ⟨z, h1, Nat.le_trans h2 (Nat.pow_le_pow_right (by decide) hl)⟩
theorem IB.mul {k l : Nat} {p q : Rat} (h : IB k p) (h' : IB l q) : IB (k + l) (p * q) := by
 obtain ⟨z, rfl, h2⟩ := h
 obtain ⟨y, rfl, h3⟩ := h'
 refine ⟨z * y, by rw [Rat.intCast_mul], ?_⟩;rw [Int.natAbs_mul, Nat.pow_add];exact Nat.mul_le_mul h2 h3
theorem IB.neg {k : Nat} {p : Rat} (h : IB k p) : IB k (-p) := by
 obtain ⟨z, rfl, h2⟩ := h
 exact ⟨-z, by rw [Rat.intCast_neg], by rw [Int.natAbs_neg]; exact h2⟩
theorem xm : IB 0 1 := ⟨1, rfl, by decide⟩
theorem EJ (k : Nat) : IB k 0 := ⟨0, rfl, by simp⟩
theorem Fk : ∀ i, IB 0 (sgD i)
 | 0 => xm
 | i + 1 => (Fk i).neg
theorem yC {k : Nat} {f : Nat -> Rat} : ∀ n : Nat, (∀ i, i < n -> IB k (f i)) -> ∃ z : Int, sm n f = (z : Rat) /\ z.natAbs <= n * 2 ^ k
 | 0, _ => ⟨0, rfl, by simp⟩
 | n + 1, h => by
  obtain ⟨z, h1, h2⟩ := yC n (fun i hi => h i (by omega))
  obtain ⟨y, h3, h4⟩ := h n (by omega)
  refine ⟨z + y, by rw [cf, h1, h3, Rat.intCast_add], ?_⟩
  have := Int.natAbs_add_le z y
  rw [Nat.add_mul, Nat.one_mul]
  omega
theorem HN {k n : Nat} {f : Nat -> Rat} (hn : n <= 16) (h : ∀ i, i < n -> IB k (f i)) : IB (k + 4) (sm n f) := by
 obtain ⟨z, h1, h2⟩ := yC n h
 refine ⟨z, h1, Nat.le_trans h2 ?_⟩;rw [Nat.pow_add, Nat.mul_comm];exact Nat.mul_le_mul_left _ hn
theorem rj {m : Nat} : ∀ {n : Nat} {A : Nat -> Nat -> Rat}, n <= 16 -> (∀ i j, i < n -> j < n -> IB m (A i j)) -> IB (n * (m + 4)) (dt n A)
 | 0, _, _, _ => by rw [Nat.zero_mul]; exact xm
 | n + 1, A, hn, h => by
  have ih := fun i => rj (m := m) (n := n) (A := fun r c => A (sk i r) (c + 1)) (by omega)
  have hs : IB (0 + m + n * (m + 4) + 4) (dt (n + 1) A) := HN hn fun i hi =>
   ((Fk i).mul (h i 0 hi (by omega))).mul (ih i fun r c hr hc => h _ _ (mn hr) (by omega))
  exact hs.mono (by rw [Nat.succ_mul]; omega)
theorem zI {z : Int} {k j : Nat} (h : z.natAbs <= 2 ^ k) (hk : k < 32 * j) : zl z <= j := by
 unfold zl
 refine rD ?_;refine Nat.lt_of_le_of_lt h ?_
 have : (4294967296 : Nat) ^ j = 2 ^ (32 * j) := by rw [Nat.pow_mul]
 rw [this];exact Nat.pow_lt_pow_right (by decide) hk
theorem p5 {q N D : Rat} {k j : Nat} (hN : IB k N) (hD : IB k D) (h0 : D ≠ 0) (h : q * D = N) (hk : k < 32 * j) : ql q <= j := by
 obtain ⟨x, rfl, h1⟩ := hN
 obtain ⟨y, rfl, h2⟩ := hD
 have e : q = Rat.divInt x y := by rw [Rat.divInt_eq_div, <- h]; grind
 rw [e];exact th (Nat.ble_eq_true_of_le (by omega)) (zI h1 hk) (zI h2 hk)
theorem A7 {f : Nat -> Rat} : ∀ {n : Nat}, (∀ i, i < n -> f i ≠ 0) -> pr n f ≠ 0
 | 0, _ => by show (1 : Rat) ≠ 0; decide
 | n + 1, h => by
  rw [tv]
  intro e
  rcases Rat.mul_eq_zero.1 e with e | e
  ·exact A7 (n := n) (fun i hi => h i (by omega)) e
  ·exact h n (by omega) e

section
variable {B : Nat -> Nat -> Rat} {n m J : Nat}
theorem Fm (hs : ∀ i j, i < n -> j < n -> B i j = B j i) {i : Nat} (hi : i < n) (hd : ∀ k, k < i -> DD B k ≠ 0) : DD B i * dt i B = dt (i + 1) B /\ dt i B ≠ 0 := by
 have h1 : dt (i + 1) B = pr (i + 1) (DD B) := w5 (fun a b ha hb => hs a b (by omega) (by omega)) (fun k hk => hd k (by omega))
 have h2 : dt i B = pr i (DD B) := w5 (fun a b ha hb => hs a b (by omega) (by omega)) (fun k hk => hd k (by omega))
 rw [h1, h2, tv];exact ⟨by grind, A7 hd⟩
theorem HM (hs : ∀ i j, i < n -> j < n -> B i j = B j i) {i j : Nat} (hi : i < n) (hj : j < i) (hd : ∀ k, k <= j -> DD B k ≠ 0) :
  LL B i j * dt (j + 1) B = dt (j + 1) (fun r c => if c = j then B i r else B r c) := by
 have hb := fun c (hc : c < j + 1) => xd (L := LL B) (b := fun c => LL B i c) (n := j + 1) (fun i _ => dN B i) (fun i c _ _ h => jz B h) hc
 generalize hX : bsx (LL B) (fun c => LL B i c) (j + 1) (j + 1) = X at hb
 have e1 : X j = LL B i j := by
  have := hb j (by omega)
  rw [ew (j := j) _ (by omega) (fun r hr hne => by rw [jz B (show r < j by omega)]; grind), dN] at this;rw [<- this]; grind
 have hs' : ∀ a b, a < j + 1 -> b < j + 1 -> B a b = B b a := fun a b ha hb => hs a b (by omega) (by omega)
 rw [<- e1];refine Ct (by omega) (fun r hr => ?_);rw [tK hs' (fun k hk => hd k (by omega)) X hr];rw [sm_congr (g := fun k => LL B r k * (DD B k * LL B i k)) (fun k hk => by rw [hb k hk])];rw [iz (m := r + 1) (by omega) (fun k hk _ => by rw [jz B (show r < k by omega)]; grind), cf, dN]
 by_cases e : r = i
 ·omega
 have := CQ B (i := i) (j := r) (by omega) (hd r (by omega))
 rw [sm_congr (g := fun k => LL B i k * LL B r k * DD B k) (fun k _ => by grind)]; grind
theorem HO (hs : ∀ i j, i < n -> j < n -> B i j = B j i) (hB : ∀ i j, i < n -> j < n -> IB m (B i j)) (hn : n <= 16) (hJ : n * (m + 4) < 32 * J) {i : Nat} (hi : i < n) (hd : ∀ k, k < i -> DD B k ≠ 0) : ql (DD B i) <= J := by
 obtain ⟨h1, h2⟩ := Fm hs hi hd
 have a1 := rj (m := m) (n := i) (A := B) (by omega) (fun a b ha hb => hB a b (by omega) (by omega))
 have a2 := rj (m := m) (n := i + 1) (A := B) (by omega) (fun a b ha hb => hB a b (by omega) (by omega))
 have l1 : i * (m + 4) <= n * (m + 4) := Nat.mul_le_mul_right _ (by omega)
 have l2 : (i + 1) * (m + 4) <= n * (m + 4) := Nat.mul_le_mul_right _ (by omega)
 exact p5 (a2.mono l2) (a1.mono l1) h2 h1 hJ
theorem Fj (hs : ∀ i j, i < n -> j < n -> B i j = B j i) (hB : ∀ i j, i < n -> j < n -> IB m (B i j)) (hn : n <= 16) (hJ : n * (m + 4) < 32 * J) {i j : Nat} (hi : i < n) (hj : j < i) (hd : ∀ k, k <= j -> DD B k ≠ 0) : ql (LL B i j) <= J := by
 have h1 := HM hs hi hj hd
 have h2 := (Fm hs (i := j + 1) (by omega) (fun k hk => hd k (by omega))).2
 have a1 := rj (m := m) (n := j + 1) (A := B) (by omega) (fun a b ha hb => hB a b (by omega) (by omega))
 have a2 := rj (m := m) (n := j + 1) (A := fun r c => if c = j then B i r else B r c) (by omega) (fun a b ha hb => by
  show IB m (if b = j then B i a else B a b)
  split
  ·exact hB _ _ (by omega) (by omega)
  ·exact hB _ _ (by omega) (by omega))
 have l2 : (j + 1) * (m + 4) <= n * (m + 4) := Nat.mul_le_mul_right _ (by omega)
 exact p5 (a2.mono l2) (a1.mono l2) h2 h1 hJ
theorem FA (hs : ∀ i j, i < n -> j < n -> B i j = B j i) (hB : ∀ i j, i < n -> j < n -> IB m (B i j)) {b : Nat -> Rat} (hb : ∀ i, i < n -> IB m (b i)) (hn : n <= 16) (hJ : n * (m + 4) < 32 * J) (hd : ∀ k, k < n -> DD B k ≠ 0) {i : Nat} (hi : i < n) : ql (slv B b n i) <= J := by
 have h1 := Ct (A := B) (x := slv B b n) (b := b) hi (fun r hr => sT hs hd hr)
 have h2 : dt n B ≠ 0 := by
  rw [w5 hs (fun k hk => hd k (by omega))]; exact A7 hd
 have a1 := rj (m := m) (n := n) (A := B) hn hB
 have a2 := rj (m := m) (n := n) (A := fun r c => if c = i then b r else B r c) hn (fun x y hx hy => by
  show IB m (if y = i then b x else B x y)
  split
  ·exact hb _ hx
  ·exact hB _ _ hx hy)
 exact p5 a2 a1 h2 h1 hJ
end
end Go.Proofs.YtnoildlijhapaaaGreatDoor

/- Potentials and effective resistance. No condition. -/
namespace Go.Proofs.YtnoildlijhapaaaGreatDoor

def LU (u : Nat -> Rat) : List WL -> Nat -> Rat
 | [], _ => 0
 | x :: xs, i => LU u xs i + x.w * (uu id x i * (u x.f - u x.t))
def EN (u v : Nat -> Rat) : List WL -> Rat
 | [] => 0
 | x :: xs => EN u v xs + x.w * ((u x.f - u x.t) * (v x.f - v x.t))
def dl (i v : Nat) : Rat := if v = i then 1 else 0
section
variable {n : Nat}
theorem Ae {u : Nat -> Rat} (i : Nat) : ∀ {ls : List WL}, (∀ x ∈ ls, x.f < n /\ x.t < n) -> sm n (fun j => lpl id ls i j * u j) = LU u ls i
 | [], _ => gI fun j _ => by simp only [lpl]; grind
 | x :: xs, h => by
  obtain ⟨h1, h2⟩ := h x (List.mem_cons_self ..)
  have ih := Ae (u := u) i (ls := xs) fun y hy => h y (List.mem_cons_of_mem _ hy)
  rw [sm_congr (g := fun j => lpl id xs i j * u j + (x.w * uu id x i) * (uu id x j * u j)) (fun j _ => by simp only [lpl]; grind), lG, jE, ih, EP u h1 h2];simp only [LU]; grind
theorem Af {u v : Nat -> Rat} : ∀ {ls : List WL}, (∀ x ∈ ls, x.f < n /\ x.t < n) -> sm n (fun i => v i * LU u ls i) = EN u v ls
 | [], _ => gI fun j _ => by simp only [LU]; grind
 | x :: xs, h => by
  obtain ⟨h1, h2⟩ := h x (List.mem_cons_self ..)
  have ih := Af (u := u) (v := v) (ls := xs) fun y hy => h y (List.mem_cons_of_mem _ hy)
  rw [sm_congr (g := fun i => v i * LU u xs i + (x.w * (u x.f - u x.t)) * (uu id x i * v i)) (fun j _ => by simp only [LU]; grind), lG, jE, ih, EP v h1 h2];simp only [EN]; grind
theorem vT {u : Nat -> Rat} : ∀ {ls : List WL}, (∀ x ∈ ls, 0 < x.w) -> 0 <= EN u u ls
 | [], _ => by show (0 : Rat) <= 0; grind
 | x :: xs, h => by
  have h1 := vT (u := u) (ls := xs) fun y hy => h y (List.mem_cons_of_mem _ hy)
  have h2 := Rat.mul_nonneg (show 0 <= x.w by have := h x (List.mem_cons_self ..); grind) (sP (u x.f - u x.t))
  simp only [EN]; grind
theorem ng {u : Nat -> Rat} : ∀ {ls : List WL}, (∀ x ∈ ls, 0 < x.w) -> EN u u ls <= 0 -> ∀ x ∈ ls, u x.f = u x.t
 | [], _, _ => fun _ h => by cases h
 | x :: xs, h, hz => by
  have hw := h x (List.mem_cons_self ..)
  have h1 := vT (u := u) (ls := xs) fun y hy => h y (List.mem_cons_of_mem _ hy)
  have h2 := Rat.mul_nonneg (show 0 <= x.w by grind) (sP (u x.f - u x.t))
  simp only [EN] at hz
  have e2 : x.w * ((u x.f - u x.t) * (u x.f - u x.t)) = 0 := by grind
  intro z hz'
  rcases List.mem_cons.1 hz' with rfl | hz'
  ·rcases Rat.mul_eq_zero.1 e2 with e | e
   ·grind
   ·rcases Rat.mul_eq_zero.1 e with e | e <;> grind
  ·exact ng (ls := xs) (fun y hy => h y (List.mem_cons_of_mem _ hy)) (by grind) z hz'
theorem CP (a b : Rat) (u v : Nat -> Rat) : ∀ (ls : List WL) (i : Nat), LU (fun k => a * u k + b * v k) ls i = a * LU u ls i + b * LU v ls i
 | [], _ => by simp only [LU]; grind
 | x :: xs, i => by simp only [LU]; rw [CP a b u v xs i]; grind
theorem yA {u : Nat -> Rat} (i : Nat) : ∀ {ls : List WL}, (∀ x ∈ ls, u x.f = u x.t) -> LU u ls i = 0
 | [], _ => rfl
 | x :: xs, h => by
  simp only [LU];rw [yA i (ls := xs) (fun y hy => h y (List.mem_cons_of_mem _ hy)), h x (List.mem_cons_self ..)]; grind

def UF (n : Nat) (ls : List WL) (i j : Nat) (u : Nat -> Rat) : Prop := ∀ v, v < n -> LU u ls v = dl i v - dl j v
theorem rK {i : Nat} (f : Nat -> Rat) (hi : i < n) : sm n (fun v => f v * dl i v) = f i := by
 rw [ew (j := i) _ hi (fun v _ h => by unfold dl; rw [if_neg h]; grind)]
 unfold dl; rw [if_pos rfl]; grind
theorem UF.en {ls : List WL} {i j : Nat} {u : Nat -> Rat} (h : UF n ls i j u) (hl : ∀ x ∈ ls, x.f < n /\ x.t < n) (hi : i < n) (hj : j < n) (v : Nat -> Rat) : EN u v ls = v i - v j := by
 rw [<- Af hl, sm_congr (g := fun k => 1 * (v k * dl i k) + (-1) * (v k * dl j k)) (fun k hk => by rw [h k hk]; grind), gX, rK v hi, rK v hj]
 grind
def IsR (n : Nat) (ls : List WL) (i j : Nat) (r : Rat) : Prop := ∃ u, UF n ls i j u /\ u i - u j = r
theorem UF.symm {ls : List WL} {i j : Nat} {u : Nat -> Rat} (h : UF n ls i j u) : UF n ls j i (fun k => - u k) := fun v hv => by
 have := CP (-1) 0 u u ls v
 have e : (fun k => - u k) = fun k => (-1) * u k + 0 * u k := by funext k; grind
 rw [e, this, h v hv]; grind
theorem IsR.symm {ls : List WL} {i j : Nat} {r : Rat} (h : IsR n ls i j r) : IsR n ls j i r := by
 obtain ⟨u, h1, rfl⟩ := h
 exact ⟨_, h1.symm, by grind⟩
theorem IsR.nn {ls : List WL} {i j : Nat} {r : Rat} (hw : ∀ x ∈ ls, 0 < x.w) (hl : ∀ x ∈ ls, x.f < n /\ x.t < n) (hi : i < n) (hj : j < n) (h : IsR n ls i j r) : 0 <= r := by
 obtain ⟨u, h1, rfl⟩ := h
 rw [<- h1.en hl hi hj u]; exact vT hw
theorem IsR.pos {ls : List WL} {i j : Nat} {r : Rat} (hw : ∀ x ∈ ls, 0 < x.w) (hl : ∀ x ∈ ls, x.f < n /\ x.t < n) (hi : i < n) (hj : j < n) (hij : i ≠ j) (h : IsR n ls i j r) : 0 < r := by
 have h0 := h.nn hw hl hi hj
 obtain ⟨u, h1, rfl⟩ := h
 refine Classical.byContradiction fun hc => ?_
 have e := h1.en hl hi hj u
 have hz := ng hw (u := u) (by grind)
 have := h1 i hi
 rw [yA i hz] at this
 unfold dl at this
 rw [if_pos rfl, if_neg hij] at this
 grind
theorem UF.max {ls : List WL} {i j k : Nat} {u : Nat -> Rat} (h : UF n ls i j u) (hw : ∀ x ∈ ls, 0 < x.w) (hl : ∀ x ∈ ls, x.f < n /\ x.t < n) (hi : i < n) (hj : j < n) (hc : Cnn (ls.map fun x => (x.f, x.t)) k i) : u k <= u i := by
 let y : Nat -> Rat := fun v => if u v <= u i then 0 else u v - u i
 have hy : ∀ v, 0 <= y v := fun v => by show 0 <= (if u v <= u i then 0 else u v - u i); split <;> grind
 have yi : y i = 0 := if_pos (by grind)
 have key : ∀ l : List WL, (∀ x ∈ l, 0 < x.w) -> EN y y l <= EN u y l := by
  intro l
  induction l with
  | nil => intro _; show (0 : Rat) <= 0; grind
  | cons x xs ih =>
   intro hw
   have ih := ih fun z hz => hw z (List.mem_cons_of_mem _ hz)
   simp only [EN]
   have hx := hw x (List.mem_cons_self ..)
   have h2 : 0 <= (u x.f - u x.t) * (y x.f - y x.t) - (y x.f - y x.t) * (y x.f - y x.t) := by
    have e : (u x.f - u x.t) * (y x.f - y x.t) - (y x.f - y x.t) * (y x.f - y x.t) = ((u x.f - y x.f) - (u x.t - y x.t)) * (y x.f - y x.t) := by grind
    rw [e]
    show 0 <= ((u x.f - (if u x.f <= u i then 0 else u x.f - u i)) - (u x.t - (if u x.t <= u i then 0 else u x.t - u i))) * ((if u x.f <= u i then 0 else u x.f - u i) - (if u x.t <= u i then 0 else u x.t - u i))
    by_cases h1 : u x.f <= u i <;> by_cases h2 : u x.t <= u i
    ·rw [if_pos h1, if_pos h2]; grind
    ·rw [if_pos h1, if_neg h2]
     have := Rat.mul_nonneg (show 0 <= u i - u x.f by grind) (show 0 <= u x.t - u i by grind)
     grind
    ·rw [if_neg h1, if_pos h2]
     have := Rat.mul_nonneg (show 0 <= u i - u x.t by grind) (show 0 <= u x.f - u i by grind)
     grind
    ·rw [if_neg h1, if_neg h2]; grind
   have h3 := Rat.mul_nonneg (show 0 <= x.w by grind) h2
   grind
 have e := h.en hl hi hj y
 have e2 := key ls hw
 have e3 := hy j
 have hz := ng hw (u := y) (by grind)
 have := xb hz hc
 rw [yi] at this;refine Classical.byContradiction fun hn => ?_
 have : y k = u k - u i := if_neg hn
 grind
end
/-! ### One link apart -/
theorem GY {x : WL} (i : Nat) : uu id x i = dl x.f i - dl x.t i := by
 unfold uu dl
 simp only [id]
 have e1 : (if x.f = i then (1 : Rat) else 0) = if i = x.f then 1 else 0 := by by_cases h : x.f = i; rw [if_pos h, if_pos h.symm]; rw [if_neg h, if_neg (Ne.symm h)]
 have e2 : (if x.t = i then (1 : Rat) else 0) = if i = x.t then 1 else 0 := by by_cases h : x.t = i; rw [if_pos h, if_pos h.symm]; rw [if_neg h, if_neg (Ne.symm h)]
 rw [e1, e2]
section
variable {n : Nat} {ls : List WL} {k : Nat} {r : Rat}
end
end Go.Proofs.YtnoildlijhapaaaGreatDoor

/- Elimination in place. No condition. -/
namespace Go.Proofs.YtnoildlijhapaaaGreatDoor

def stp (i k : Nat) (A : Nat -> Nat -> Rat) (r c : Nat) : Rat := if i < r /\ i <= c then A (swp i k r) c - A (swp i k r) i / A k i * A k c else A (swp i k r) c
end Go.Proofs.YtnoildlijhapaaaGreatDoor

/- Elimination over integers: all numbers of the way are small. No condition. -/
namespace Go.Proofs.YtnoildlijhapaaaGreatDoor

structure EI (n m i : Nat) (A A' t : Nat -> Nat -> Rat) : Prop where
 int : ∀ r c, r < n -> c < n -> IB m (A' r c)
 row : ∀ r c, r < n -> c < n -> A r c = A' r c + sm (min r i) (fun s => t r s * A' s c)
 low : ∀ r c, r < n -> c < r -> c < i -> A r c = 0
 nz : ∀ a, a < i -> A a a ≠ 0
section
variable {n m i : Nat} {A A' t : Nat -> Nat -> Rat}
theorem pI {i k s : Nat} (h : s < i) (hk : i <= k) : swp i k s = s := by unfold swp; rw [if_neg (by omega), if_neg (by omega)]
theorem EI.step (h : EI n m i A A' t) {k : Nat} (hi : i < n) (hik : i <= k) (hk : k < n) (hp : A k i ≠ 0) :
  ∃ t', EI n m (i + 1) (stp i k A) (fun r c => A' (swp i k r) c) t' := by
 have hs : ∀ r, r < n -> swp i k r < n := fun r hr => Fx hi hk hr
 have hs2 : ∀ r, i <= r -> i <= swp i k r := fun r hr => by unfold swp; (repeat' split) <;> omega
 have e0 : swp i k i = k := by unfold swp; rw [if_pos rfl]
 have rowS : ∀ r c, r < n -> c < n -> A (swp i k r) c = A' (swp i k r) c + sm (min r i) (fun s => t (swp i k r) s * A' (swp i k s) c) := fun r c hr hc => by
  rw [h.row _ c (hs r hr) hc]
  congr 1
  by_cases hri : r < i
  ·rw [pI hri hik]
   exact sm_congr fun s hs => by rw [pI (show s < i by omega) hik]
  ·have := hs2 r (by omega)
   rw [Nat.min_eq_right (by omega), Nat.min_eq_right (by omega)]
   exact sm_congr fun s hs => by rw [pI hs hik]
 refine ⟨fun r s => if i < r then (if s < i then t (swp i k r) s - A (swp i k r) i / A k i * t k s else - (A (swp i k r) i / A k i)) else t (swp i k r) s, fun r c hr hc => h.int _ c (hs r hr) hc, fun r c hr hc => ?_, fun r c hr hcr hci => ?_, fun a ha => ?_⟩
 ·show stp i k A r c = A' (swp i k r) c + _
  by_cases hri : i < r
  ·rw [Nat.min_eq_right (by omega), cf];simp only [if_pos hri, if_neg (Nat.lt_irrefl i)];rw [sm_congr (f := fun s => (if s < i then t (swp i k r) s - A (swp i k r) i / A k i * t k s else -(A (swp i k r) i / A k i)) * A' (swp i k s) c) (g := fun s => 1 * (t (swp i k r) s * A' (swp i k s) c) + (-(A (swp i k r) i / A k i)) * (t k s * A' (swp i k s) c)) (fun s hs => by rw [if_pos hs]; grind), gX, e0]
   have h1 := rowS r c hr hc
   have h2 := rowS i c hi hc
   rw [Nat.min_eq_right (by omega)] at h1;rw [Nat.min_self, e0] at h2
   have h3 : stp i k A r c = A (swp i k r) c - A (swp i k r) i / A k i * A k c := by
    simp only [stp]
    by_cases hc' : i <= c
    ·rw [if_pos ⟨hri, hc'⟩]
    ·rw [if_neg (by omega)]
     have z := h.low k c hk (by omega) (by omega)
     rw [z]; grind
   rw [h3, h1, h2]; grind
  ·rw [show min r (i + 1) = min r i by omega];simp only [if_neg hri, stp];rw [if_neg (by omega)];exact rowS r c hr hc
 ·by_cases hri : i < r
  ·by_cases e : c = i
   ·subst e; simp only [stp]; rw [if_pos ⟨hri, Nat.le_refl _⟩]; grind
   ·simp only [stp]; rw [if_neg (by omega)]
    have : r >= i := by omega
    exact h.low _ c (hs r hr) (by have := hs2 r this; omega) (by omega)
  ·simp only [stp]; rw [if_neg (by omega)]
   by_cases e : r = i
   ·subst e; rw [e0]; exact h.low k c hk (by omega) (by omega)
   ·rw [pI (by omega) hik]; exact h.low r c hr hcr (by omega)
 ·simp only [stp]; rw [if_neg (by omega)]
  by_cases e : a = i
  ·subst e; rw [e0]; exact hp
  ·rw [pI (by omega) hik]; exact h.nz a (by omega)
end
end Go.Proofs.YtnoildlijhapaaaGreatDoor

/- Labels of components; solutions over a part. No condition. -/
namespace Go.Proofs.YtnoildlijhapaaaGreatDoor

def tM (r : List Nat) (n v : Nat) : Nat := (num r n).1.getD v 0
theorem mB (r : List Nat) : ∀ {m v : Nat}, v < m -> (num r m).1.getD v 0 = if fd r v = v then (num r v).2 else (num r v).1.getD (fd r v) 0
 | 0, v, h => by omega
 | m + 1, v, h => by
  have hl := wE r m
  by_cases e : v = m
  ·subst e
   simp only [num]
   by_cases hf : fd r v = v
   ·rw [if_pos hf, if_pos hf]
    simp only
    rw [List.getD_eq_getElem?_getD, List.getElem?_append_right (by omega), hl, Nat.sub_self]; rfl
   ·rw [if_neg hf, if_neg hf]
    simp only
    rw [List.getD_eq_getElem?_getD, List.getElem?_append_right (by omega), hl, Nat.sub_self]; rfl
  ·rw [<- mB r (m := m) (v := v) (by omega)];simp only [num]
   split <;> (simp only; rw [List.getD_eq_getElem?_getD, List.getElem?_append_left (by omega), <- List.getD_eq_getElem?_getD])
theorem Bp (r : List Nat) {m k v : Nat} (h : v < m) (hmk : m <= k) : (num r k).1.getD v 0 = (num r m).1.getD v 0 := by rw [mB r h, mB r (show v < k by omega)]
theorem Bo (r : List Nat) {m k : Nat} (h : m <= k) : (num r m).2 <= (num r k).2 := by
 induction k with
 | zero => rw [show m = 0 by omega]; exact Nat.le_refl _
 | succ k ih =>
  by_cases e : m = k + 1
  ·rw [e]; exact Nat.le_refl _
  ·have := ih (by omega)
   simp only [num]; split
   ·simp only; omega
   ·exact this
section
variable {r : List Nat} (h : RG r)
include h
theorem vk {n v : Nat} (hv : v < n) : tM r n v = tM r n (fd r v) := by
 have h1 := yg h v
 by_cases e : fd r v = v
 ·rw [e]
 ·unfold tM
  rw [mB r hv, if_neg e, Bp r (m := v) (k := n) (v := fd r v) (by omega) (by omega)]
theorem BE {n v : Nat} (hv : v < n) (hf : fd r v = v) : tM r n v = (num r v).2 := by
 unfold tM; rw [mB r hv, if_pos hf]
theorem u7 {v : Nat} (hf : fd r v = v) {k : Nat} (hk : v < k) : (num r v).2 < (num r k).2 := by
 have h1 : (num r (v + 1)).2 = (num r v).2 + 1 := by simp only [num]; rw [if_pos hf]
 have := Bo r (m := v + 1) (k := k) hk
 omega
theorem DZ {n u v : Nat} (hu : u < n) (hv : v < n) : tM r n u = tM r n v ↔ fd r u = fd r v := by
 have fu := yg h u
 have fv := yg h v
 have iu := yh h u
 have iv := yh h v
 rw [vk h hu, vk h hv, BE h (by omega) iu, BE h (by omega) iv]
 constructor
 ·intro e
  rcases Nat.lt_trichotomy (fd r u) (fd r v) with hlt | he | hlt
  ·have := u7 h iu hlt; omega
  ·exact he
  ·have := u7 h iv hlt; omega
 ·intro e; rw [e]
end
/-! ### The grounded part -/
def kN (n : Nat) (S : Nat -> Bool) : Nat := ((List.range n).filter S).length
section
variable {n j : Nat} {ls : List WL} {S : Nat -> Bool} {B : Nat -> Nat -> Rat}
end
theorem Gu {B : Nat -> Nat -> Rat} {b : Nat -> Rat} {n J c : Nat} (hL : ∀ i j, i < n -> j < i -> ql (LL B i j) <= J) (hb : ∀ i, i < n -> ql (b i) <= c) : ∀ i, i < n -> ql (fwv (LL B) b i) + (J + 1) <= (c + J + 1) * 2 ^ i := by
 intro i
 induction i using Nat.strongRecOn with
 | ind i ih =>
  intro hi
  rw [wS]
  have key : ∀ k, k <= i -> ql (b i - sm k (fun j => LL B i j * fwv (LL B) b j)) + (J + 1) <= (c + J + 1) * 2 ^ k := by
   intro k
   induction k with
   | zero =>
    intro _
    have e : b i - sm 0 (fun j => LL B i j * fwv (LL B) b j) = b i := by simp only [sm]; grind
    rw [e, Nat.pow_zero, Nat.mul_one]
    have := hb i hi
    omega
   | succ k ihk =>
    intro hk
    have h1 := ihk (by omega)
    have h2 := ih k (by omega) (by omega)
    have h3 := hL i k hi (by omega)
    have e : b i - sm (k + 1) (fun j => LL B i j * fwv (LL B) b j) = (b i - sm k (fun j => LL B i j * fwv (LL B) b j)) - LL B i k * fwv (LL B) b k := by rw [cf]; grind
    rw [e]
    have h4 := AS (b i - sm k (fun j => LL B i j * fwv (LL B) b j)) (LL B i k * fwv (LL B) b k)
    have h5 := AV (LL B i k) (fwv (LL B) b k)
    rw [Nat.pow_succ, <- Nat.mul_assoc]
    omega
  exact key i (Nat.le_refl _)
end Go.Proofs.YtnoildlijhapaaaGreatDoor

/- Words as sets of bits: the lowest bit, clearing it, differences. No condition. -/
namespace Go.Proofs.YtnoildlijhapaaaGreatDoor

def bdif (x y : Nat) : Nat := x ^^^ (x &&& y)
theorem ug (x y k : Nat) : (bdif x y).testBit k = (x.testBit k && !y.testBit k) := by
 rw [bdif, Nat.testBit_xor, Nat.testBit_and]
 cases x.testBit k <;> cases y.testBit k <;> rfl
theorem mI {x n : Nat} (h : ∀ k, n <= k -> x.testBit k = false) : x < 2 ^ n := Nat.lt_pow_two_of_testBit x h
theorem jj {x n k : Nat} (h : x < 2 ^ n) (hk : n <= k) : x.testBit k = false := Nat.testBit_lt_two_pow (Nat.lt_of_lt_of_le h (Nat.pow_le_pow_right (by decide) hk))
theorem z8 {x n k : Nat} (h : x < 2 ^ n) (hk : x.testBit k = true) : k < n := by
 rcases Nat.lt_or_ge k n with h' | h'
 ·exact h'
 ·rw [jj h h'] at hk; cases hk
theorem Ez {x y n : Nat} (h : x < 2 ^ n) : bdif x y < 2 ^ n := mI fun k hk => by rw [ug, jj h hk]; rfl
theorem pq {x y n : Nat} (h : x < 2 ^ n) : x &&& y < 2 ^ n := mI fun k hk => by rw [Nat.testBit_and, jj h hk]; rfl
theorem xe {x y n : Nat} (h : x < 2 ^ n) (h' : y < 2 ^ n) : x ||| y < 2 ^ n := mI fun k hk => by rw [Nat.testBit_or, jj h hk, jj h' hk]; rfl
theorem sL (a k : Nat) : (2 ^ a).testBit k = decide (a = k) := Nat.testBit_two_pow
theorem pp {a n : Nat} (h : a < n) : 2 ^ a < 2 ^ n := Nat.pow_lt_pow_right (by decide) h
def clr (x : Nat) : Nat := x &&& (x - 1)
theorem kB {n x : Nat} (h0 : x ≠ 0) (h : x < 2 ^ n) : Go.Lib.ctz n x < n /\ x.testBit (Go.Lib.ctz n x) = true /\ (∀ k, k < Go.Lib.ctz n x -> x.testBit k = false) /\ ∀ k, (clr x).testBit k = (x.testBit k && decide (k ≠ Go.Lib.ctz n x)) := by
 obtain ⟨m, hm, hc⟩ := Go.Lib.ctzFrom_spec n x (by omega) h
 have e : Go.Lib.ctz n x = Go.Lib.ctzFrom n x := by rw [Go.Lib.ctz, if_neg h0]
 rw [e];generalize Go.Lib.ctzFrom n x = c at hm hc
 have tx : ∀ k, x.testBit k = if k < c then false else (2 * m + 1).testBit (k - c) := fun k => by
  have := Nat.testBit_two_pow_mul_add (2 * m + 1) (i := c) (b := 0) (Nat.pow_pos (by decide)) k
  rw [Nat.add_zero, <- hm] at this;rw [this]
  by_cases hk : k < c
  ·rw [if_pos hk, if_pos hk, Nat.zero_testBit]
  ·rw [if_neg hk, if_neg hk]
 have ty : ∀ k, (x - 1).testBit k = if k < c then (2 ^ c - 1).testBit k else (2 * m).testBit (k - c) := fun k => by
  have hp : 0 < 2 ^ c := Nat.pow_pos (by decide)
  have e1 : x - 1 = 2 ^ c * (2 * m) + (2 ^ c - 1) := by rw [hm, Nat.mul_add]; omega
  have := Nat.testBit_two_pow_mul_add (2 * m) (i := c) (b := 2 ^ c - 1) (by omega) k
  rw [e1, this]
 refine ⟨hc, ?_, fun k hk => by rw [tx, if_pos hk], fun k => ?_⟩
 ·rw [tx, if_neg (by omega), Nat.sub_self, Nat.testBit_zero]; simp
 ·rw [clr, Nat.testBit_and, tx, ty]
  by_cases hk : k < c
  ·rw [if_pos hk]; rfl
  ·rw [if_neg hk, if_neg hk]
   obtain ⟨d, hd⟩ : ∃ d, k = c + d := ⟨k - c, by omega⟩
   subst hd
   rw [Nat.add_sub_cancel_left]
   cases d with
   | zero => simp
   | succ d =>
    rw [Nat.testBit_succ, Nat.testBit_succ, show (2 * m + 1) / 2 = m by omega, show 2 * m / 2 = m by omega]
    have : decide (c + (d + 1) ≠ c) = true := by simp
    rw [this]; cases m.testBit d <;> rfl
theorem GG {x : Nat} (h0 : x ≠ 0) : clr x < x := by
 have : x &&& (x - 1) <= x - 1 := Nat.and_le_right
 unfold clr; omega
theorem Cu (x : Nat) : clr x <= x := Nat.and_le_left

/-! ### A graph as a word of neighbours for each vertex -/
end Go.Proofs.YtnoildlijhapaaaGreatDoor

/- A factor's element is 0 unless its two unknowns are joined by the matrix or by the fill. No condition. -/
namespace Go.Proofs.YtnoildlijhapaaaGreatDoor

end Go.Proofs.YtnoildlijhapaaaGreatDoor

/- Largest cliques: the first longest one in the order of lists; a search that leaves out what can't be longer finds it. No condition. -/
namespace Go.Proofs.YtnoildlijhapaaaGreatDoor

def btr (b x : List Nat) : List Nat := if b.length < x.length then x else b
theorem zw (a b c : List Nat) : btr (btr a b) c = btr a (btr b c) := by
 unfold btr
 by_cases h1 : a.length < b.length
 ·rw [if_pos h1]
  by_cases h2 : b.length < c.length
  ·rw [if_pos h2, if_pos (by omega)]
  ·rw [if_neg h2, if_pos h1]
 ·rw [if_neg h1]
  by_cases h2 : b.length < c.length
  ·rw [if_pos h2]
  ·rw [if_neg h2, if_neg h1, if_neg (by omega)]
theorem yt (b x : List Nat) : b.length <= (btr b x).length /\ x.length <= (btr b x).length /\ ((btr b x).length <= b.length \/ (btr b x).length <= x.length) := by
 unfold btr; split <;> omega
section
variable (A : Nat -> Nat -> Bool)
def gqB : Nat -> List Nat -> List Nat -> List Nat -> List Nat
 | 0, _, _, b => b
 | _ + 1, _, [], b => b
 | f + 1, cur, v :: c, b => gqB f cur c (btr b (gqB f (cur ++ [v]) (c.filter (A v)) (cur ++ [v])))
def lqB : Nat -> List Nat -> List Nat -> List Nat -> List Nat
 | 0, _, _, b => b
 | _ + 1, _, [], b => b
 | f + 1, cur, v :: c, b => if b.length < cur.length + (c.length + 1) then lqB f cur c (lqB f (cur ++ [v]) (c.filter (A v)) (btr b (cur ++ [v]))) else b
variable {A}
theorem DS (f : Nat) (cur b : List Nat) : lqB A f cur [] b = b := by cases f <;> rfl
theorem yc : ∀ (f : Nat) (cur c b x : List Nat), gqB A f cur c (btr b x) = btr b (gqB A f cur c x)
 | 0, _, _, _, _ => rfl
 | f + 1, cur, [], b, x => rfl
 | f + 1, cur, v :: c, b, x => by
  simp only [gqB];rw [zw, yc f cur c]
theorem mN : ∀ (f : Nat) (cur c b : List Nat), b.length <= (gqB A f cur c b).length /\ ((gqB A f cur c b).length <= b.length \/ (gqB A f cur c b).length <= cur.length + c.length)
 | 0, _, _, _ => ⟨Nat.le_refl _, Or.inl (Nat.le_refl _)⟩
 | f + 1, cur, [], b => ⟨Nat.le_refl _, Or.inl (Nat.le_refl _)⟩
 | f + 1, cur, v :: c, b => by
  have h1 := mN f (cur ++ [v]) (c.filter (A v)) (cur ++ [v])
  have h2 := yt b (gqB A f (cur ++ [v]) (c.filter (A v)) (cur ++ [v]))
  have h3 := mN f cur c (btr b (gqB A f (cur ++ [v]) (c.filter (A v)) (cur ++ [v])))
  have h4 := List.length_filter_le (A v) c
  simp only [gqB];simp only [List.length_append, List.length_cons, List.length_nil] at h1 ⊢
  omega
theorem zi {f : Nat} {cur c b : List Nat} (h : cur.length + c.length <= b.length) : gqB A f cur c b = b := by
 induction f generalizing c with
 | zero => rfl
 | succ f ih =>
  cases c with
  | nil => rfl
  | cons v c =>
   simp only [List.length_cons] at h;simp only [gqB]
   have h1 := mN (A := A) f (cur ++ [v]) (c.filter (A v)) (cur ++ [v])
   have h4 := List.length_filter_le (A v) c
   simp only [List.length_append, List.length_cons, List.length_nil] at h1
   have : btr b (gqB A f (cur ++ [v]) (c.filter (A v)) (cur ++ [v])) = b := if_neg (by omega)
   rw [this, ih (by omega)]
theorem wJ : ∀ (f : Nat) (cur c b : List Nat), c.length <= f -> lqB A f cur c b = gqB A f cur c b
 | 0, _, _, _, _ => rfl
 | f + 1, cur, [], b, _ => rfl
 | f + 1, cur, v :: c, b, h => by
  have h4 := List.length_filter_le (A v) c
  simp only [List.length_cons] at h;simp only [lqB]
  split
  ·rw [wJ f cur c _ (by omega), wJ f (cur ++ [v]) _ _ (by omega), yc]; rfl
  ·exact (zi (by simp only [List.length_cons]; omega)).symm
def vL (A : Nat -> Nat -> Bool) (y : List Nat) : Prop := y.Pairwise fun u v => A u v = true
theorem wR : ∀ (f : Nat) (cur c b : List Nat), gqB A f cur c b = b \/ ∃ y, y.Sublist c /\ vL A y /\ gqB A f cur c b = cur ++ y
 | 0, _, _, _ => Or.inl rfl
 | f + 1, cur, [], b => Or.inl rfl
 | f + 1, cur, v :: c, b => by
  simp only [gqB]
  have hx : ∃ y, y.Sublist (v :: c) /\ vL A y /\ gqB A f (cur ++ [v]) (c.filter (A v)) (cur ++ [v]) = cur ++ y := by
   rcases wR f (cur ++ [v]) (c.filter (A v)) (cur ++ [v]) with h | ⟨y, h1, h2, h3⟩
   ·exact ⟨[v], List.Sublist.cons_cons v (List.nil_sublist c), List.pairwise_singleton _ _, h⟩
   ·refine ⟨v :: y, List.Sublist.cons_cons v (h1.trans List.filter_sublist), ?_, by rw [h3]; simp⟩;refine List.pairwise_cons.2 ⟨fun u hu => ?_, h2⟩
    have := h1.subset hu
    exact (List.mem_filter.1 this).2
  rcases wR f cur c (btr b (gqB A f (cur ++ [v]) (c.filter (A v)) (cur ++ [v]))) with h | ⟨y, h1, h2, h3⟩
  ·rw [h]
   unfold btr
   split
   ·exact Or.inr hx
   ·exact Or.inl rfl
  ·exact Or.inr ⟨y, List.Sublist.cons v h1, h2, h3⟩
theorem tR : ∀ (f : Nat) (cur c b y : List Nat), c.length <= f -> y.Sublist c -> vL A y -> y ≠ [] -> cur.length + y.length <= (gqB A f cur c b).length
 | 0, _, c, _, y, h, hs, _, hy => by
  have : c = [] := List.length_eq_zero_iff.1 (by omega)
  subst this
  exact absurd (List.sublist_nil.1 hs) hy
 | f + 1, cur, [], b, y, _, hs, _, hy => absurd (List.sublist_nil.1 hs) hy
 | f + 1, cur, v :: c, b, y, h, hs, hc, hy => by
  have h4 := List.length_filter_le (A v) c
  simp only [List.length_cons] at h;simp only [gqB]
  have hl := mN (A := A) f cur c (btr b (gqB A f (cur ++ [v]) (c.filter (A v)) (cur ++ [v])))
  have hb := yt b (gqB A f (cur ++ [v]) (c.filter (A v)) (cur ++ [v]))
  cases hs with
  | cons _ hs' => exact tR f cur c _ y (by omega) hs' hc hy
  | @cons_cons z _ _ hs' =>
   obtain ⟨p1, p2⟩ := List.pairwise_cons.1 hc
   have hz : z.Sublist (c.filter (A v)) := by
    have : z = z.filter (A v) := (List.filter_eq_self.2 fun u hu => p1 u hu).symm
    rw [this];exact List.Sublist.filter _ hs'
   cases z with
   | nil =>
    have h1 := mN (A := A) f (cur ++ [v]) (c.filter (A v)) (cur ++ [v])
    simp only [List.length_append, List.length_cons, List.length_nil] at h1 ⊢
    omega
   | cons u z =>
    have h1 := tR f (cur ++ [v]) (c.filter (A v)) (cur ++ [v]) (u :: z) (by omega) hz p2 (by simp)
    simp only [List.length_append, List.length_cons, List.length_nil] at h1 ⊢
    omega
def mxC (A : Nat -> Nat -> Bool) (n : Nat) : List Nat := gqB A n [] (List.range n) []
theorem Gg (n : Nat) : (mxC A n).Sublist (List.range n) /\ vL A (mxC A n) := by
 unfold mxC
 rcases wR (A := A) n [] (List.range n) [] with h | ⟨y, h1, h2, h3⟩
 ·rw [h]; exact ⟨List.nil_sublist _, List.Pairwise.nil⟩
 ·rw [h3, List.nil_append]; exact ⟨h1, h2⟩
theorem DM {n : Nat} {y : List Nat} (hs : y.Sublist (List.range n)) (hc : vL A y) : y.length <= (mxC A n).length := by
 cases y with
 | nil => exact Nat.zero_le _
 | cons u y =>
  have := tR (A := A) n [] (List.range n) [] (u :: y) (by rw [List.length_range]; omega) hs hc (by simp)
  simpa [mxC] using this
end
end Go.Proofs.YtnoildlijhapaaaGreatDoor

/- Sets of vertices as bits: their lists. No condition. -/
namespace Go.Proofs.YtnoildlijhapaaaGreatDoor

def bK (n x : Nat) : List Nat := (List.range n).filter fun k => x.testBit k
theorem kr {n x k : Nat} : k ∈ bK n x ↔ k < n /\ x.testBit k = true := by
 unfold bK; rw [List.mem_filter, List.mem_range]
theorem jp (n x : Nat) : (bK n x).length <= n := by
 have := List.length_filter_le (fun k => x.testBit k) (List.range n)
 rwa [List.length_range] at this
theorem jo (n : Nat) : bK n 0 = [] := List.filter_eq_nil_iff.2 fun k _ => by rw [Nat.zero_testBit]; simp
theorem dS (n x : Nat) : (bK n x).Pairwise (· < ·) := List.Pairwise.filter _ List.pairwise_lt_range
theorem pm {n x : Nat} {l : List Nat} (hs : l.Pairwise (· < ·)) (h : ∀ k, k ∈ l ↔ k < n /\ x.testBit k = true) : bK n x = l := by
 refine List.Perm.eq_of_pairwise (le := (· < ·)) (fun a b _ _ h1 h2 => absurd h1 (Nat.lt_asymm h2)) (dS n x) hs ?_;refine (List.perm_ext_iff_of_nodup ((dS n x).imp Nat.ne_of_lt) (hs.imp Nat.ne_of_lt)).2 fun k => ?_;rw [kr, h]
theorem vf (n : Nat) : bK n (2 ^ n - 1) = List.range n := pm List.pairwise_lt_range fun k => by
 rw [List.mem_range, Nat.testBit_two_pow_sub_one]; simp
theorem rY {n m x : Nat} (h : x < 2 ^ n) (hm : n <= m) : bK m x = bK n x := pm (dS n x) fun k => by
 rw [kr]
 constructor
 ·rintro ⟨h1, h2⟩; exact ⟨by omega, h2⟩
 ·rintro ⟨h1, h2⟩; exact ⟨z8 h h2, h2⟩
theorem nH {n x : Nat} (h0 : x ≠ 0) (h : x < 2 ^ n) : bK n x = Go.Lib.ctz n x :: bK n (clr x) := by
 obtain ⟨h1, h2, h3, h4⟩ := kB h0 h
 refine pm (List.pairwise_cons.2 ⟨fun k hk => ?_, dS _ _⟩) fun k => ?_
 ·have hk := kr.1 hk
  rw [h4 k] at hk;simp only [Bool.and_eq_true, decide_eq_true_eq] at hk
  rcases Nat.lt_or_ge k (Go.Lib.ctz n x) with g | g
  ·rw [h3 k g] at hk; simp at hk
  ·omega
 ·rw [List.mem_cons, kr, h4 k];simp only [Bool.and_eq_true, decide_eq_true_eq]
  constructor
  ·rintro (rfl | ⟨g1, g2, _⟩)
   ·exact ⟨h1, h2⟩
   ·exact ⟨g1, g2⟩
  ·rintro ⟨g1, g2⟩
   by_cases e : k = Go.Lib.ctz n x
   ·exact Or.inl e
   ·exact Or.inr ⟨g1, g2, e⟩
theorem Cv {n x : Nat} (h0 : x ≠ 0) (h : x < 2 ^ n) : bdif x (2 ^ Go.Lib.ctz n x) = clr x := Nat.eq_of_testBit_eq fun k => by
 obtain ⟨h1, h2, h3, h4⟩ := kB h0 h
 rw [ug, sL, h4 k]
 congr 1
 by_cases e : k = Go.Lib.ctz n x
 ·rw [<- e]; simp
 ·have e' : ¬ Go.Lib.ctz n x = k := fun g => e g.symm
  simp [e, e']
theorem mJ (n x y : Nat) : bK n (x &&& y) = (bK n x).filter fun k => y.testBit k := by
 unfold bK
 rw [List.filter_filter]
 congr 1
 funext k
 rw [Nat.testBit_and, Bool.and_comm]
theorem x8 {n x v : Nat} (hv : v < n) (h : ∀ k, k ∈ bK n x -> k < v) : bK n (x ||| 2 ^ v) = bK n x ++ [v] := by
 refine pm (List.pairwise_append.2 ⟨dS _ _, List.pairwise_singleton _ _, fun a ha b hb => ?_⟩) fun k => ?_
 ·rw [List.mem_singleton.1 hb]; exact h a ha
 ·rw [List.mem_append, List.mem_singleton, kr, Nat.testBit_or, sL];simp only [Bool.or_eq_true, decide_eq_true_eq]
  constructor
  ·rintro (⟨g1, g2⟩ | rfl)
   ·exact ⟨g1, Or.inl g2⟩
   ·exact ⟨hv, Or.inr rfl⟩
  ·rintro ⟨g1, g2 | rfl⟩
   ·exact Or.inl ⟨g1, g2⟩
   ·exact Or.inr rfl
def pcnt (x : Nat) : Nat := (bK 32 x).length
theorem lQ {n m : Nat} (x : Nat) : (bK (m + n) x).length = (bK m x).length + (bK n (x / 2 ^ m)).length := by
 unfold bK
 rw [List.range_add, List.filter_append, List.length_append, List.filter_map, List.length_map]
 congr 2
 refine List.filter_congr fun k _ => ?_;simp only [Function.comp_def];rw [Nat.testBit_div_two_pow, Nat.add_comm]
theorem Bz (m x : Nat) : bK m (x % 2 ^ m) = bK m x := by
 unfold bK
 refine List.filter_congr fun k hk => ?_;rw [Nat.testBit_mod_two_pow, decide_eq_true (List.mem_range.1 hk), Bool.true_and]
theorem yZ (x : Nat) : pcnt x = (bK 8 (x / 16777216 % 256)).length + (bK 8 (x / 65536 % 256)).length + (bK 8 (x / 256 % 256)).length + (bK 8 (x % 256)).length := by
 have m : ∀ y, (bK 8 (y % 256)).length = (bK 8 y).length := fun y => congrArg List.length (Bz 8 y)
 rw [m, m, m, m]
 have h1 := lQ (n := 24) (m := 8) x
 have h2 := lQ (n := 16) (m := 8) (x / 2 ^ 8)
 have h3 := lQ (n := 8) (m := 8) (x / 2 ^ 8 / 2 ^ 8)
 have e2 : x / 2 ^ 8 / 2 ^ 8 = x / 65536 := by omega
 have e3 : x / 2 ^ 8 / 2 ^ 8 / 2 ^ 8 = x / 16777216 := by omega
 rw [e2] at h2;rw [e3, e2] at h3
 unfold pcnt
 show (bK (8 + 24) x).length = _
 rw [h1]
 show _ + (bK (8 + 16) (x / 2 ^ 8)).length = _
 rw [h2]
 show _ + (_ + (bK (8 + 8) (x / 65536)).length) = _
 rw [h3]
 show _ + ((bK 8 (x / 256)).length + _) = _
 omega
theorem xO (x : Nat) : pcnt x <= 32 := jp 32 x
def kE (b x : Nat) : Nat := if pcnt b < pcnt x then x else b
theorem CB (b x : Nat) : bK 32 (kE b x) = btr (bK 32 b) (bK 32 x) := by
 unfold kE btr pcnt
 split <;> rfl
theorem ue {N b x : Nat} (hb : b < 2 ^ N) (hx : x < 2 ^ N) : kE b x < 2 ^ N := by
 unfold kE; split
 ·exact hx
 ·exact hb
def sM (G : Nat -> Nat) : Nat -> Nat -> Nat -> Nat -> Nat
 | 0, _, _, b => b
 | f + 1, cur, free, b => if free = 0 then b else
   if pcnt b < pcnt cur + pcnt free then sM G f cur (clr free) (sM G f (cur ||| 2 ^ Go.Lib.ctz 32 free) (clr free &&& G (Go.Lib.ctz 32 free)) (kE b (cur ||| 2 ^ Go.Lib.ctz 32 free))) else b
theorem o7 {N : Nat} (hN : N <= 32) (G : Nat -> Nat) : ∀ (f cur free b : Nat), cur < 2 ^ N -> free < 2 ^ N -> b < 2 ^ N -> (∀ k ∈ bK 32 cur, ∀ j ∈ bK 32 free, k < j) ->
  sM G f cur free b < 2 ^ N /\ bK 32 (sM G f cur free b) = lqB (fun v k => (G v).testBit k) f (bK 32 cur) (bK 32 free) (bK 32 b)
 | 0, _, _, b, _, _, hb, _ => ⟨hb, rfl⟩
 | f + 1, cur, free, b, hc, hf, hb, hlt => by
  by_cases h0 : free = 0
  ·subst h0
   simp only [sM, if_true];rw [jo, DS];exact ⟨hb, rfl⟩
  ·have hf32 : free < 2 ^ 32 := Nat.lt_of_lt_of_le hf (Nat.pow_le_pow_right (by decide) hN)
   have ec := nH h0 hf32
   obtain ⟨c1, c2, c3, c4⟩ := kB h0 hf32
   have hs := dS 32 free
   rw [ec] at hlt hs
   have hp := (List.pairwise_cons.1 hs).1
   simp only [sM, if_neg h0];rw [ec];simp only [lqB]
   have vN : Go.Lib.ctz 32 free < N := z8 hf c2
   generalize Go.Lib.ctz 32 free = v at *
   have hv : ∀ k ∈ bK 32 cur, k < v := fun k hk => hlt k hk v List.mem_cons_self
   have e1 := x8 c1 hv
   have hcl : clr free < 2 ^ N := Nat.lt_of_le_of_lt (Cu free) hf
   have ecnd : (pcnt b < pcnt cur + pcnt free) = ((bK 32 b).length < (bK 32 cur).length + ((bK 32 (clr free)).length + 1)) := by
    unfold pcnt; rw [ec]; rfl
   simp only [ecnd]
   split
   ·have hc' : cur ||| 2 ^ v < 2 ^ N := xe hc (pp vN)
    have i1 := o7 hN G f (cur ||| 2 ^ v) (clr free &&& G v) (kE b (cur ||| 2 ^ v)) hc' (pq hcl) (ue hb hc') (fun k hk j hj => by
     rw [mJ] at hj
     have hj := hp j (List.mem_filter.1 hj).1
     rw [e1] at hk
     rcases List.mem_append.1 hk with h | h
     ·have := hv k h; omega
     ·rw [List.mem_singleton.1 h]; exact hj)
    have i2 := o7 hN G f cur (clr free) _ hc hcl i1.1 (fun k hk j hj => hlt k hk j (List.mem_cons_of_mem _ hj))
    refine ⟨i2.1, ?_⟩;rw [i2.2, i1.2, e1, mJ, CB, e1]
   ·exact ⟨hb, rfl⟩
theorem FF {N n : Nat} (hn : n <= N) (hN : N <= 32) (G : Nat -> Nat) : sM G n 0 (2 ^ n - 1) 0 < 2 ^ N /\ bK 32 (sM G n 0 (2 ^ n - 1) 0) = mxC (fun v k => (G v).testBit k) n := by
 have hp : 0 < 2 ^ n := Nat.pow_pos (by decide)
 have hp' : 2 ^ n <= 2 ^ N := Nat.pow_le_pow_right (by decide) hn
 have s := o7 hN G n 0 (2 ^ n - 1) 0 (by omega) (by omega) (by omega) (fun k hk => by rw [jo] at hk; cases hk)
 refine ⟨s.1, ?_⟩;rw [s.2, jo, rY (n := n) (m := 32) (by omega) (by omega), vf, wJ _ _ _ _ (by rw [List.length_range]; omega)]
 rfl
theorem ze {A B : Nat -> Nat -> Bool} {n : Nat} (h : ∀ u v, u < n -> v < n -> A u v = B u v) : mxC A n = mxC B n := by
 have key : ∀ (f : Nat) (cur c b : List Nat), (∀ v ∈ c, v < n) -> gqB A f cur c b = gqB B f cur c b := by
  intro f
  induction f with
  | zero => intro cur c b _; rfl
  | succ f ih =>
   intro cur c b hc
   cases c with
   | nil => rfl
   | cons v c =>
    have h1 : c.filter (A v) = c.filter (B v) := List.filter_congr fun u hu => h v u (hc v List.mem_cons_self) (hc u (List.mem_cons_of_mem _ hu))
    simp only [gqB];rw [h1, ih (cur ++ [v]) _ _ (fun u hu => hc u (List.mem_cons_of_mem _ (List.mem_filter.1 hu).1)), ih cur c _ (fun u hu => hc u (List.mem_cons_of_mem _ hu))]
 exact key n [] (List.range n) [] fun v hv => List.mem_range.1 hv
end Go.Proofs.YtnoildlijhapaaaGreatDoor

/- A framework for functions over values: pure data, a simulation between an abstract state and the model's act and world. No condition. -/
namespace Go.Proofs.YtnoildlijhapaaaGreatDoor
open Go.RowKit

inductive DC where
 | lit (v : Value)
 | sl (es : List (List DC))

inductive SC where
 | d (c : DC)
 | nil
 | own (id sz off len : Nat)
 | bad

inductive VV where
 | one (c : SC)
 | agg (cs : List SC)

inductive SV where
 | none
 | val (x : VV)
 | tup (xs : List VV)
 | ptr (id off : Nat)
 | pe (id sz i j : Nat)
 | pd (cs : List DC)
 | clo (f : FuncId) (id : Nat)
 | fn (f : FuncId) (c : Option (List DC))

inductive OO where
 | box (cs : List SC)
 | arr (sz : Nat) (es : List (List DC))

abbrev ca := Nat -> Option OO

structure St where
 ρ : List SV
 σ : ca
 rb : List Nat

def at2 {α : Type} (es : List (List α)) (i j : Nat) : Option α := (es[i]?).bind (·[j]?)

def yO : Value -> Bool
 | .bool _ | .int _ _ | .string _ => true
 | _ => false

inductive RdC (w : World) (X : Nat -> Prop) : Value -> DC -> Prop where
 | lit {v : Value} (h : yO v = true) : RdC w X v (.lit v)
 | nil {a : Option Addr} {c : Nat} : RdC w X (.slice a 0 c) (.sl [])
 | sl {b off len cap sz : Nat} {cs : Array Value} {E : TypeId} {fr : Nat × Nat} {es : List (List DC)} (vs : Nat -> Nat -> Value)
   (hh : w.heap[b]? = some (.cells cs E fr)) (hx : ¬ X b) (hl : len = es.length) (hcap : len <= cap)
   (hs : ∀ (i : Nat) (e : List DC), es[i]? = some e -> e.length = sz)
   (hv : ∀ (i j : Nat) (d : DC), at2 es i j = some d -> cs[off + i * sz + j]? = some (vs i j))
   (hr : ∀ (i j : Nat) (d : DC), at2 es i j = some d -> RdC w X (vs i j) d) :
   RdC w X (.slice (some ⟨b, off, none⟩) len cap) (.sl es)

theorem bM {w : World} {b : Nat} {o : Obj} (h : w.heap[b]? = some o) : b < w.heap.size := by
 rcases Nat.lt_or_ge b w.heap.size with h' | h'
 ·exact h'
 ·simp [Array.getElem?_eq_none h'] at h

theorem RdC.mono {w w' : World} {X X' : Nat -> Prop} (hX : ∀ b, b < w.heap.size -> X' b -> X b)
  (hw : ∀ b, b < w.heap.size -> ¬ X b -> w'.heap[b]? = w.heap[b]?) {v : Value} {d : DC} (h : RdC w X v d) : RdC w' X' v d := by
 induction h with
 | lit h => exact .lit h
 | nil => exact .nil
 | sl vs hh hx hl hcap hs hv _ ih =>
  have hb := bM hh
  exact .sl vs ((hw _ hb hx).trans hh) (fun h' => hx (hX _ hb h')) hl hcap hs hv ih

theorem RdC.oneCell {w : World} {X : Nat -> Prop} {v : Value} {d : DC} (h : RdC w X v d) : v.oneCell' = true := by
 cases h with
 | lit h => cases v <;> simp_all [yO, Value.oneCell']
 | nil => rfl
 | sl => rfl

def RelC (w : World) (X : Nat -> Prop) (μ : Nat -> Nat) (v : Value) : SC -> Prop
 | .d c => RdC w X v c
 | .nil => v = .slice none 0 0
 | .own id sz off len => ∃ (cap : Nat) (cs : Array Value) (E : TypeId) (fr : Nat × Nat), v = .slice (some ⟨μ id, off * sz, none⟩) len cap /\ len <= cap /\
   w.heap[μ id]? = some (.cells cs E fr) /\ (off + cap) * sz <= cs.size
 | .bad => v.oneCell' = true

theorem RelC.oneCell {w : World} {X : Nat -> Prop} {μ : Nat -> Nat} {v : Value} {c : SC} (h : RelC w X μ v c) : v.oneCell' = true := by
 cases c with
 | d c => exact RdC.oneCell h
 | nil => cases h; rfl
 | own => obtain ⟨_, _, _, _, rfl, _⟩ := h; rfl
 | bad => exact h

def RelL (w : World) (X : Nat -> Prop) (μ : Nat -> Nat) (vs : List Value) (cs : List SC) : Prop :=
 vs.length = cs.length /\ ∀ (i : Nat) (c : SC), cs[i]? = some c -> ∃ v, vs[i]? = some v /\ RelC w X μ v c

def RelVV (w : World) (X : Nat -> Prop) (μ : Nat -> Nat) (v : Value) : VV -> Prop
 | .one c => RelC w X μ v c
 | .agg cs => ∃ vs : List Value, v = .agg vs.toArray /\ RelL w X μ vs cs

def RelFn (w : World) (X : Nat -> Prop) (v : Value) (f : FuncId) : Option (List DC) -> Prop
 | none => v = .func (.func f) #[] #[]
 | some cs => ∃ (b off : Nat) (cells : Array Value) (E : TypeId) (fr : Nat × Nat), v = .func (.func f) #[] #[.pointer (some ⟨b, off, none⟩)] /\ w.heap[b]? = some (.cells cells E fr) /\ ¬ X b /\
   ∀ (j : Nat) (d : DC), cs[j]? = some d -> ∃ x, cells[off + j]? = some x /\ RdC w X x d
theorem RelFn.mono {w w' : World} {X X' : Nat -> Prop} (hX : ∀ b, b < w.heap.size -> X' b -> X b) (hw : ∀ b, b < w.heap.size -> ¬ X b -> w'.heap[b]? = w.heap[b]?) {v : Value} {f : FuncId} {c : Option (List DC)} (h : RelFn w X v f c) : RelFn w' X' v f c := by
 cases c with
 | none => exact h
 | some cs =>
  obtain ⟨b, off, cells, E, fr, h1, h2, h3, h4⟩ := h
  have hb := bM h2
  exact ⟨b, off, cells, E, fr, h1, (hw b hb h3).trans h2, fun h' => h3 (hX b hb h'), fun j d hd => let ⟨x, e1, e2⟩ := h4 j d hd; ⟨x, e1, e2.mono hX hw⟩⟩

def RelV (w : World) (X : Nat -> Prop) (μ : Nat -> Nat) (v : Value) : SV -> Prop
 | .none => True
 | .val x => RelVV w X μ v x
 | .tup xs => ∃ vs : List Value, v = .tuple vs.toArray /\ vs.length = xs.length /\ ∀ (i : Nat) (x : VV), xs[i]? = some x -> ∃ u, vs[i]? = some u /\ RelVV w X μ u x
 | .ptr id off => v = .pointer (some ⟨μ id, off, none⟩)
 | .pe id sz i j => v = .pointer (some ⟨μ id, i * sz + j, none⟩)
 | .clo f id => v = .func (.func f) #[] #[.pointer (some ⟨μ id, 0, none⟩)]
 | .fn f c => RelFn w X v f c
 | .pd cs => ∃ (b off : Nat) (cells : Array Value) (E : TypeId) (fr : Nat × Nat), v = .pointer (some ⟨b, off, none⟩) /\ w.heap[b]? = some (.cells cells E fr) /\ ¬ X b /\
   ∀ (j : Nat) (d : DC), cs[j]? = some d -> ∃ x, cells[off + j]? = some x /\ RdC w X x d

structure Fwd (X : Nat -> Prop) (w w' : World) : Prop where
 size : w.heap.size <= w'.heap.size
 keep : ∀ b, b < w.heap.size -> ¬ X b -> w'.heap[b]? = w.heap[b]?
 row : ∀ (b : Nat) (cs : Array Value) (E : TypeId) (fr : Nat × Nat), w.heap[b]? = some (Obj.cells cs E fr) -> ∃ (cs' : Array Value) (fr' : Nat × Nat), w'.heap[b]? = some (Obj.cells cs' E fr') /\ cs'.size = cs.size

theorem Fwd.refl (X : Nat -> Prop) (w : World) : Fwd X w w := ⟨Nat.le_refl _, fun _ _ _ => rfl, fun _ cs _ fr h => ⟨cs, fr, h, rfl⟩⟩

theorem Fwd.of_below {w w' : World} {X : Nat -> Prop} (h : Below w.heap.size w w') : Fwd X w w' :=
 ⟨h.size, fun b hb _ => h.block b hb, fun b cs _ fr hc => ⟨cs, fr, (h.block b (bM hc)).trans hc, rfl⟩⟩

theorem RelC.mono {w w' : World} {X X' : Nat -> Prop} {μ : Nat -> Nat} (hX : ∀ b, b < w.heap.size -> X' b -> X b) (hw : Fwd X w w') {v : Value} {c : SC}
  (h : RelC w X μ v c) : RelC w' X' μ v c := by
 cases c with
 | d c => exact RdC.mono hX hw.keep h
 | nil => exact h
 | own id sz off len =>
  obtain ⟨cap, cs, E, fr, hv, hle, hh, hsz⟩ := h
  obtain ⟨cs', fr', hh', hs'⟩ := hw.row _ _ _ _ hh
  exact ⟨cap, cs', E, fr', hv, hle, hh', by omega⟩
 | bad => exact h

theorem RelL.mono {w w' : World} {X X' : Nat -> Prop} {μ : Nat -> Nat} (hX : ∀ b, b < w.heap.size -> X' b -> X b) (hw : Fwd X w w') {vs : List Value} {cs : List SC}
  (h : RelL w X μ vs cs) : RelL w' X' μ vs cs :=
 ⟨h.1, fun i c hc => let ⟨v, h1, h2⟩ := h.2 i c hc; ⟨v, h1, h2.mono hX hw⟩⟩

theorem RelVV.mono {w w' : World} {X X' : Nat -> Prop} {μ : Nat -> Nat} (hX : ∀ b, b < w.heap.size -> X' b -> X b) (hw : Fwd X w w') {v : Value} {x : VV}
  (h : RelVV w X μ v x) : RelVV w' X' μ v x := by
 cases x with
 | one c => exact RelC.mono hX hw h
 | agg cs => obtain ⟨vs, h1, h2⟩ := h; exact ⟨vs, h1, h2.mono hX hw⟩

theorem RelV.mono {w w' : World} {X X' : Nat -> Prop} {μ : Nat -> Nat} (hX : ∀ b, b < w.heap.size -> X' b -> X b) (hw : Fwd X w w') {v : Value} {x : SV}
  (h : RelV w X μ v x) : RelV w' X' μ v x := by
 cases x with
 | none => trivial
 | val x => exact RelVV.mono hX hw h
 | tup xs =>
  obtain ⟨vs, h1, h2, h3⟩ := h
  exact ⟨vs, h1, h2, fun i x hx => let ⟨u, a, b⟩ := h3 i x hx; ⟨u, a, b.mono hX hw⟩⟩
 | ptr id off => exact h
 | pe id sz i j => exact h
 | clo f id => exact h
 | fn f c => exact RelFn.mono hX hw.keep h
 | pd cs =>
  obtain ⟨b, off, cells, E, fr, h1, h2, h3, h4⟩ := h
  have hb := bM h2
  exact ⟨b, off, cells, E, fr, h1, (hw.keep b hb h3).trans h2, fun h' => h3 (hX b hb h'), fun j d hd => let ⟨x, e1, e2⟩ := h4 j d hd; ⟨x, e1, e2.mono hX hw.keep⟩⟩

/-! ### References to an object's number -/
def SC.noRef (id : Nat) : SC -> Bool
 | .own id' _ _ _ => id' != id
 | _ => true
def VV.noRef (id : Nat) : VV -> Bool
 | .one c => c.noRef id
 | .agg cs => cs.all (SC.noRef id)
def SV.noRef (id : Nat) : SV -> Bool
 | .none | .pd _ | .fn _ _ => true
 | .val x => x.noRef id
 | .tup xs => xs.all (VV.noRef id)
 | .ptr id' _ => id' != id
 | .pe id' _ _ _ => id' != id
 | .clo _ id' => id' != id
def OO.noRef (id : Nat) : OO -> Bool
 | .box cs => cs.all (SC.noRef id)
 | .arr _ _ => true

theorem RelC.ren {w : World} {X : Nat -> Prop} {μ μ' : Nat -> Nat} {v : Value} {c : SC} (h : RelC w X μ v c) {id : Nat} (hc : c.noRef id = true)
  (hm : ∀ k, k ≠ id -> μ' k = μ k) : RelC w X μ' v c := by
 cases c with
 | own id' sz off len =>
  have hne : id' ≠ id := by simpa [SC.noRef] using hc
  obtain ⟨cap, cs, E, fr, hv, hle, hh, hsz⟩ := h
  exact ⟨cap, cs, E, fr, by rw [hm _ hne]; exact hv, hle, by rw [hm _ hne]; exact hh, hsz⟩
 | d c => exact h
 | nil => exact h
 | bad => exact h

theorem RelL.ren {w : World} {X : Nat -> Prop} {μ μ' : Nat -> Nat} {vs : List Value} {cs : List SC} (h : RelL w X μ vs cs) {id : Nat} (hc : cs.all (SC.noRef id) = true)
  (hm : ∀ k, k ≠ id -> μ' k = μ k) : RelL w X μ' vs cs :=
 ⟨h.1, fun i c hi => let ⟨v, h1, h2⟩ := h.2 i c hi; ⟨v, h1, h2.ren (List.all_eq_true.1 hc c (List.mem_of_getElem? hi)) hm⟩⟩

theorem RelVV.ren {w : World} {X : Nat -> Prop} {μ μ' : Nat -> Nat} {v : Value} {x : VV} (h : RelVV w X μ v x) {id : Nat} (hc : x.noRef id = true)
  (hm : ∀ k, k ≠ id -> μ' k = μ k) : RelVV w X μ' v x := by
 cases x with
 | one c => exact RelC.ren h hc hm
 | agg cs => obtain ⟨vs, h1, h2⟩ := h; exact ⟨vs, h1, h2.ren hc hm⟩

theorem RelV.ren {w : World} {X : Nat -> Prop} {μ μ' : Nat -> Nat} {v : Value} {x : SV} (h : RelV w X μ v x) {id : Nat} (hc : x.noRef id = true)
  (hm : ∀ k, k ≠ id -> μ' k = μ k) : RelV w X μ' v x := by
 cases x with
 | none => trivial
 | val x => exact RelVV.ren h hc hm
 | tup xs =>
  obtain ⟨vs, h1, h2, h3⟩ := h
  exact ⟨vs, h1, h2, fun i x hx => let ⟨u, a, b⟩ := h3 i x hx; ⟨u, a, b.ren (List.all_eq_true.1 hc x (List.mem_of_getElem? hx)) hm⟩⟩
 | ptr id' off =>
  have hne : id' ≠ id := by simpa [SV.noRef] using hc
  show v = _; rw [hm _ hne]; exact h
 | pe id' sz i j =>
  have hne : id' ≠ id := by simpa [SV.noRef] using hc
  show v = _; rw [hm _ hne]; exact h
 | clo f id' =>
  have hne : id' ≠ id := by simpa [SV.noRef] using hc
  show v = _; rw [hm _ hne]; exact h
 | fn f c => exact h
 | pd cs => exact h

/-! ### The simulation -/
def St.get (st : St) (i : Nat) : SV := st.ρ.getD i .none
def St.put (st : St) (dst : Option Tmp) (v : SV) : St :=
 match dst with
 | some d => { st with ρ := st.ρ.set d v }
 | none => st

def Mut (X : Nat -> Prop) (μ : Nat -> Nat) (σ : ca) (b : Nat) : Prop := X b \/ ∃ id o, σ id = some o /\ μ id = b

def RelO (w : World) (X : Nat -> Prop) (μ : Nat -> Nat) (cs : Array Value) : OO -> Prop
 | .box o => o.length <= cs.size /\ ∀ (i : Nat) (c : SC), o[i]? = some c -> ∃ x, cs[i]? = some x /\ RelC w X μ x c
 | .arr sz es => es.length * sz <= cs.size /\ (∀ (i : Nat) (e : List DC), es[i]? = some e -> e.length = sz) /\
   ∀ (i j : Nat) (d : DC), at2 es i j = some d -> ∃ x, cs[i * sz + j]? = some x /\ RdC w X x d

structure Base where
 w : World
 z : Nat -> Prop
def Base.of (w : World) : Base := ⟨w, fun _ => False⟩

def TbW (w : World) : Prop := ∀ p ∈ oc, p.1 < w.heap.size /\ (∀ j, j < p.2.length -> w.cell? ⟨p.1, j, none⟩ = some (.int .u8 (p.2.getD j 0))) /\ (p.2 = [] -> ∃ t fr, w.heap[p.1]? = some (.cells (qt.map fun z => Value.int .u64 z).toArray t fr))
theorem TbW.of {w w' : World} (h : TbW w) (hs : w.heap.size <= w'.heap.size) (hb : ∀ p ∈ oc, w'.heap[p.1]? = w.heap[p.1]?) : TbW w' :=
 fun p hp => ⟨Nat.lt_of_lt_of_le (h p hp).1 hs, fun j hj => (World.cell?_of_block (w := w) (hb p hp)).trans ((h p hp).2.1 j hj), fun e => by rw [hb p hp]; exact (h p hp).2.2 e⟩
theorem TbW.below {w w' : World} (h : TbW w) (hb : Below w.heap.size w w') : TbW w' := h.of hb.size fun p hp => hb.block _ (h p hp).1

structure BelZ (w0 : Base) (w : World) : Prop where
 os : w.os = w0.w.os
 tape : w.tape = w0.w.tape
 output : w.output = w0.w.output
 size : w0.w.heap.size <= w.heap.size
 block : ∀ k, k < w0.w.heap.size -> ¬ w0.z k -> w.heap[k]? = w0.w.heap[k]?
 lw : TbW w0.w
 lz : ∀ p ∈ oc, ¬ w0.z p.1
 row : ∀ (b : Nat) (cs : Array Value) (E : TypeId) (fr : Nat × Nat), w0.z b -> w0.w.heap[b]? = some (Obj.cells cs E fr) -> ∃ cs' : Array Value, w.heap[b]? = some (Obj.cells cs' E fr) /\ cs'.size = cs.size

theorem BelZ.refl (w0 : Base) (hL : TbW w0.w) (hz : ∀ p ∈ oc, ¬ w0.z p.1) : BelZ w0 w0.w := ⟨rfl, rfl, rfl, Nat.le_refl _, fun _ _ _ => rfl, hL, hz, fun _ cs _ _ _ h => ⟨cs, h, rfl⟩⟩
theorem BelZ.trans {w0 : Base} {w w' : World} (h : BelZ w0 w) (k : Below w.heap.size w w') : BelZ w0 w' :=
 ⟨k.os.trans h.os, k.tape.trans h.tape, k.output.trans h.output, Nat.le_trans h.size k.size, fun i hi hz => (k.block i (Nat.lt_of_lt_of_le hi h.size)).trans (h.block i hi hz), h.lw, h.lz,
  fun b cs E fr hz hc => let ⟨cs', h1, h2⟩ := h.row b cs E fr hz hc; ⟨cs', (k.block b (bM h1)).trans h1, h2⟩⟩
theorem BelZ.below {w w' : World} (h : BelZ (.of w) w') : Below w.heap.size w w' := ⟨h.os, h.tape, h.output, h.size, fun k hk => h.block k hk (fun h => h)⟩

theorem BelZ.now {w0 : Base} {w : World} (h : BelZ w0 w) : TbW w := h.lw.of h.size fun p hp => h.block _ (h.lw p hp).1 (h.lz p hp)

def Own (w0 : Base) (id b : Nat) : Prop := (w0.w.heap.size <= b \/ w0.z b) /\ (id = 999 -> ∀ k, w0.z k -> b = k)
structure Sim (w0 : Base) (X : Nat -> Prop) (μ : Nat -> Nat) (a : Act) (w : World) (st : St) : Prop where
 xlt : ∀ b, X b -> b < w0.w.heap.size /\ ¬ w0.z b
 dfr : a.defers = []
 bel : BelZ w0 w
 len : a.tmps.size = st.ρ.length
 slots : ∀ i, RelV w (Mut X μ st.σ) μ (a.tmps.getD i undef) (st.get i)
 objs : ∀ (id : Nat) (o : OO), st.σ id = some o -> Own w0 id (μ id) /\ ∃ (cs : Array Value) (E : TypeId), w.heap[μ id]? = some (Obj.cells cs E (0, 0)) /\ RelO w (Mut X μ st.σ) μ cs o
 inj : ∀ (i j : Nat) (o o' : OO), st.σ i = some o -> st.σ j = some o' -> μ i = μ j -> i = j
 rbs : ∀ (id : Nat) (cs : List SC), st.σ id = some (.box cs) -> id ∉ st.rb -> ∀ k, cs.all (SC.noRef k) = true

def AWP (P : Program) (w0 : Base) (X : Nat -> Prop) (c : Code) (Q : Exit -> St -> Prop) (st : St) : Prop :=
 ∀ μ a w, Sim w0 X μ a w st -> c.wp P (fun e a' w' => ∃ μ' st', Sim w0 X μ' a' w' st' /\ Q e st') a w

theorem RelO.mono {w w' : World} {X X' : Nat -> Prop} {μ : Nat -> Nat} (hX : ∀ b, b < w.heap.size -> X' b -> X b) (hw : Fwd X w w') {cs : Array Value} {o : OO}
  (h : RelO w X μ cs o) : RelO w' X' μ cs o := by
 cases o with
 | box o => exact ⟨h.1, fun i c hc => let ⟨x, h1, h2⟩ := h.2 i c hc; ⟨x, h1, h2.mono hX hw⟩⟩
 | arr sz es => exact ⟨h.1, h.2.1, fun i j d hd => let ⟨x, h1, h2⟩ := h.2.2 i j d hd; ⟨x, h1, h2.mono hX hw.keep⟩⟩

theorem RelO.ren {w : World} {X : Nat -> Prop} {μ μ' : Nat -> Nat} {cs : Array Value} {o : OO} (h : RelO w X μ cs o) {id : Nat} (hc : o.noRef id = true)
  (hm : ∀ k, k ≠ id -> μ' k = μ k) : RelO w X μ' cs o := by
 cases o with
 | box o => exact ⟨h.1, fun i c hi => let ⟨x, h1, h2⟩ := h.2 i c hi; ⟨x, h1, h2.ren (List.all_eq_true.1 hc c (List.mem_of_getElem? hi)) hm⟩⟩
 | arr sz es => exact h

end Go.Proofs.YtnoildlijhapaaaGreatDoor

/- Memory: loading and storing rows of cells. No condition. -/
namespace Go.Proofs.YtnoildlijhapaaaGreatDoor

theorem gU (b off n : Nat) : (Addr.add ⟨b, off, none⟩ n) = ⟨b, off + n, none⟩ := by
 unfold Addr.add
 split
 ·rename_i h; simp [h]
 ·rfl

theorem j1 {w : World} {b : Nat} {cs : Array Value} {E : TypeId} {fr : Nat × Nat} (h : w.heap[b]? = some (.cells cs E fr)) (off : Nat) :
  w.cell? ⟨b, off, none⟩ = cs[off]? := by
 simp [World.cell?, h]

theorem mq {P : Program} {w : World} {b : Nat} {cs : Array Value} {E : TypeId} {fr : Nat × Nat} (h : w.heap[b]? = some (.cells cs E fr)) (off : Nat) :
  ∀ (n i : Nat) (acc : Array Value), off + i + n <= cs.size ->
   (loadCellsFrom ⟨b, off, none⟩ i n acc).run P w = .ok (acc ++ cs.extract (off + i) (off + i + n)) w := by
 intro n
 induction n with
 | zero => intro i acc _; simp only [loadCellsFrom, Sem.run_pure, Nat.add_zero, Array.extract_eq_empty_of_le (show min (off + i) cs.size <= off + i by omega), Array.append_empty]
 | succ n ih =>
  intro i acc hle
  have hlt : off + i < cs.size := by omega
  simp only [loadCellsFrom, Sem.run_bind, gU, run_load, j1 h, Array.getElem?_eq_getElem hlt, Result.andThen_ok];rw [ih (i + 1) _ (by omega)]
  congr 1
  apply Array.ext'
  simp only [Array.toList_append, Array.toList_push, Array.toList_extract, List.append_assoc]
  congr 1
  have e1 : off + (i + 1) = off + i + 1 := by omega
  have e2 : off + i + 1 + n = off + i + (n + 1) := by omega
  rw [e1, e2, List.extract_eq_take_drop, List.extract_eq_take_drop]
  have hlt' : off + i < cs.toList.length := by simpa using hlt
  rw [List.drop_eq_getElem_cons hlt']
  have e3 : off + i + (n + 1) - (off + i) = n + 1 := by omega
  have e4 : off + i + (n + 1) - (off + i + 1) = n := by omega
  rw [e3, e4, List.take_succ_cons]
  simp

theorem iY {P : Program} {w : World} {b : Nat} {cs : Array Value} {E : TypeId} {fr : Nat × Nat} (h : w.heap[b]? = some (.cells cs E fr)) (off n : Nat) (hle : off + n <= cs.size) :
  (loadCells ⟨b, off, none⟩ n).run P w = .ok (cs.extract off (off + n)) w := by
 unfold loadCells
 rw [mq h off n 0 #[] (by omega)]
 simp

def spl (cs : Array Value) : Nat -> List Value -> Array Value
 | _, [] => cs
 | k, v :: vs => spl (cs.setIfInBounds k v) (k + 1) vs

theorem df : ∀ (vs : List Value) (cs : Array Value) (k : Nat), (spl cs k vs).size = cs.size
 | [], _, _ => rfl
 | v :: vs, cs, k => by rw [spl, df vs]; simp

theorem jC : ∀ (vs : List Value) (cs : Array Value) (k m : Nat), k + vs.length <= cs.size ->
  (spl cs k vs)[m]? = if k <= m /\ m < k + vs.length then vs[m - k]? else cs[m]?
 | [], cs, k, m, _ => by rw [spl, if_neg (by simp)]
 | v :: vs, cs, k, m, h => by
  simp only [List.length_cons] at h;rw [spl, jC vs _ _ _ (by simp; omega)];simp only [List.length_cons]
  by_cases hm : m = k
  ·subst hm
   rw [if_neg (by omega), if_pos (by omega)]
   have hlt : m < cs.size := by omega
   simp [hlt]
  ·by_cases h1 : k + 1 <= m /\ m < k + 1 + vs.length
   ·rw [if_pos h1, if_pos (by omega)]
    have : m - k = (m - (k + 1)) + 1 := by omega
    rw [this, List.getElem?_cons_succ]
   ·rw [if_neg h1, if_neg (by omega)];rw [Array.getElem?_setIfInBounds_ne (Ne.symm hm)]

def setRow (w : World) (b : Nat) (cs : Array Value) : World :=
 { w with heap := w.heap.modify b fun
   | .cells _ E fr => .cells cs E fr
   | o => o }

theorem cU (w : World) (b : Nat) (cs : Array Value) {k : Nat} (h : k ≠ b) : (setRow w b cs).heap[k]? = w.heap[k]? := by
 simp only [setRow, Array.getElem?_modify];rw [if_neg (Ne.symm h)]

theorem dq {w : World} {b : Nat} {cs : Array Value} {E : TypeId} {fr : Nat × Nat} (h : w.heap[b]? = some (.cells cs E fr)) (cs' : Array Value) :
  (setRow w b cs').heap[b]? = some (.cells cs' E fr) := by
 simp only [setRow, Array.getElem?_modify, if_true, h, Option.map_some]

theorem kk (w : World) (b : Nat) (cs : Array Value) : (setRow w b cs).heap.size = w.heap.size := by simp [setRow]

theorem nZ {w : World} {b : Nat} {cs : Array Value} {E : TypeId} {fr : Nat × Nat} (h : w.heap[b]? = some (.cells cs E fr)) : setRow w b cs = w := by
 have : w.heap.modify b (fun | .cells _ E fr => .cells cs E fr | o => o) = w.heap := by
  apply Array.ext_getElem?
  intro i
  rw [Array.getElem?_modify]
  split
  ·rename_i hi; subst hi; simp [h]
  ·rfl
 unfold setRow; rw [this]

theorem iX {w : World} {b : Nat} {cs cs' cs'' : Array Value} {E : TypeId} {fr : Nat × Nat} (h : w.heap[b]? = some (.cells cs E fr)) :
  setRow (setRow w b cs') b cs'' = setRow w b cs'' := by
 have : (setRow w b cs').heap.modify b (fun | .cells _ E fr => .cells cs'' E fr | o => o) = w.heap.modify b (fun | .cells _ E fr => .cells cs'' E fr | o => o) := by
  apply Array.ext_getElem?
  intro i
  rw [Array.getElem?_modify, Array.getElem?_modify]
  split
  ·rename_i hi; subst hi; rw [dq h, h]; rfl
  ·rename_i hi; exact cU _ _ _ (Ne.symm hi)
 unfold setRow at this ⊢
 simp only [this]

theorem kl {w : World} {b : Nat} {cs : Array Value} {E : TypeId} {fr : Nat × Nat} (h : w.heap[b]? = some (.cells cs E fr)) (off : Nat) (v : Value) :
  w.setCell ⟨b, off, none⟩ v = setRow w b (cs.setIfInBounds off v) := by
 have : w.heap.modify b (fun | .cells c elem frozen => .cells (if (none : Option Nat).isSome then c else c.setIfInBounds off v) elem frozen | o => o) =
   w.heap.modify b (fun | .cells _ E fr => .cells (cs.setIfInBounds off v) E fr | o => o) := by
  apply Array.ext_getElem?
  intro i
  rw [Array.getElem?_modify, Array.getElem?_modify]
  split
  ·rename_i hi; subst hi; simp [h]
  ·rfl
 unfold World.setCell setRow
 exact congrArg (fun hp => ({ w with heap := hp } : World)) this

theorem kv {w : World} {b : Nat} {cs : Array Value} {E : TypeId} (h : w.heap[b]? = some (.cells cs E (0, 0))) (off : Nat) :
  w.frozen? ⟨b, off, none⟩ = false := by
 simp [World.frozen?, h]

theorem iA {P : Program} : ∀ (vs : List Value) {w : World} {b : Nat} {cs : Array Value} {E : TypeId} (_ : w.heap[b]? = some (.cells cs E (0, 0))) (off i : Nat),
  off + i + vs.length <= cs.size -> (∀ v ∈ vs, v.oneCell' = true) ->
   (storeCells ⟨b, off, none⟩ vs i).run P w = .ok () (setRow w b (spl cs (off + i) vs))
 | [], w, b, cs, E, h, off, i, _, _ => by
  simp only [storeCells, Sem.run_pure, spl];rw [nZ h]
 | v :: vs, w, b, cs, E, h, off, i, hle, hv => by
  simp only [List.length_cons] at hle
  have hlt : off + i < cs.size := by omega
  simp only [storeCells, Sem.run_bind, gU];rw [run_store P w _ v _ (hv v (by simp))];simp only [j1 h, Array.getElem?_eq_getElem hlt, kv h];rw [if_neg (by simp), kl h];simp only [Result.andThen_ok];rw [iA vs (dq h _) off (i + 1) (by simp; omega) (fun v hv' => hv v (by simp [hv']))];rw [iX h]
  rfl

theorem jG {w : World} {b : Nat} {X : Nat -> Prop} {cs cs' : Array Value} {E : TypeId} {fr : Nat × Nat} (h : w.heap[b]? = some (.cells cs E fr)) (hs : cs'.size = cs.size) (hX : X b) :
  Fwd X w (setRow w b cs') := by
 refine ⟨by rw [kk]; exact Nat.le_refl _, fun k _ hk => cU _ _ _ (fun e => hk (e ▸ hX)), fun k c E' fr' hc => ?_⟩
 by_cases hk : k = b
 ·subst hk
  rw [h] at hc; cases hc;exact ⟨cs', fr, dq h cs', hs⟩
 ·exact ⟨c, fr', by rw [cU _ _ _ hk]; exact hc, rfl⟩

theorem sG (X : Nat -> Prop) (w : World) (o : Obj) : Fwd X w (w.alloc o) :=
 ⟨by simp, fun b hb _ => RowKit.Below.heap_alloc w o b hb, fun b cs E fr hc => ⟨cs, fr, by rw [RowKit.Below.heap_alloc w o b (bM hc)]; exact hc, rfl⟩⟩

theorem gz (w : World) (o : Obj) : (w.alloc o).heap[w.heap.size]? = some o := by show (w.heap.push o)[w.heap.size]? = _; simp

/-! ### The types' table -/
inductive TD where
 | slice (e : TypeId)
 | array (n : Nat) (e : TypeId)
 | struct (fs : List (Nat × TypeId))
 | int (k : IntKind)
 | bool
 | string
 | other

structure TI where
 size : Nat
 bytes : Nat
 agg : Bool
 zero : List SC
 und : TD

def nv : TypeDesc -> TD
 | .slice e => .slice e
 | .array n e => .array n e
 | .struct fs => .struct (fs.toList.map fun f => (f.offset, f.type))
 | .int k => .int k
 | .bool => .bool
 | .string => .string
 | _ => .other

def io : SC -> Value
 | .d (.lit v) => v
 | _ => .slice none 0 0

def mkV (agg : Bool) (vs : List Value) : Value := if agg then .agg vs.toArray else vs.headD undef

def BI : TypeDesc -> Bool
 | .struct _ | .array _ _ => true
 | _ => false

structure TF (P : Program) (t : TypeId) (ti : TI) : Prop where
 info : (P.info? t).map (fun i => (i.size, i.bytes, i.zero)) = some (ti.size, ti.bytes, some (mkV ti.agg (ti.zero.map io)))
 und : (P.underlying t).map nv = some ti.und
 agg : (P.underlying t).map BI = some ti.agg
 zsz : ti.zero.length = ti.size
 zok : ti.zero.all (fun c => match c with | .d (.lit v) => yO v | .nil => true | _ => false) = true
 one : ti.agg = false -> ti.size = 1

structure Res where
 v : SV
 ob : Option (Nat × List (List DC)) := none

def rnC (d : Nat) : SC -> SC
 | .own _ sz off len => .own d sz off len
 | c => c
def uC (d : Nat) : VV -> VV
 | .one c => .one (rnC d c)
 | .agg cs => .agg (cs.map (rnC d))
def Ax (d : Nat) : SV -> SV
 | .val x => .val (uC d x)
 | .tup xs => .tup (xs.map (uC d))
 | x => x

def E9 : DC -> Bool
 | .lit _ => true
 | .sl _ => false
def SC.flat : SC -> Bool
 | .d (.lit _) => true
 | .d (.sl []) => true
 | .nil => true
 | .own _ _ _ _ => true
 | _ => false
def VV.flat : VV -> Bool
 | .one c => c.flat
 | .agg cs => cs.all SC.flat
def SV.flat : SV -> Bool
 | .val x => x.flat
 | .tup xs => xs.all VV.flat
 | .none => true
 | _ => false
def CR (r : Res) : Prop := r.v.flat = true /\ ∀ (sz : Nat) (es : List (List DC)), r.ob = some (sz, es) -> ∀ e ∈ es, ∀ d ∈ e, E9 d = true

def Xp (X : Nat -> Prop) (r : Res) (b c : Nat) : Prop := X c \/ (r.ob.isSome = true /\ c = b)
def xk (w : World) (X : Nat -> Prop) (base : Nat) (v : Value) (r : Res) : Prop :=
 ∃ b, (∀ (sz : Nat) (es : List (List DC)), r.ob = some (sz, es) -> base <= b /\ ∃ (cs : Array Value) (E : TypeId), w.heap[b]? = some (Obj.cells cs E (0, 0)) /\ RelO w (Xp X r b) (fun _ => b) cs (.arr sz es)) /\
  RelV w (Xp X r b) (fun _ => b) v r.v

def Con (P : Program) (f : FuncId) (args : List SV) (r : Res) : Prop :=
 (∃ fn, P.funcs[f]? = some fn /\ (fn.name == "runtime.NumGoroutine") = false /\ fn.body.isSome = true) /\
  ∀ (w : World) (X : Nat -> Prop) (μ : Nat -> Nat) (vs : List Value), TbW w -> (∀ b, X b -> b < w.heap.size) -> vs.length = args.length -> (∀ (i : Nat) (x : SV), args[i]? = some x -> ∃ v, vs[i]? = some v /\ RelV w X μ v x) ->
   Calls P f vs.toArray w (fun e w' => ∃ v, e = .returned v /\ RowKit.Below w.heap.size w w' /\ xk w' X w.heap.size v r)

def SC.noOwn : SC -> Bool
 | .own _ _ _ _ => false
 | _ => true
def VV.noOwn : VV -> Bool
 | .one c => c.noOwn
 | .agg cs => cs.all SC.noOwn
def SV.noOwn : SV -> Bool
 | .val x => x.noOwn
 | .tup xs => xs.all VV.noOwn
 | _ => true

def SV.noAddr : SV -> Bool
 | .ptr _ _ | .pe _ _ _ _ | .clo _ _ => false
 | _ => true
structure Tab where
 ty : Nat -> Option TI
 clo : FuncId -> List SV -> Option SV
 dat : Nat -> Bool := fun _ => false
 eqs : Nat -> Option Nat := fun _ => none
instance : CoeFun Tab (fun _ => Nat -> Option TI) := ⟨Tab.ty⟩
def HW (P : Program) (t : TypeId) (n : Nat) : Prop :=
 ∀ (w : World) (ox oy : Operand) (a b : List Int), a.length = n -> b.length = n ->
  ((do eqGuard .eql t ox oy (.agg (a.map (Value.int .i64)).toArray) (.agg (b.map (Value.int .i64)).toArray); binOp .eql t (.agg (a.map (Value.int .i64)).toArray) (.agg (b.map (Value.int .i64)).toArray)) : Sem Value).run P w = .ok (.bool (a == b)) w /\
  ((do eqGuard .neq t ox oy (.agg (a.map (Value.int .i64)).toArray) (.agg (b.map (Value.int .i64)).toArray); binOp .neq t (.agg (a.map (Value.int .i64)).toArray) (.agg (b.map (Value.int .i64)).toArray)) : Sem Value).run P w = .ok (.bool (!(a == b))) w
structure TOK (P : Program) (T : Tab) : Prop where
 ty : ∀ t ti, T.ty t = some ti -> TF P t ti
 clo : ∀ f args v, T.clo f args = some v -> Con P f args { v := v } /\ v.flat = true /\ v.noOwn = true /\ v.noAddr = true
 eqs : ∀ t n, T.eqs t = some n -> HW P t n

section
variable {P : Program} {t : TypeId} {ti : TI} (h : TF P t ti) (w : World)
include h
theorem TF.run_sizeOf : (sizeOf t).run P w = .ok ti.size w := by
 have h1 := h.info
 cases hi : P.info? t with
 | none => rw [hi] at h1; cases h1
 | some i =>
  rw [hi] at h1; simp only [Option.map_some, Option.some.injEq, Prod.mk.injEq] at h1;simp only [sizeOf, typeInfo, Sem.run_bind, run_program, Result.andThen_ok, hi, Sem.run_pure, h1.1]
theorem TF.run_zero : (zeroValue t).run P w = .ok (mkV ti.agg (ti.zero.map io)) w := by
 have h1 := h.info
 cases hi : P.info? t with
 | none => rw [hi] at h1; cases h1
 | some i =>
  rw [hi] at h1; simp only [Option.map_some, Option.some.injEq, Prod.mk.injEq] at h1;simp only [zeroValue, typeInfo, Sem.run_bind, run_program, Result.andThen_ok, hi, Sem.run_pure, h1.2.2]
theorem TF.run_bytes : ∃ i, (typeInfo t).run P w = .ok i w /\ i.bytes = ti.bytes /\ i.size = ti.size := by
 have h1 := h.info
 cases hi : P.info? t with
 | none => rw [hi] at h1; cases h1
 | some i =>
  rw [hi] at h1; simp only [Option.map_some, Option.some.injEq, Prod.mk.injEq] at h1;exact ⟨i, by simp only [typeInfo, Sem.run_bind, run_program, Result.andThen_ok, hi, Sem.run_pure], h1.2.1, h1.1⟩
theorem TF.run_und : ∃ u, (underlying t).run P w = .ok u w /\ nv u = ti.und /\ BI u = ti.agg := by
 have h1 := h.und
 have h2 := h.agg
 cases hi : P.underlying t with
 | none => rw [hi] at h1; cases h1
 | some u =>
  rw [hi] at h1 h2; simp only [Option.map_some, Option.some.injEq] at h1 h2;exact ⟨u, by simp only [underlying, Sem.run_bind, run_program, Result.andThen_ok, hi, Sem.run_pure], h1, h2⟩
theorem TF.run_isAgg : (isAgg t).run P w = .ok ti.agg w := by
 obtain ⟨u, hu, _, ha⟩ := h.run_und w
 simp only [isAgg, Sem.run_bind, hu, Result.andThen_ok];rw [<- ha]
 cases u <;> rfl
theorem TF.run_slice {e : TypeId} (he : ti.und = .slice e) : (underlying t).run P w = .ok (.slice e) w := by
 obtain ⟨u, hu, hd, _⟩ := h.run_und w
 rw [he] at hd
 cases u <;> simp only [nv] at hd <;> cases hd
 exact hu
theorem TF.run_array {m : Nat} {e : TypeId} (he : ti.und = .array m e) : (underlying t).run P w = .ok (.array m e) w := by
 obtain ⟨u, hu, hd, _⟩ := h.run_und w
 rw [he] at hd
 cases u <;> simp only [nv] at hd <;> cases hd
 exact hu
theorem TF.run_int {k : IntKind} (he : ti.und = .int k) : (underlying t).run P w = .ok (.int k) w := by
 obtain ⟨u, hu, hd, _⟩ := h.run_und w
 rw [he] at hd
 cases u <;> simp only [nv] at hd <;> cases hd
 exact hu
theorem TF.run_string (he : ti.und = .string) : (underlying t).run P w = .ok .string w := by
 obtain ⟨u, hu, hd, _⟩ := h.run_und w
 rw [he] at hd
 cases u <;> simp only [nv] at hd <;> cases hd
 exact hu
theorem TF.run_bool (he : ti.und = .bool) : (underlying t).run P w = .ok .bool w := by
 obtain ⟨u, hu, hd, _⟩ := h.run_und w
 rw [he] at hd
 cases u <;> simp only [nv] at hd <;> cases hd
 exact hu
theorem TF.run_struct {fs : List (Nat × TypeId)} (he : ti.und = .struct fs) : ∃ fields : Array Field, (underlying t).run P w = .ok (.struct fields) w /\
  fields.toList.map (fun f => (f.offset, f.type)) = fs := by
 obtain ⟨u, hu, hd, _⟩ := h.run_und w
 rw [he] at hd
 cases u <;> simp only [nv] at hd <;> cases hd
 exact ⟨_, hu, rfl⟩
end

end Go.Proofs.YtnoildlijhapaaaGreatDoor

/- What each operation does to the abstract state. No condition. -/
namespace Go.Proofs.YtnoildlijhapaaaGreatDoor

def po (v : Value) : SC :=
 match v with
 | .slice none 0 0 => .nil
 | .bool _ | .int _ _ | .string _ => .d (.lit v)
 | _ => .bad

def q8 : Value -> SV
 | .slice none 0 0 => .val (.one .nil)
 | .bool b => .val (.one (.d (.lit (.bool b))))
 | .int k n => .val (.one (.d (.lit (.int k n))))
 | .string s => .val (.one (.d (.lit (.string s))))
 | .agg cs => if cs.toList.all Value.oneCell' then .val (.agg (cs.toList.map po)) else .none
 | _ => .none

def opd (st : St) : Operand -> SV
 | .tmp t => st.get t
 | .const v => q8 v
 | .func f => .fn f none
 | _ => .none

def cellsOf : VV -> List SC
 | .one c => [c]
 | .agg cs => cs
def tI (agg : Bool) (cs : List SC) : Option VV :=
 if agg then some (.agg cs) else match cs with
  | [c] => some (.one c)
  | _ => none
def SC.data? : SC -> Option DC
 | .d c => some c
 | .nil => some (.sl [])
 | _ => none
def hO : List SC -> Option (List DC)
 | [] => some []
 | c :: cs => match c.data?, hO cs with
  | some d, some ds => some (d :: ds)
  | _, _ => none
def kc {α : Type} (l : List α) : Nat -> List α -> List α
 | _, [] => l
 | k, v :: vs => kc (l.set k v) (k + 1) vs

inductive Eff where
 | set (v : SV)
 | new (o : OO) (v : Nat -> SV)
 | upd (σ : ca) (rb : List Nat)
 | app (id : Option Nat) (sz : Nat) (es : List (List DC))
 | call (f : FuncId) (args : List SV)
 | stuck

def d5 : BinOp -> Value -> Value -> Option Value
 | .shl, .int k a, .int _ b => if b < 0 then none else some (.int k (k.wrap (a * 2 ^ (min b.toNat k.bits))))
 | .shr, .int k a, .int _ b => if b < 0 then none else some (.int k (a.fdiv (2 ^ (min b.toNat k.bits))))
 | .add, .int k a, .int k' b => if k = k' then some (.int k (k.wrap (a + b))) else none
 | .sub, .int k a, .int k' b => if k = k' then some (.int k (k.wrap (a - b))) else none
 | .mul, .int k a, .int k' b => if k = k' then some (.int k (k.wrap (a * b))) else none
 | .quo, .int k a, .int k' b => if k = k' then if b = 0 then none else some (.int k (k.wrap (a.tdiv b))) else none
 | .rem, .int k a, .int k' b => if k = k' then if b = 0 then none else some (.int k (a.tmod b)) else none
 | .and, .int k a, .int k' b => if k = k' then some (.int k (k.wrap ((BitVec.ofInt k.bits a &&& BitVec.ofInt k.bits b).toNat))) else none
 | .or, .int k a, .int k' b => if k = k' then some (.int k (k.wrap ((BitVec.ofInt k.bits a ||| BitVec.ofInt k.bits b).toNat))) else none
 | .xor, .int k a, .int k' b => if k = k' then some (.int k (k.wrap ((BitVec.ofInt k.bits a ^^^ BitVec.ofInt k.bits b).toNat))) else none
 | .andNot, .int k a, .int k' b => if k = k' then some (.int k (k.wrap ((BitVec.ofInt k.bits a &&& ~~~ BitVec.ofInt k.bits b).toNat))) else none
 | .eql, .int k a, .int k' b => if k = k' then some (.bool (a == b)) else none
 | .neq, .int k a, .int k' b => if k = k' then some (.bool (a != b)) else none
 | .lss, .int k a, .int k' b => if k = k' then some (.bool (a < b)) else none
 | .leq, .int k a, .int k' b => if k = k' then some (.bool (a <= b)) else none
 | .gtr, .int k a, .int k' b => if k = k' then some (.bool (a > b)) else none
 | .geq, .int k a, .int k' b => if k = k' then some (.bool (a >= b)) else none
 | .eql, .string a, .string b => some (.bool (a.toList == b.toList))
 | .neq, .string a, .string b => some (.bool (!(a.toList == b.toList)))
 | .add, .string a, .string b => if a.size + b.size <= 4611686018427387904 then some (.string (a ++ b)) else none
 | _, _, _ => none

def unA : UnOp -> Value -> Option Value
 | .neg, .int k n => some (.int k (k.wrap (0 - n)))
 | .xor, .int k n => some (.int k (k.wrap ((BitVec.ofInt k.bits (if k.signed then -1 else k.max) ^^^ BitVec.ofInt k.bits n).toNat)))
 | .not, .bool b => some (.bool !b)
 | _, _ => none

def cv : SV -> Option Value
 | .val (.one (.d (.lit v))) => some v
 | _ => none
def cr : SV -> Option (IntKind × Int)
 | .val (.one (.d (.lit (.int k n)))) => some (k, n)
 | _ => none
def bh (v : Value) : Eff := .set (.val (.one (.d (.lit v))))

def pn (T : Tab) (t : TypeId) : Bool :=
 match T t with
 | some ti => match ti.und with
  | .bool => true
  | _ => false
 | none => false
def r7 : List SC -> Option (List Int)
 | [] => some []
 | .d (.lit (.int .i64 n)) :: cs => match r7 cs with
  | some l => some (n :: l)
  | none => none
 | _ => none
def yk (T : Tab) (op : BinOp) (t : TypeId) (x y : SV) : Eff :=
 match T.eqs t, x, y with
 | some n, .val (.agg cs), .val (.agg ds) => match r7 cs, r7 ds with
  | some a, some b => if a.length = n /\ b.length = n then match op with
    | .eql => bh (.bool (a == b))
    | .neq => bh (.bool (!(a == b)))
    | _ => .stuck else .stuck
  | _, _ => .stuck
 | _, _, _ => .stuck
def aK (T : Tab) (op : BinOp) (t : TypeId) (x y : SV) : Eff :=
 match cv x, cv y with
 | some a, some b => match d5 op a b with
  | some v => bh v
  | none => match op, a, b with
   | .eql, .bool p, .bool q => if pn T t then bh (.bool (p == q)) else .stuck
   | .neq, .bool p, .bool q => if pn T t then bh (.bool (!(p == q))) else .stuck
   | _, _, _ => .stuck
 | _, _ => yk T op t x y
def mT (op : UnOp) (x : SV) : Eff :=
 match cv x with
 | some a => match unA op a with
  | some v => bh v
  | none => .stuck
 | none => .stuck
def jV (c a b : SV) : Eff :=
 match cv c with
 | some (.bool t) => .set (if t then a else b)
 | _ => .stuck
def iS (T : Tab) (src dst : TypeId) (x : SV) : Eff :=
 match T src, T dst, cr x with
 | some _, some td, some (_, n) => match td.und with
  | .int k => bh (.int k (k.wrap n))
  | _ => .stuck
 | _, _, _ => .stuck
def bu (T : Tab) (st : St) (t : TypeId) (x : SV) : Eff :=
 match T t with
 | none => .stuck
 | some ti => match x with
  | .ptr id off => match st.σ id with
   | some (.box cs) => if off + ti.size <= cs.length then match tI ti.agg ((cs.drop off).take ti.size) with
    | some v => .set (.val v)
    | none => .stuck else .stuck
   | _ => .stuck
  | .pe id sz i j => match st.σ id with
   | some (.arr sz' es) => if sz' = sz then match es[i]? with
    | some e => if j + ti.size <= e.length then match tI ti.agg (((e.drop j).take ti.size).map .d) with
     | some v => .set (.val v)
     | none => .stuck else .stuck
    | none => .stuck else .stuck
   | some (.box cs) => if i * sz + j + ti.size <= cs.length then match tI ti.agg ((cs.drop (i * sz + j)).take ti.size) with
    | some v => .set (.val v)
    | none => .stuck else .stuck
   | _ => .stuck
  | .pd cs => if 0 < ti.size /\ ti.size <= cs.length then match tI ti.agg ((cs.take ti.size).map .d) with
    | some v => .set (.val v)
    | none => .stuck else .stuck
  | _ => .stuck
def bc (σ : ca) (id : Nat) (o : OO) : ca := fun k => if k = id then some o else σ k
def bB (T : Tab) (st : St) (t : TypeId) (x y : SV) : Eff :=
 match T t, y with
 | some ti, .val v => if (cellsOf v).length = ti.size then match x with
  | .ptr id off => match st.σ id with
   | some (.box cs) => if off + ti.size <= cs.length then
     .upd (bc st.σ id (.box (kc cs off (cellsOf v)))) (if (cellsOf v).all SC.noOwn then st.rb else id :: st.rb) else .stuck
   | _ => .stuck
  | .pe id sz i j => match st.σ id, hO (cellsOf v) with
   | some (.arr sz' es), some ds => if sz' = sz then match es[i]? with
    | some e => if j + ti.size <= e.length then .upd (bc st.σ id (.arr sz (es.set i (kc e j ds)))) st.rb else .stuck
    | none => .stuck else .stuck
   | some (.box cs), _ => if i * sz + j + ti.size <= cs.length then
     .upd (bc st.σ id (.box (kc cs (i * sz + j) (cellsOf v)))) (if (cellsOf v).all SC.noOwn then st.rb else id :: st.rb) else .stuck
   | _, _ => .stuck
  | _ => .stuck else .stuck
 | _, _ => .stuck
def dD (T : Tab) (s : TypeId) (x : SV) (f : Nat) : Eff :=
 match T s with
 | some si => match si.und with
  | .struct fs => match fs[f]? with
   | some (off, t) => match T t with
    | some ti => if ti.size = 0 then .stuck else match x with
     | .ptr id o => .set (.ptr id (o + off))
     | .pe id sz i j => .set (.pe id sz i (j + off))
     | .pd cs => .set (.pd (cs.drop off))
     | _ => .stuck
    | none => .stuck
   | none => .stuck
  | _ => .stuck
 | none => .stuck
def jv (T : Tab) (s : TypeId) (x : SV) (f : Nat) : Eff :=
 match T s, x with
 | some si, .val (.agg cs) => match si.und with
  | .struct fs => match fs[f]? with
   | some (off, t) => match T t with
    | some ti => if off + ti.size <= cs.length then match tI ti.agg ((cs.drop off).take ti.size) with
     | some v => .set (.val v)
     | none => .stuck else .stuck
    | none => .stuck
   | none => .stuck
  | _ => .stuck
 | _, _ => .stuck
def a6 (T : Tab) (t : TypeId) (x i : SV) : Eff :=
 match T t, cr i with
 | some ti, some (_, n) => match ti.und with
  | .slice e => match T e with
   | some ei => if 0 <= n then match x with
    | .val (.one (.own id sz off len)) => if sz = ei.size /\ n < len then .set (.pe id sz (off + n.toNat) 0) else .stuck
    | .val (.one (.d (.sl es))) => match es[n.toNat]? with
     | some el => if el.length = ei.size then .set (.pd el) else .stuck
     | none => .stuck
    | _ => .stuck else .stuck
   | none => .stuck
  | .array m e => match T e with
   | some ei => if 0 <= n /\ n < m then match x with
    | .ptr id o => .set (.ptr id (o + n.toNat * ei.size))
    | _ => .stuck else .stuck
   | none => .stuck
  | _ => .stuck
 | _, _ => .stuck
def gx (x : SV) (i : Nat) : Eff :=
 match x with
 | .tup xs => match xs[i]? with
  | some v => .set (.val v)
  | none => .stuck
 | _ => .stuck
def g7 : SV -> Option Nat
 | .val (.one (.own _ _ _ len)) => some len
 | .val (.one (.d (.sl es))) => some es.length
 | .val (.one .nil) => some 0
 | _ => none
def nK (T : Tab) (t : TypeId) (x : SV) : Eff :=
 match T t with
 | some ti => match ti.und with
  | .slice _ => match g7 x with
   | some n => bh (.int .i64 n)
   | none => .stuck
  | _ => .stuck
 | none => .stuck
def sf (T : Tab) (fs : List (Nat × TypeId)) : List SC -> List (Nat × SV) -> Option (List SC)
 | cs, [] => some cs
 | cs, (i, .val v) :: rest => match fs[i]? with
  | some (off, t) => match T t with
   | some ti => if (cellsOf v).length = ti.size /\ off + ti.size <= cs.length then sf T fs (kc cs off (cellsOf v)) rest else none
   | none => none
  | none => none
 | _, _ => none
def jw (T : Tab) (t : TypeId) (parts : List (Nat × SV)) : Eff :=
 match T t with
 | some ti => match ti.und with
  | .struct fs => if fs.all (fun p => (T p.2).isSome) then match sf T fs ti.zero parts with
   | some cs => .set (.val (.agg cs))
   | none => .stuck else .stuck
  | _ => .stuck
 | none => .stuck
def rB (ei : TI) : List DC := (hO ei.zero).getD []
def ow (sz : Nat) : List (List DC) -> List (Nat × SV) -> Option (List (List DC))
 | es, [] => some es
 | es, (i, .val v) :: rest => match hO (cellsOf v) with
  | some ds => if ds.length = sz /\ i < es.length then ow sz (es.set i ds) rest else none
  | none => none
 | _, _ => none
def bn (T : Tab) (t : TypeId) (len : Nat) (parts : List (Nat × SV)) : Eff :=
 match T t with
 | some ti => match ti.und with
  | .slice e => match T e with
   | some ei => if len * ei.size <= 2 ^ 24 /\ ei.size ≠ 0 then match ow ei.size (List.replicate len (rB ei)) parts with
    | some es => .new (.arr ei.size es) (fun d => .val (.one (.own d ei.size 0 len)))
    | none => .stuck else .stuck
   | none => .stuck
  | _ => .stuck
 | none => .stuck
def l7 (ei : TI) (n : Nat) : OO :=
 match ei.zero with
 | [.nil] => .box (List.replicate n .nil)
 | _ => .arr ei.size (List.replicate n (rB ei))
def c7 (T : Tab) (t : TypeId) (len : Nat) (parts : List (Nat × SV)) : Eff :=
 match bn T t len parts with
 | .new (.arr _ es) _ => .set (.val (.one (.d (.sl es))))
 | _ => .stuck
def aZ (T : Tab) (t : TypeId) (l c : SV) : Eff :=
 match T t, cr l, cr c with
 | some ti, some (_, n), some (_, m) => match ti.und with
  | .slice e => match T e with
   | some ei => if 0 <= n /\ n <= m /\ Nat.ble m.toNat 1099511627776 = true /\ ei.bytes <= 256 /\ ei.size ≠ 0 then
     .new (l7 ei n.toNat) (fun d => .val (.one (.own d ei.size 0 n.toNat))) else .stuck
   | none => .stuck
  | _ => .stuck
 | _, _, _ => .stuck
def xy : SV -> Option ByteArray
 | .val (.one (.d (.lit (.string s)))) => some s
 | _ => none
def dh (T : Tab) (t : TypeId) (x : SV) (l h : Int) : Eff :=
 match T t with
 | some ti => match ti.und with
  | .string => match xy x with
   | some s => if 0 <= l /\ l <= h /\ h <= s.size then bh (.string (s.extract l.toNat h.toNat)) else .stuck
   | none => .stuck
  | .slice e => match T e with
   | some ei => match g7 x with
    | some n => if 0 <= l /\ l <= h /\ h <= n then
      if l = h then .set (.val (.one (.d (.sl [])))) else match x with
      | .val (.one (.own id sz off _)) => if sz = ei.size then .set (.val (.one (.own id sz (off + l.toNat) (h - l).toNat))) else .stuck
      | .val (.one (.d (.sl es))) => if es.all (fun e => e.length == ei.size) then .set (.val (.one (.d (.sl ((es.take h.toNat).drop l.toNat))))) else .stuck
      | _ => .stuck else .stuck
    | none => .stuck
   | none => .stuck
  | _ => .stuck
 | none => .stuck
def loI (f : Operand -> SV) : Option Operand -> Option Int
 | none => some 0
 | some o => (cr (f o)).map (·.2)
def hiI (f : Operand -> SV) (x : SV) : Option Operand -> Option Int
 | none => (g7 x).map fun n => (n : Int)
 | some o => (cr (f o)).map (·.2)
def e8 (T : Tab) (st : St) (t : TypeId) (x : SV) (lo hi : Option Operand) : Eff :=
 match loI (opd st) lo, hiI (opd st) x hi with
 | some l, some h => dh T t x l h
 | _, _ => .stuck
def e7 (st : St) : SV -> Option (List (List DC))
 | .val (.one (.d (.sl es))) => some es
 | .val (.one .nil) => some []
 | .val (.one (.own id sz off len)) => match st.σ id with
  | some (.arr sz' es) => if sz' = sz /\ off + len <= es.length then some ((es.drop off).take len) else none
  | _ => none
 | _ => none
def bm (T : Tab) (st : St) (t t2 : TypeId) (s x : SV) : Eff :=
 match T t, T t2 with
 | some ti, some ti2 => match ti.und, ti2.und with
  | .slice e, .slice _ => match T e, e7 st x with
   | some ei, some new => if ei.size ≠ 0 /\ ei.bytes <= 256 /\ new.all (fun e => e.length == ei.size) then match s with
    | .val (.one .nil) => if 0 < new.length /\ new.length <= 2 ^ 36 then .app none ei.size new else .stuck
    | .val (.one (.own id sz 0 len)) => match st.σ id with
     | some (.arr sz' es) => if sz = ei.size /\ sz' = sz /\ len = es.length /\ len + new.length <= 2 ^ 36 then .app (some id) sz (es ++ new) else .stuck
     | _ => .stuck
    | _ => .stuck else .stuck
   | _, _ => .stuck
  | _, _ => .stuck
 | _, _ => .stuck
def oB (max : Bool) (x y : SV) : Eff :=
 match cr x, cr y with
 | some (k, a), some (k', b) => if k = k' then bh (.int k (if max then (if b > a then b else a) else (if b < a then b else a))) else .stuck
 | _, _ => .stuck
def em (st : St) : SC -> Option DC
 | .d c => some c
 | .nil => some (.sl [])
 | .own id sz off len => match st.σ id with
  | some (.arr sz' es) => if sz' = sz /\ off + len <= es.length then some (.sl ((es.drop off).take len)) else none
  | _ => none
 | .bad => none
def b9 (st : St) : List SC -> Option (List SC)
 | [] => some []
 | c :: cs => match em st c, b9 st cs with
  | some d, some ds => some (.d d :: ds)
  | _, _ => none
def m9 (st : St) (id : Nat) : Option (List DC) :=
 match st.σ id with
 | some (.box cs) => match b9 st cs with
  | some ds => hO ds
  | none => none
 | _ => none
def hZ (st : St) : SV -> Option SV
 | .val (.one c) => match em st c with
  | some d => some (.val (.one (.d d)))
  | none => none
 | .val (.agg cs) => match b9 st cs with
  | some ds => some (.val (.agg ds))
  | none => none
 | .pd cs => some (.pd cs)
 | .fn f c => some (.fn f c)
 | _ => none
def db (st : St) : List SV -> Option (List SV)
 | [] => some []
 | x :: xs => match hZ st x, db st xs with
  | some y, some ys => some (y :: ys)
  | _, _ => none
def kw (T : Tab) (st : St) (x : SV) (xs : List SV) : Eff :=
 match x with
 | .clo f id => match db st xs, m9 st id with
  | some ys, some ds => match T.clo f (ys ++ [.pd ds]) with
   | some v => .set v
   | none => .stuck
  | _, _ => .stuck
 | _ => .stuck
def eh (T : Tab) (t : TypeId) (x i : SV) : Eff :=
 match T t, cv x, cr i with
 | some ti, some (.string s), some (_, n) => match ti.und with
  | .string => if 0 <= n then match s[n.toNat]? with
   | some b => bh (.int .u8 b.toNat)
   | none => .stuck else .stuck
  | _ => .stuck
 | _, _, _ => .stuck
def dr (f : FuncId) (captured : List SV) : Eff :=
 match captured with
 | [.ptr id 0] => .set (.clo f id)
 | _ => .stuck
def BH : SV -> Bool
 | .ptr _ _ | .pe _ _ _ _ | .pd _ => true
 | _ => false

def aW (T : Tab) (st : St) (callee : Callee) (xs : List SV) (ts : List TypeId) : Eff :=
 match callee, xs, ts with
 | .builtin .len, [x], [t] => nK T t x
 | .builtin .append, [s, x], [t, t2] => bm T st t t2 s x
 | .builtin .max, [x, y], _ => oB true x y
 | .builtin .min, [x, y], _ => oB false x y
 | .value (.func f), xs, _ => .call f xs
 | .value (.tmp t), xs, _ => kw T st (st.get t) xs
 | _, _, _ => .stuck

def eff (T : Tab) (st : St) (o : Oper) : Eff :=
 match o.op with
 | .move x | .assign x => .set (opd st x)
 | .pick c a b => jV (opd st c) (opd st a) (opd st b)
 | .box _ x => match opd st x with
  | .val v => .new (.box (cellsOf v)) (fun d => .ptr d 0)
  | _ => .stuck
 | .alloc e => match T e with
  | some ti => .new (.box ti.zero) (fun d => .ptr d 0)
  | none => .stuck
 | .build t parts => jw T t (parts.toList.map fun p => (p.1, opd st p.2))
 | .buildSlice t len parts => if T.dat t then c7 T t len (parts.toList.map fun p => (p.1, opd st p.2)) else bn T t len (parts.toList.map fun p => (p.1, opd st p.2))
 | .load t x => bu T st t (opd st x)
 | .store t x y => bB T st t (opd st x) (opd st y)
 | .nilCheck x => if BH (opd st x) then .set (opd st x) else .stuck
 | .binOp op t x y _ => aK T op t (opd st x) (opd st y)
 | .unOp op _ x => mT op (opd st x)
 | .convert src dst x => iS T src dst (opd st x)
 | .makeSlice t l c => aZ T t (opd st l) (opd st c)
 | .slice t x lo hi none => e8 T st t (opd st x) lo hi
 | .fieldAddr s x f => dD T s (opd st x) f
 | .field s x f => jv T s (opd st x) f
 | .indexAddr t x i => a6 T t (opd st x) (opd st i)
 | .index t x i => eh T t (opd st x) (opd st i)
 | .makeFunc (.func f) first captured => if first.isEmpty then dr f (captured.toList.map (opd st)) else .stuck
 | .extract x i => gx (opd st x) i
 | .call c => aW T st c.callee (c.args.toList.map (opd st)) c.argTypes.toList
 | _ => .stuck

end Go.Proofs.YtnoildlijhapaaaGreatDoor

/- Operations that only yield a value: what they yield in the model is what the abstract state says. No condition. -/
namespace Go.Proofs.YtnoildlijhapaaaGreatDoor

section
variable {P : Program} {T : Tab} {w : World} {X : Nat -> Prop} {μ : Nat -> Nat}

theorem s6 {v : Value} (h : v.oneCell' = true) : RelC w X μ v (po v) := by
 unfold po
 split
 ·rfl
 ·exact RdC.lit rfl
 ·exact RdC.lit rfl
 ·exact RdC.lit rfl
 ·exact h

theorem wm (v : Value) : RelV w X μ v (q8 v) := by
 unfold q8
 split
 ·rfl
 ·exact RdC.lit rfl
 ·exact RdC.lit rfl
 ·exact RdC.lit rfl
 ·rename_i cs
  split
  ·rename_i hall
   refine ⟨cs.toList, by simp, by simp, fun i c hc => ?_⟩;rw [List.getElem?_map] at hc
   cases hv : cs.toList[i]? with
   | none => rw [hv] at hc; cases hc
   | some v =>
    rw [hv] at hc; simp at hc; subst hc;exact ⟨v, rfl, s6 (List.all_eq_true.1 hall v (List.mem_of_getElem? hv))⟩
  ·trivial
 ·trivial

theorem gK {w0 : Base} {a : Act} {st : St} (hs : Sim w0 X μ a w st) (x : Operand) : RelV w (Mut X μ st.σ) μ (a.eval x) (opd st x) := by
 cases x with
 | tmp t => exact hs.slots t
 | const v => exact wm v
 | global g => trivial
 | func f => rfl

theorem jO {v : Value} {x : SV} {u : Value} (h : RelV w X μ v x) (hl : cv x = some u) : v = u := by
 unfold cv at hl
 split at hl
 ·cases hl; cases h; rfl
 ·cases hl

theorem ij {v : Value} {x : SV} {k : IntKind} {n : Int} (h : RelV w X μ v x) (hl : cr x = some (k, n)) : v = .int k n := by
 unfold cr at hl
 split at hl
 ·cases hl; cases h; rfl
 ·cases hl

theorem eM {v : Value} (h : yO v = true) : RelV w X μ v (.val (.one (.d (.lit v)))) := RdC.lit h

/-! #### Arithmetic -/
theorem zy {op : BinOp} {x y v : Value} (h : d5 op x y = some v) : yO v = true := by
 unfold d5 at h
 split at h <;> first
  | (cases h; done)
  | (cases h; rfl)
  | (split at h <;> first | (cases h; done) | (cases h; rfl) | (split at h <;> first | (cases h; done) | (cases h; rfl)))

theorem CI {op : BinOp} {x y v : Value} (h : d5 op x y = some v) (t : TypeId) (ox oy : Operand) :
  ((do eqGuard op t ox oy x y; binOp op t x y) : Sem Value).run P w = .ok v w := by
 unfold d5 at h
 split at h <;> first
  | (cases h; done)
  | (cases h; simp [eqGuard, binOp, Op.stringOp]; done)
  | (split at h <;> first
    | (cases h; done)
    | (rename_i hk; subst hk; split at h <;> first
      | (cases h; done)
      | (rename_i hb; cases h; simp [eqGuard, binOp, Op.intDiv, hb]))
    | (rename_i hk; subst hk; cases h; simp [eqGuard, binOp, Op.intArith, Op.intBits, Op.intCmp])
    | (rename_i hb; cases h; simp [eqGuard, binOp, Op.shift, hb]; done)
    | (rename_i hb; cases h; simp [eqGuard, binOp, Op.stringOp, IntKind.max, IntKind.signed, IntKind.bits]; omega))

theorem zT {op : UnOp} {x v : Value} (h : unA op x = some v) : yO v = true := by
 unfold unA at h
 split at h <;> first | (cases h; done) | (cases h; rfl)

theorem C1 {op : UnOp} {x v : Value} (h : unA op x = some v) : (Op.unary op x).run P w = .ok v w := by
 unfold unA at h
 split at h <;> first | (cases h; done) | (cases h; simp [Op.unary, Op.intArith, Op.intBits])

def Yv (P : Program) (w : World) (X : Nat -> Prop) (μ : Nat -> Nat) (s : Sem Value) (v : SV) : Prop := ∃ u, s.run P w = .ok u w /\ RelV w X μ u v

theorem qH (hT : TOK P T) {t : TypeId} (h : pn T t = true) (p q : Bool) : (Op.equal t (.bool p) (.bool q)).run P w = .ok (p == q) w := by
 unfold pn at h
 split at h
 ·rename_i ti hti
  split at h
  ·rename_i hu
   have := (hT.ty _ _ hti).run_bool w hu
   have e : Op.maxDepth = 9999 + 1 := rfl
   unfold Op.equal
   rw [e, Op.equalIn];simp only [Sem.run_bind, this, Result.andThen_ok]
   rfl
  ·cases h
 ·cases h

theorem r6 {vs : List Value} {cs : List SC} {a : List Int} (hr : RelL w X μ vs cs) (h : r7 cs = some a) : vs = a.map (Value.int .i64) := by
 induction cs generalizing vs a with
 | nil =>
  simp only [r7, Option.some.injEq] at h; subst h;exact List.length_eq_zero_iff.1 hr.1
 | cons c cs ih =>
  match vs, hr with
  | [], hr => have := hr.1; simp at this
  | v :: vs, hr =>
   have hr' : RelL w X μ vs cs := ⟨by simpa using hr.1, fun i c hc => by have := hr.2 (i + 1) c (by simpa using hc); simpa using this⟩
   obtain ⟨u, hu, hcu⟩ := hr.2 0 c rfl
   simp at hu; subst hu
   unfold r7 at h
   split at h
   ·cases ‹_ :: _ = []›
   ·rename_i n cs' heq
    cases heq
    split at h
    ·rename_i l hl
     cases h
     have e : v = .int .i64 n := by
      have hcu : RdC w X v (.lit (.int .i64 n)) := hcu
      cases hcu; rfl
     rw [ih hr' hl, e]; rfl
    ·cases h
   ·cases h
theorem vE (hT : TOK P T) {op : BinOp} {t : TypeId} {ox oy : Operand} {vx vy : Value} {x y v : SV} (hx : RelV w X μ vx x) (hy : RelV w X μ vy y) (h : yk T op t x y = .set v) :
  Yv P w X μ (do eqGuard op t ox oy vx vy; binOp op t vx vy) v := by
 unfold yk at h
 split at h
 ·rename_i n cs ds hn
  split at h
  ·rename_i a b ha hb
   split at h
   ·rename_i hl
    obtain ⟨us, rfl, hu⟩ := hx
    obtain ⟨vs, rfl, hv⟩ := hy
    have := hT.eqs _ _ hn w ox oy a b hl.1 hl.2
    rw [r6 hu ha, r6 hv hb]
    split at h
    ·cases h; exact ⟨_, this.1, eM rfl⟩
    ·cases h; exact ⟨_, this.2, eM rfl⟩
    ·cases h
   ·cases h
  ·cases h
 ·cases h

theorem tW (hT : TOK P T) {op : BinOp} {t : TypeId} {ox oy : Operand} {vx vy : Value} {x y v : SV} (hx : RelV w X μ vx x) (hy : RelV w X μ vy y) (h : aK T op t x y = .set v) :
  Yv P w X μ (do eqGuard op t ox oy vx vy; binOp op t vx vy) v := by
 unfold aK at h
 split at h
 ·rename_i a b ha hb
  have e1 := jO hx ha
  have e2 := jO hy hb
  subst e1; subst e2
  split at h
  ·rename_i u hu
   cases h
   exact ⟨u, CI hu t ox oy, eM (zy hu)⟩
  ·split at h
   ·split at h
    ·rename_i p q _ hb
     cases h
     refine ⟨_, ?_, eM rfl⟩
     have := qH (w := w) hT hb p q
     simp [eqGuard, binOp, this]
    ·cases h
   ·split at h
    ·rename_i p q _ hb
     cases h
     refine ⟨_, ?_, eM rfl⟩
     have := qH (w := w) hT hb p q
     simp [eqGuard, binOp, this]
    ·cases h
   ·cases h
 ·exact vE hT hx hy h

theorem vD {op : UnOp} {vx : Value} {x v : SV} (hx : RelV w X μ vx x) (h : mT op x = .set v) : Yv P w X μ (Op.unary op vx) v := by
 unfold mT at h
 split at h
 ·rename_i a ha
  have e1 := jO hx ha
  subst e1
  split at h
  ·rename_i u hu; cases h; exact ⟨u, C1 hu, eM (zT hu)⟩
  ·cases h
 ·cases h

theorem ru {vc va vb : Value} {c a b v : SV} (hc : RelV w X μ vc c) (ha : RelV w X μ va a) (hb : RelV w X μ vb b) (h : jV c a b = .set v) :
  Yv P w X μ (do pure (if <- asBool vc then va else vb)) v := by
 unfold jV at h
 split at h
 ·rename_i t ht
  have e1 := jO hc ht
  subst e1
  cases h
  refine ⟨if t then va else vb, by simp [asBool], ?_⟩
  cases t
  ·exact hb
  ·exact ha
 ·cases h

theorem rv (hT : TOK P T) {src dst : TypeId} {vx : Value} {x v : SV} (hx : RelV w X μ vx x) (h : iS T src dst x = .set v) : Yv P w X μ (convert src dst vx) v := by
 unfold iS at h
 split at h
 ·rename_i ts td k n hs hd hi
  have e1 := ij hx hi
  subst e1
  split at h
  ·rename_i k' hk
   cases h
   obtain ⟨us, hus, _, _⟩ := (hT.ty _ _ hs).run_und w
   have hud := (hT.ty _ _ hd).run_int w hk
   refine ⟨_, ?_, eM rfl⟩;simp only [convert, Sem.run_bind, hus, hud, Result.andThen_ok]
   cases us <;> rfl
  ·cases h
 ·cases h

theorem nL {vx : Value} {x v : SV} {i : Nat} (hx : RelV w X μ vx x) (h : gx x i = .set v) : Yv P w X μ (Instr.extract vx i) v := by
 unfold gx at h
 split at h
 ·rename_i xs
  split at h
  ·rename_i v' hv
   cases h
   obtain ⟨vs, rfl, _, h3⟩ := hx
   obtain ⟨u, hu, hr⟩ := h3 i v' hv
   exact ⟨u, by simp [Instr.extract, hu], hr⟩
  ·cases h
 ·cases h

theorem tV (hT : TOK P T) {t t' : TypeId} {tys : Array TypeId} {vx : Value} {x v : SV} (ht : tys[0]? = some t) (hx : RelV w X μ vx x) (h : nK T t x = .set v) :
  Yv P w X μ (Builtin.len_ tys t' #[vx]) v := by
 unfold nK at h
 split at h
 ·rename_i ti hti
  split at h
  ·rename_i e he
   split at h
   ·rename_i n hn
    cases h
    have hu := (hT.ty _ _ hti).run_slice w he
    have hv : ∃ a c, vx = .slice a n c := by
     unfold g7 at hn
     split at hn
     ·cases hn; obtain ⟨cap, cs, E, fr, rfl, _⟩ := hx; exact ⟨_, _, rfl⟩
     ·cases hn
      cases hx with
      | nil => exact ⟨_, _, rfl⟩
      | sl vs hh hxx hl => subst hl; exact ⟨_, _, rfl⟩
     ·cases hn; cases hx; exact ⟨_, _, rfl⟩
     ·cases hn
    obtain ⟨a, c, rfl⟩ := hv
    refine ⟨_, ?_, eM rfl⟩;simp only [Builtin.len_, ht, List.getElem?_toArray, List.getElem?_cons_zero, Sem.run_bind, hu, Result.andThen_ok]
    rfl
   ·cases h
  ·cases h
 ·cases h

theorem oz {m : Bool} {vx vy : Value} {x y v : SV} {tys : Array TypeId} {t : TypeId} (hx : RelV w X μ vx x) (hy : RelV w X μ vy y) (h : oB m x y = .set v) :
  Yv P w X μ (if m then Builtin.max_ tys t #[vx, vy] else Builtin.min_ tys t #[vx, vy]) v := by
 unfold oB at h
 split at h
 ·rename_i k a k' b ha hb
  have e1 := ij hx ha
  have e2 := ij hy hb
  subst e1; subst e2
  split at h
  ·rename_i hk; subst hk
   cases h
   refine ⟨_, ?_, eM rfl⟩
   cases m <;> rfl
  ·cases h
 ·cases h

/-! #### Memory -/
theorem kq {agg : Bool} {vs : List Value} {cs : List SC} {v : VV} (h : tI agg cs = some v) (hr : RelL w X μ vs cs) (one : agg = false -> cs.length = 1) :
  RelVV w X μ (mkV agg vs) v := by
 unfold tI at h
 cases agg with
 | true => cases h; exact ⟨vs, rfl, hr⟩
 | false =>
  have h1 := one rfl
  match cs, h1 with
  | [c], _ =>
   simp at h; subst h
   have hl := hr.1
   match vs, hl with
   | [u], _ =>
    obtain ⟨u', hu, hc⟩ := hr.2 0 c rfl
    simp at hu; subst hu
    exact hc

theorem iM {t : TypeId} {ti : TI} (ht : TF P t ti) {b off : Nat} {cs : Array Value} {E : TypeId} {fr : Nat × Nat} (hh : w.heap[b]? = some (.cells cs E fr)) (hle : off + ti.size <= cs.size) :
  (loadVar t ⟨b, off, none⟩).run P w = .ok (mkV ti.agg (cs.extract off (off + ti.size)).toList) w := by
 unfold loadVar
 simp only [Sem.run_bind, ht.run_isAgg, Result.andThen_ok]
 cases ha : ti.agg with
 | true =>
  simp only [if_true, Sem.run_bind, ht.run_sizeOf, Result.andThen_ok, iY hh off ti.size hle, Sem.run_pure, mkV, Array.toArray_toList]
 | false =>
  have h1 := ht.one ha
  rw [h1] at hle ⊢
  have hlt : off < cs.size := by omega
  simp [j1 hh, hlt, mkV]
  rw [List.drop_eq_getElem_cons (by simpa using hlt)]
  simp

theorem eO {cs : Array Value} {off n : Nat} {l : List SC} (hle : off + n <= cs.size) (hl : l.length = n)
  (h : ∀ (i : Nat) (c : SC), l[i]? = some c -> ∃ x, cs[off + i]? = some x /\ RelC w X μ x c) : RelL w X μ (cs.extract off (off + n)).toList l := by
 refine ⟨by simp; omega, fun i c hc => ?_⟩
 obtain ⟨x, hx, hr⟩ := h i c hc
 refine ⟨x, ?_, hr⟩
 have hi : i < n := by
  rcases Nat.lt_or_ge i n with h' | h'
  ·exact h'
  ·rw [List.getElem?_eq_none (by omega)] at hc; cases hc
 rw [Array.getElem?_toList, Array.getElem?_extract];rw [if_pos (by omega)];exact hx

theorem lh {w0 : Base} {a : Act} {st : St} (hT : TOK P T) (hs : Sim w0 X μ a w st) {t : TypeId} {vx : Value} {x v : SV}
  (hx : RelV w (Mut X μ st.σ) μ vx x) (h : bu T st t x = .set v) : Yv P w (Mut X μ st.σ) μ (Instr.loadAt t vx) v := by
 unfold bu at h
 split at h
 ·cases h
 ·rename_i ti hti
  have ht := hT.ty _ _ hti
  split at h
  ·rename_i id off
   have hx' : vx = .pointer (some ⟨μ id, off, none⟩) := hx
   subst hx'
   split at h
   ·rename_i cs hcs
    split at h
    ·rename_i hle
     split at h
     ·rename_i u hu
      cases h
      obtain ⟨_, cells, E, hh, hsz, hrel⟩ := hs.objs _ _ hcs
      refine ⟨_, ?_, kq hu (vs := (cells.extract off (off + ti.size)).toList) (eO (by omega) (by simp; omega) ?_) ?_⟩
      ·simp only [Instr.loadAt, Instr.sureAddr, Sem.run_bind, Sem.run_pure, Result.andThen_ok, iM ht hh (show off + ti.size <= cells.size by omega)]
      ·intro i c hc
       rw [List.getElem?_take] at hc
       split at hc
       ·rw [List.getElem?_drop] at hc; exact hrel _ _ hc
       ·cases hc
      ·intro ha; have := ht.one ha; simp; omega
     ·cases h
    ·cases h
   ·cases h
  ·rename_i id sz i j
   have hx' : vx = .pointer (some ⟨μ id, i * sz + j, none⟩) := hx
   subst hx'
   split at h
   ·rename_i sz' es hes
    split at h
    ·rename_i hsz; subst hsz
     split at h
     ·rename_i e he
      split at h
      ·rename_i hle
       split at h
       ·rename_i u hu
        cases h
        obtain ⟨_, cells, E, hh, hsz, hlen, hrel⟩ := hs.objs _ _ hes
        have hel := hlen _ _ he
        have hi : i < es.length := (List.getElem?_eq_some_iff.1 he).1
        have hmul : i * sz' + sz' <= es.length * sz' := by rw [<- Nat.succ_mul]; exact Nat.mul_le_mul_right _ hi
        refine ⟨_, ?_, kq hu (vs := (cells.extract (i * sz' + j) (i * sz' + j + ti.size)).toList) (eO (by omega) (by simp; omega) ?_) ?_⟩
        ·simp only [Instr.loadAt, Instr.sureAddr, Sem.run_bind, Sem.run_pure, Result.andThen_ok, iM ht hh (show i * sz' + j + ti.size <= cells.size by omega)]
        ·intro k c hc
         rw [List.getElem?_map] at hc
         cases hd : ((e.drop j).take ti.size)[k]? with
         | none => rw [hd] at hc; cases hc
         | some d =>
          rw [hd] at hc; simp at hc; subst hc;rw [List.getElem?_take] at hd
          split at hd
          ·rw [List.getElem?_drop] at hd
           obtain ⟨x, hx1, hx2⟩ := hrel i (j + k) d (by simp [at2, he, hd])
           exact ⟨x, by rw [<- hx1]; congr 1; omega, hx2⟩
          ·cases hd
        ·intro ha; have := ht.one ha; simp; omega
       ·cases h
      ·cases h
     ·cases h
    ·cases h
   ·rename_i cs hcs
    split at h
    ·rename_i hle
     split at h
     ·rename_i u hu
      cases h
      obtain ⟨_, cells, E, hh, hsz, hrel⟩ := hs.objs _ _ hcs
      refine ⟨_, ?_, kq hu (vs := (cells.extract (i * sz + j) (i * sz + j + ti.size)).toList) (eO (by omega) (by simp; omega) ?_) ?_⟩
      ·simp only [Instr.loadAt, Instr.sureAddr, Sem.run_bind, Sem.run_pure, Result.andThen_ok, iM ht hh (show i * sz + j + ti.size <= cells.size by omega)]
      ·intro i c hc
       rw [List.getElem?_take] at hc
       split at hc
       ·rw [List.getElem?_drop] at hc; exact hrel _ _ hc
       ·cases hc
      ·intro ha; have := ht.one ha; simp; omega
     ·cases h
    ·cases h
   ·cases h
  ·rename_i cs
   obtain ⟨b, off, cells, E, fr, hv, hh, _, hrel⟩ := hx
   subst hv
   split at h
   ·rename_i hle
    split at h
    ·rename_i u hu
     cases h
     have hsz : off + ti.size <= cells.size := by
      have : ti.size - 1 < cs.length := by omega
      obtain ⟨x, hx1, _⟩ := hrel (ti.size - 1) _ (List.getElem?_eq_getElem this)
      have := (Array.getElem?_eq_some_iff.1 hx1).1
      omega
     refine ⟨_, ?_, kq hu (vs := (cells.extract off (off + ti.size)).toList) (eO hsz (by simp; omega) ?_) ?_⟩
     ·simp only [Instr.loadAt, Instr.sureAddr, Sem.run_bind, Sem.run_pure, Result.andThen_ok, iM ht hh hsz]
     ·intro k c hc
      rw [List.getElem?_map] at hc
      cases hd : (cs.take ti.size)[k]? with
      | none => rw [hd] at hc; cases hc
      | some d =>
       rw [hd] at hc; simp at hc; subst hc;rw [List.getElem?_take] at hd
       split at hd
       ·exact hrel _ _ hd
       ·cases hd
     ·intro ha; have := ht.one ha; simp; omega
    ·cases h
   ·cases h
  ·cases h

theorem lX (hT : TOK P T) {s : TypeId} {vx : Value} {x v : SV} {f : Nat} (hx : RelV w X μ vx x) (h : dD T s x f = .set v) :
  Yv P w X μ (Instr.fieldAt s vx f) v := by
 unfold dD at h
 split at h
 ·rename_i si hsi
  split at h
  ·rename_i fs hfs
   split at h
   ·rename_i off t hf
    split at h
    ·rename_i ti hti
     split at h
     ·cases h
     ·rename_i hne
      obtain ⟨fields, hu, hfl⟩ := (hT.ty _ _ hsi).run_struct w hfs
      rw [<- hfl, List.getElem?_map] at hf
      cases hfi : fields.toList[f]? with
      | none => rw [hfi] at hf; cases hf
      | some fd =>
       rw [hfi] at hf;simp only [Option.map_some, Option.some.injEq, Prod.mk.injEq] at hf;rw [Array.getElem?_toList] at hfi
       have hsize := (hT.ty _ _ hti).run_sizeOf w
       have go : ∀ b o, (Instr.fieldAt s (.pointer (some ⟨b, o, none⟩)) f).run P w = .ok (.pointer (some ⟨b, o + off, none⟩)) w := by
        intro b o
        simp only [Instr.fieldAt, Sem.run_bind, hu, Result.andThen_ok, hfi, Instr.sureAddr, Sem.run_pure, fieldPlace, hf.1, hf.2, hsize, if_neg hne, gU]
       split at h
       ·cases h; cases hx; exact ⟨_, go _ _, rfl⟩
       ·cases h; cases hx; exact ⟨_, go _ _, by show _ = _; rw [Nat.add_assoc]⟩
       ·rename_i cs
        cases h
        obtain ⟨b, o, cells, E, fr, rfl, hh, hX, hrel⟩ := hx
        refine ⟨_, go _ _, b, o + off, cells, E, fr, rfl, hh, hX, fun j d hd => ?_⟩;rw [List.getElem?_drop] at hd
        obtain ⟨x, h1, h2⟩ := hrel _ _ hd
        exact ⟨x, by rw [<- h1]; congr 1; omega, h2⟩
       ·cases h
    ·cases h
   ·cases h
  ·cases h
 ·cases h

theorem Aq {t : TypeId} {ti : TI} (ht : TF P t ti) (cs : Array Value) {off : Nat} (hle : off + ti.size <= cs.size) :
  (part t cs off).run P w = .ok (mkV ti.agg (cs.extract off (off + ti.size)).toList) w := by
 unfold part
 simp only [Sem.run_bind, ht.run_isAgg, Result.andThen_ok]
 cases ha : ti.agg with
 | true => simp only [if_true, Sem.run_bind, ht.run_sizeOf, Result.andThen_ok, Sem.run_pure, mkV, Array.toArray_toList]
 | false =>
  have h1 := ht.one ha
  rw [h1] at hle ⊢
  have hlt : off < cs.size := by omega
  simp [hlt, mkV]
  rw [List.drop_eq_getElem_cons (by simpa using hlt)]
  simp

theorem qN (hT : TOK P T) {s : TypeId} {vx : Value} {x v : SV} {f : Nat} (hx : RelV w X μ vx x) (h : jv T s x f = .set v) :
  Yv P w X μ (Instr.field s vx f) v := by
 unfold jv at h
 split at h
 ·rename_i si cs hsi
  split at h
  ·rename_i fs hfs
   split at h
   ·rename_i off t hf
    split at h
    ·rename_i ti hti
     split at h
     ·rename_i hle
      split at h
      ·rename_i u hu
       cases h
       obtain ⟨fields, hun, hfl⟩ := (hT.ty _ _ hsi).run_struct w hfs
       rw [<- hfl, List.getElem?_map] at hf
       cases hfi : fields.toList[f]? with
       | none => rw [hfi] at hf; cases hf
       | some fd =>
        rw [hfi] at hf;simp only [Option.map_some, Option.some.injEq, Prod.mk.injEq] at hf;rw [Array.getElem?_toList] at hfi
        obtain ⟨vs, rfl, hl, hrel⟩ := hx
        have ht := hT.ty _ _ hti
        refine ⟨_, ?_, kq hu (vs := (vs.toArray.extract off (off + ti.size)).toList) (eO (by simp; omega) (by simp; omega) ?_) ?_⟩
        ·simp only [Instr.field, Sem.run_bind, hun, Result.andThen_ok, hfi, asAgg, Sem.run_pure, hf.1, hf.2];exact Aq ht _ (by simp; omega)
        ·intro i c hc
         rw [List.getElem?_take] at hc
         split at hc
         ·rw [List.getElem?_drop] at hc
          obtain ⟨x, h1, h2⟩ := hrel _ _ hc
          exact ⟨x, by simpa using h1, h2⟩
         ·cases hc
        ·intro ha; have := ht.one ha; simp; omega
      ·cases h
     ·cases h
    ·cases h
   ·cases h
  ·cases h
 ·cases h

theorem qM (hT : TOK P T) {t : TypeId} {vx vi : Value} {x i v : SV} (hx : RelV w X μ vx x) (hi : RelV w X μ vi i) (h : eh T t x i = .set v) :
  Yv P w X μ (Instr.index t vx vi) v := by
 unfold eh at h
 split at h
 ·rename_i ti s k n hti hs hn
  have e1 := ij hi hn
  have e2 := jO hx hs
  subst e1 e2
  have ht := hT.ty _ _ hti
  split at h
  ·rename_i hu
   split at h
   ·rename_i h0
    split at h
    ·rename_i b hb
     cases h
     refine ⟨.int .u8 b.toNat, ?_, .lit rfl⟩;simp only [Instr.index, asIntOf, Sem.run_bind, Sem.run_pure, Result.andThen_ok, ht.run_string w hu, if_pos h0, hb]
    ·cases h
   ·cases h
  ·cases h
 ·cases h
theorem mU {f : FuncId} {vs : List Value} {xs : List SV} {v : SV} (hl : vs.length = xs.length) (hx : ∀ (i : Nat) (x : SV), xs[i]? = some x -> ∃ u, vs[i]? = some u /\ RelV w X μ u x) (h : dr f xs = .set v) :
  Yv P w X μ (Instr.makeFunc (.func f) #[] vs.toArray) v := by
 unfold dr at h
 split at h
 ·rename_i id
  cases h
  obtain ⟨u, h1, h2⟩ := hx 0 _ rfl
  match vs, hl with
  | [u'], _ =>
   simp at h1; subst h1
   exact ⟨_, rfl, by show _ = _; rw [show u' = _ from h2]⟩
 ·cases h
theorem lW (hT : TOK P T) {t : TypeId} {vx vi : Value} {x i v : SV} (hx : RelV w X μ vx x) (hi : RelV w X μ vi i) (h : a6 T t x i = .set v) :
  Yv P w X μ (Instr.indexAt t vx vi) v := by
 unfold a6 at h
 split at h
 ·rename_i ti k n hti hn
  have e1 := ij hi hn
  subst e1
  split at h
  ·rename_i e he
   split at h
   ·rename_i ei hei
    split at h
    ·rename_i h0
     have hu := (hT.ty _ _ hti).run_slice w he
     have hsz := (hT.ty _ _ hei).run_sizeOf w
     have go : ∀ b o len cap, n < (len : Nat) -> (Instr.indexAt t (.slice (some ⟨b, o, none⟩) len cap) (.int k n)).run P w = .ok (.pointer (some ⟨b, o + n.toNat * ei.size, none⟩)) w := by
      intro b o len cap hlt
      simp only [Instr.indexAt, asIntOf, Sem.run_bind, Sem.run_pure, Result.andThen_ok, hu, if_pos (And.intro h0 hlt), hsz, gU]
     split at h
     ·rename_i id sz off len
      split at h
      ·rename_i hc
       cases h
       obtain ⟨cap, cs, E, fr, rfl, hle, hh, hcap⟩ := hx
       refine ⟨_, go _ _ _ _ hc.2, ?_⟩
       show _ = _
       rw [hc.1, Nat.add_mul]
       rfl
      ·cases h
     ·rename_i es
      split at h
      ·rename_i el hel
       split at h
       ·rename_i hsz'
        cases h
        cases hx with
        | nil => simp at hel
        | sl vs hh hX hl hcap hs hv hr =>
         rename_i b off len cap sz cs E fr
         have hlt := (List.getElem?_eq_some_iff.1 hel).1
         have hs' := hs _ _ hel
         refine ⟨_, go _ _ _ _ (by omega), b, off + n.toNat * ei.size, cs, E, fr, rfl, hh, hX, fun j d hd => ?_⟩
         have hat : at2 es n.toNat j = some d := by simp [at2, hel, hd]
         refine ⟨vs n.toNat j, ?_, hr _ _ _ hat⟩;rw [<- hv _ _ _ hat, <- hs', hsz']
       ·cases h
      ·cases h
     ·cases h
    ·cases h
   ·cases h
  ·rename_i m e he
   split at h
   ·rename_i ei hei
    split at h
    ·rename_i h0
     have hu := (hT.ty _ _ hti).run_array w he
     have hsz := (hT.ty _ _ hei).run_sizeOf w
     split at h
     ·rename_i id o
      cases h
      cases hx
      refine ⟨.pointer (some ⟨μ id, o + n.toNat * ei.size, none⟩), ?_, rfl⟩;simp only [Instr.indexAt, asIntOf, Instr.sureAddr, Sem.run_bind, Sem.run_pure, Result.andThen_ok, hu, if_pos h0, hsz, gU]
     ·cases h
    ·cases h
   ·cases h
  ·cases h
 ·cases h

end
end Go.Proofs.YtnoildlijhapaaaGreatDoor

/- Operations that build values, slices and new objects. No condition. -/
namespace Go.Proofs.YtnoildlijhapaaaGreatDoor

section
variable {P : Program} {T : Tab} {w : World} {X : Nat -> Prop} {μ : Nat -> Nat}

theorem gH {α : Type} : ∀ (vs l : List α) (k : Nat), (kc l k vs).length = l.length
 | [], _, _ => rfl
 | v :: vs, l, k => by rw [kc, gH vs]; simp

theorem ir {α : Type} : ∀ (vs l : List α) (k m : Nat), k + vs.length <= l.length ->
  (kc l k vs)[m]? = if k <= m /\ m < k + vs.length then vs[m - k]? else l[m]?
 | [], l, k, m, _ => by rw [kc, if_neg (by simp)]
 | v :: vs, l, k, m, h => by
  simp only [List.length_cons] at h;rw [kc, ir vs _ _ _ (by simp; omega)];simp only [List.length_cons]
  by_cases hm : m = k
  ·subst hm
   rw [if_neg (by omega), if_pos (by omega)]
   have hlt : m < l.length := by omega
   simp [hlt]
  ·by_cases h1 : k + 1 <= m /\ m < k + 1 + vs.length
   ·rw [if_pos h1, if_pos (by omega)]
    have : m - k = (m - (k + 1)) + 1 := by omega
    rw [this, List.getElem?_cons_succ]
   ·rw [if_neg h1, if_neg (by omega)];rw [List.getElem?_set_ne (Ne.symm hm)]

theorem gM {v : Value} {x : VV} (h : RelVV w X μ v x) : RelL w X μ v.cells.toList (cellsOf x) := by
 cases x with
 | one c =>
  have h1 := RelC.oneCell h
  have : v.cells = #[v] := by cases v <;> first | rfl | (simp [Value.oneCell'] at h1)
  rw [this];refine ⟨rfl, fun i c' hc => ?_⟩
  match i with
  | 0 => simp [cellsOf] at hc; subst hc; exact ⟨v, rfl, h⟩
  | i + 1 => simp [cellsOf] at hc
 | agg cs =>
  obtain ⟨vs, rfl, hr⟩ := h
  simpa [Value.cells, cellsOf] using hr

theorem uI {vs : List Value} {cs : List SC} (h : RelL w X μ vs cs) : ∀ v ∈ vs, v.oneCell' = true := by
 intro v hv
 obtain ⟨i, hi⟩ := List.mem_iff_getElem?.1 hv
 have hlt := (List.getElem?_eq_some_iff.1 hi).1
 have hlt' : i < cs.length := by rw [<- h.1]; exact hlt
 obtain ⟨u, hu, hr⟩ := h.2 i cs[i] (List.getElem?_eq_getElem hlt')
 rw [hi] at hu; cases hu;exact hr.oneCell

theorem sc (off : Nat) : ∀ (vs : List Value) (k : Nat) (cs : Array Value),
  (vs.zipIdx k).foldl (fun cs (x : Value × Nat) => cs.setIfInBounds (off + x.2) x.1) cs = spl cs (off + k) vs
 | [], _, _ => rfl
 | v :: vs, k, cs => by
  simp only [List.zipIdx_cons, List.foldl_cons];rw [sc off vs (k + 1)]
  rfl

theorem mO (cs : Array Value) (vs : Array Value) (off : Nat) :
  vs.zipIdx.foldl (fun cs (x : Value × Nat) => cs.setIfInBounds (off + x.2) x.1) cs = spl cs off vs.toList := by
 rw [<- Array.foldl_toList, Array.toList_zipIdx];exact sc off vs.toList 0 cs

theorem AJ {cs : Array Value} {l : List SC} {vs : List Value} {ls : List SC} {k : Nat} (h : RelL w X μ cs.toList l) (hv : RelL w X μ vs ls) (hk : k + ls.length <= l.length) :
  RelL w X μ (spl cs k vs).toList (kc l k ls) := by
 have hl := h.1
 rw [Array.length_toList] at hl;refine ⟨by rw [Array.length_toList, df, gH, hl], fun i c hc => ?_⟩;rw [ir _ _ _ _ hk] at hc;rw [Array.getElem?_toList, jC _ _ _ _ (by rw [hv.1]; omega), hv.1]
 split at hc
 ·rename_i hi
  rw [if_pos hi];exact hv.2 _ _ hc
 ·rename_i hi
  rw [if_neg hi]
  obtain ⟨v, h1, h2⟩ := h.2 _ _ hc
  exact ⟨v, by simpa using h1, h2⟩

theorem kF {ti : TI} {t : TypeId} (ht : TF P t ti) : RelL w X μ (ti.zero.map io) ti.zero := by
 refine ⟨by simp, fun i c hc => ⟨io c, by rw [List.getElem?_map, hc]; rfl, ?_⟩⟩
 have := List.all_eq_true.1 ht.zok c (List.mem_of_getElem? hc)
 cases c with
 | d c => cases c with
  | lit v => exact RdC.lit this
  | sl es => simp at this
 | nil => rfl
 | own => simp at this
 | bad => simp at this

theorem jn {ti : TI} {t : TypeId} (ht : TF P t ti) : (mkV ti.agg (ti.zero.map io)).cells.toList = ti.zero.map io := by
 unfold mkV
 cases ha : ti.agg with
 | true => simp [Value.cells]
 | false =>
  have h1 := ht.one ha
  have h2 := ht.zsz
  match hz : ti.zero, h2 with
  | [c], _ =>
   have hr := (kF (w := default) (X := fun _ => False) (μ := id) ht)
   have := uI hr (io c) (by rw [hz]; simp)
   simp
   cases hv : io c <;> first | rfl | (rw [hv] at this; simp [Value.oneCell'] at this)
  | [], h => rw [h1] at h; simp at h
  | _ :: _ :: _, h => rw [h1] at h; simp at h

/-! #### Structs -/
theorem qF (hT : TOK P T) {fields : Array Field} {fs : List (Nat × TypeId)} (hfl : fields.toList.map (fun f => (f.offset, f.type)) = fs)
  {places : Array (Nat × Nat)} (hp : ∀ (i off : Nat) (t : TypeId) (ti : TI), fs[i]? = some (off, t) -> T t = some ti -> places[i]? = some (off, ti.size)) :
  ∀ (parts : List (Nat × SV)) (ps : List (Nat × Value)) (cs : Array Value) (l l' : List SC), ps.length = parts.length ->
   (∀ (k : Nat) (p : Nat × SV), parts[k]? = some p -> ∃ u, ps[k]? = some (p.1, u) /\ RelV w X μ u p.2) -> RelL w X μ cs.toList l -> sf T fs l parts = some l' ->
   ∃ cs', Instr.fill (places[·]?) cs ps = some cs' /\ RelL w X μ cs'.toList l'
 | [], ps, cs, l, l', hlen, _, hr, h => by
  have : ps = [] := by simpa using hlen
  subst this
  simp [sf] at h; subst h
  exact ⟨cs, rfl, hr⟩
 | (i, x) :: parts, ps, cs, l, l', hlen, hps, hr, h => by
  match ps, hlen with
  | p :: ps, hlen =>
   obtain ⟨u, hu, hru⟩ := hps 0 _ rfl
   simp at hu; subst hu
   cases x with
   | val v =>
    simp only [sf] at h
    split at h
    ·rename_i off t hf
     split at h
     ·rename_i ti hti
      split at h
      ·rename_i hc
       have hcells := gM hru
       have hpl := hp _ _ _ _ hf hti
       have hsz : u.cells.size = ti.size := by have := hcells.1; rw [Array.length_toList] at this; omega
       have hcs := hr.1
       rw [Array.length_toList] at hcs;simp only [Instr.fill, hpl];rw [if_neg (by simp [hsz]; omega), mO]
       exact qF hT hfl hp parts ps _ _ _ (by simpa using hlen) (fun k p hk => by
        have := hps (k + 1) p (by simpa using hk); simpa using this) (AJ hr hcells (by omega)) h
      ·cases h
     ·cases h
    ·cases h
   | _ => simp [sf] at h

theorem pV (hT : TOK P T) : ∀ (fields : List Field), (∀ f ∈ fields, (T f.type).isSome) ->
  ∃ ps : List (Nat × Nat), (fields.mapM (fun f => do pure (f.offset, <- sizeOf f.type)) : Sem (List (Nat × Nat))).run P w = .ok ps w /\
   ∀ (i off : Nat) (t : TypeId) (ti : TI), (fields.map (fun f => (f.offset, f.type)))[i]? = some (off, t) -> T t = some ti -> ps[i]? = some (off, ti.size)
 | [], _ => ⟨[], rfl, fun i off t ti h => by simp at h⟩
 | f :: fields, h => by
  obtain ⟨ps, hps, hget⟩ := pV hT fields (fun g hg => h g (by simp [hg]))
  obtain ⟨ti, hti⟩ := Option.isSome_iff_exists.1 (h f (by simp))
  have hs := (hT.ty _ _ hti).run_sizeOf w
  refine ⟨(f.offset, ti.size) :: ps, ?_, ?_⟩
  ·simp only [List.mapM_cons, Sem.run_bind, hs, Result.andThen_ok, Sem.run_pure, hps]
  ·intro i off t ti' hi ht'
   match i with
   | 0 =>
    simp at hi
    obtain ⟨rfl, rfl⟩ := hi
    rw [hti] at ht'; cases ht'
    rfl
   | i + 1 => exact hget i off t ti' (by simpa using hi) ht'

theorem qO (hT : TOK P T) {t : TypeId} {parts : List (Nat × SV)} {ps : Array (Nat × Value)} {v : SV} (hlen : ps.toList.length = parts.length)
  (hps : ∀ (k : Nat) (p : Nat × SV), parts[k]? = some p -> ∃ u, ps.toList[k]? = some (p.1, u) /\ RelV w X μ u p.2) (h : jw T t parts = .set v) :
  Yv P w X μ (Instr.build t ps) v := by
 unfold jw at h
 split at h
 ·rename_i ti hti
  split at h
  ·rename_i fs hfs
   split at h
   ·rename_i hall
    split at h
    ·rename_i cs hcs
     cases h
     have ht := hT.ty _ _ hti
     obtain ⟨fields, hu, hfl⟩ := ht.run_struct w hfs
     have hall' : ∀ f ∈ fields.toList, (T f.type).isSome := by
      intro f hf
      have := List.all_eq_true.1 hall (f.offset, f.type) (by rw [<- hfl]; exact List.mem_map.2 ⟨f, hf, rfl⟩)
      exact this
     obtain ⟨pl, hpl, hget⟩ := pV (w := w) hT fields.toList hall'
     rw [hfl] at hget
     obtain ⟨cs', hfill, hrel⟩ := qF (w := w) (X := X) (μ := μ) hT hfl (places := pl.toArray) (fun i off t ti h1 h2 => by simpa using hget i off t ti h1 h2)
      parts ps.toList (mkV ti.agg (ti.zero.map io)).cells ti.zero cs hlen hps (by rw [jn ht]; exact kF ht) hcs
     refine ⟨.agg cs', ?_, cs'.toList, by simp, hrel⟩;simp only [Instr.build, Sem.run_bind, ht.run_zero, Result.andThen_ok, hu, Array.mapM_eq_mapM_toList, Sem.run_map, hpl, hfill, Sem.run_pure]
    ·cases h
   ·cases h
  ·cases h
 ·cases h

/-! #### Slices of slices -/
theorem dR {k : IntKind} {n : Int} {y : Nat} {c : BoundsCode} (h : 0 <= n /\ n <= y) : (Instr.sliceBound (.int k n) y c).run P w = .ok n.toNat w := by
 simp only [Instr.sliceBound, asIntOf, Sem.run_bind, Sem.run_pure, Result.andThen_ok, if_pos h]

theorem wL {vx : Value} {x : SV} {n : Nat} (hx : RelV w X μ vx x) (hn : g7 x = some n) : ∃ a c, vx = .slice a n c /\ n <= c := by
 unfold g7 at hn
 split at hn
 ·cases hn; obtain ⟨cap, cs, E, fr, rfl, hle, _⟩ := hx; exact ⟨_, _, rfl, hle⟩
 ·cases hn
  cases hx with
  | nil => exact ⟨_, _, rfl, Nat.zero_le _⟩
  | sl vs hh hxx hl hc => subst hl; exact ⟨_, _, rfl, hc⟩
 ·cases hn; cases hx; exact ⟨_, _, rfl, Nat.le_refl _⟩
 ·cases hn

theorem oM (hT : TOK P T) {t : TypeId} {vx : Value} {x v : SV} {l h : Int} {vlo vhi : Option Value} (hx : RelV w X μ vx x)
  (hlo : vlo = none /\ l = 0 \/ ∃ k, vlo = some (.int k l)) (hhi : (vhi = none /\ ∃ n : Nat, g7 x = some n /\ h = n) \/ ∃ k, vhi = some (.int k h))
  (he : dh T t x l h = .set v) : Yv P w X μ (Instr.sliceAt t vx vlo vhi none) v := by
 unfold dh at he
 split at he
 ·rename_i ti hti
  split at he
  ·rename_i hee
   split at he
   ·rename_i s hss
    split at he
    ·rename_i hb
     cases he
     have hxs : vx = .string s := by
      unfold xy at hss
      split at hss
      ·cases hss; cases hx; rfl
      ·cases hss
     subst hxs
     have hu := (hT.ty _ _ hti).run_string w hee
     rcases hhi with ⟨_, m, hm, _⟩ | ⟨k, rfl⟩
     ·exfalso
      unfold xy at hss
      split at hss
      ·cases hm
      ·cases hss
     ·have e1 := dR (P := P) (w := w) (k := k) (n := h) (y := s.size) (c := .sliceAlen) ⟨by omega, by omega⟩
      refine ⟨_, ?_, RdC.lit rfl⟩
      rcases hlo with ⟨rfl, rfl⟩ | ⟨k', rfl⟩
      ·simp [Instr.sliceAt, Instr.slice, Sem.run_bind, hu, Result.andThen_ok, Instr.sliceBounds, e1]
      ·have e2 := dR (P := P) (w := w) (k := k') (n := l) (y := h.toNat) (c := .sliceB) ⟨by omega, by omega⟩
       simp [Instr.sliceAt, Instr.slice, Sem.run_bind, hu, Result.andThen_ok, Instr.sliceBounds, e1, e2]
    ·cases he
   ·cases he
  ·rename_i e hee
   split at he
   ·rename_i ei hei
    split at he
    ·rename_i n hn
     split at he
     ·rename_i hb
      obtain ⟨a, c, rfl, hnc⟩ := wL hx hn
      have hu := (hT.ty _ _ hti).run_slice w hee
      have hsz := (hT.ty _ _ hei).run_sizeOf w
      have hbounds : (Instr.sliceBounds true n c vlo vhi none).run P w = .ok (l.toNat, h.toNat, c) w := by
       rcases hhi with ⟨rfl, m, hm, rfl⟩ | ⟨k, rfl⟩
       ·rw [hn] at hm; cases hm
        rcases hlo with ⟨rfl, rfl⟩ | ⟨k, rfl⟩
        ·simp [Instr.sliceBounds]
        ·simp [Instr.sliceBounds, dR (P := P) (w := w) (k := k) (n := l) (y := n) (c := .sliceB) ⟨hb.1, hb.2.1⟩]
       ·have e1 := dR (P := P) (w := w) (k := k) (n := h) (y := c) (c := .sliceAcap) ⟨by omega, by omega⟩
        rcases hlo with ⟨rfl, rfl⟩ | ⟨k', rfl⟩
        ·simp [Instr.sliceBounds, e1]
        ·simp [Instr.sliceBounds, e1, dR (P := P) (w := w) (k := k') (n := l) (y := h.toNat) (c := .sliceB) ⟨by omega, by omega⟩]
      have hrun : (Instr.sliceAt t (.slice a n c) vlo vhi none).run P w = .ok (.slice (if c = l.toNat then a else a.map (·.add (l.toNat * ei.size))) (h.toNat - l.toNat) (c - l.toNat)) w := by
       simp only [Instr.sliceAt, Instr.slice, Sem.run_bind, hu, Result.andThen_ok, hbounds, hsz, Sem.run_pure]
      split at he
      ·rename_i heq
       cases he
       refine ⟨_, hrun, ?_⟩
       have : h.toNat - l.toNat = 0 := by omega
       rw [this];exact RdC.nil
      ·rename_i hne
       have hcl : ¬ c = l.toNat := by omega
       rw [if_neg hcl] at hrun
       split at he
       ·rename_i id sz off len
        have hn' : len = n := by simpa [g7] using hn
        split at he
        ·rename_i hs
         cases he
         obtain ⟨cap, cs, E, fr, hv, hle, hh, hcap⟩ := hx
         cases hv
         refine ⟨_, hrun, c - l.toNat, cs, E, fr, ?_, by omega, hh, ?_⟩
         ·simp only [Option.map_some, gU]
          congr 1
          ·rw [<- hs, Nat.add_mul]
          ·omega
         ·have : off + l.toNat + (c - l.toNat) = off + c := by omega
          rw [this]; exact hcap
        ·cases he
       ·rename_i es
        split at he
        ·rename_i hall
         cases he
         have hn' : es.length = n := by simpa [g7] using hn
         cases hx with
         | nil => simp at hn'; omega
         | sl vs hh hX hl hcap hs hv hr =>
          rename_i b off sz cs E fr
          refine ⟨_, hrun, ?_⟩;simp only [Option.map_some, gU]
          have hat : ∀ i j d, at2 ((es.take h.toNat).drop l.toNat) i j = some d -> at2 es (l.toNat + i) j = some d := by
           intro i j d hd
           unfold at2 at hd ⊢
           rw [List.getElem?_drop, List.getElem?_take] at hd
           split at hd
           ·exact hd
           ·simp at hd
          have hszz : ∀ (i : Nat) (el : List DC), es[i]? = some el -> el.length = ei.size := fun i el hel => by
           have := List.all_eq_true.1 hall el (List.mem_of_getElem? hel); simpa using this
          refine RdC.sl (sz := ei.size) (fun i j => vs (l.toNat + i) j) hh hX ?_ (by omega) ?_ ?_ ?_
          ·simp; omega
          ·intro i el hel
           rw [List.getElem?_drop, List.getElem?_take] at hel
           split at hel
           ·exact hszz _ _ hel
           ·cases hel
          ·intro i j d hd
           have h1 := hat i j d hd
           rw [<- hv _ _ _ h1]
           have : sz = ei.size := by
            unfold at2 at h1
            cases hel : es[l.toNat + i]? with
            | none => rw [hel] at h1; cases h1
            | some el => rw [<- hs _ _ hel, hszz _ _ hel]
           rw [this, Nat.add_mul]
           congr 1; omega
          ·intro i j d hd; exact hr _ _ _ (hat i j d hd)
        ·cases he
       ·cases he
     ·cases he
    ·cases he
   ·cases he
  ·cases he
 ·cases he

end
end Go.Proofs.YtnoildlijhapaaaGreatDoor

/- The simulation goes on: values put into slots, new objects, stores, appends. No condition. -/
namespace Go.Proofs.YtnoildlijhapaaaGreatDoor
open Go.RowKit

def OO.noOwn : OO -> Bool
 | .box cs => cs.all SC.noOwn
 | .arr _ _ => true
def St.noRef (st : St) (d : Nat) : Bool :=
 (!Nat.beq d 999) && (st.ρ.all (SV.noRef d) && st.rb.all (fun id => match st.σ id with | some o => o.noRef d | none => true))
theorem qi {st : St} {d : Nat} (h : st.noRef d = true) : d ≠ 999 := by
 simp only [St.noRef, Bool.and_eq_true] at h
 intro e; subst e; exact absurd h.1 (by decide)
def St.new (st : St) (d : Nat) (o : OO) (v : SV) : St :=
 { ρ := st.ρ.set d v, σ := bc st.σ d o, rb := if o.noOwn then st.rb else d :: st.rb }
def St.app (st : St) (d : Nat) (id : Option Nat) (o : OO) (v : SV) : St :=
 { ρ := st.ρ.set d v, σ := bc (fun k => if some k = id then none else st.σ k) d o, rb := st.rb }

section
variable {P : Program} {T : Tab} {w w' : World} {w0 : Base} {X : Nat -> Prop} {μ : Nat -> Nat} {a : Act} {st : St}

theorem qq {α : Type} (l : List α) (d i : Nat) (v x : α) : (l.set d v).getD i x = if i = d /\ d < l.length then v else l.getD i x := by
 simp only [List.getD_eq_getElem?_getD, List.getElem?_set]
 by_cases h : d = i
 ·subst h
  by_cases h2 : d < l.length
  ·simp [h2]
  ·simp [h2]
 ·rw [if_neg h, if_neg (by intro h'; exact h h'.1.symm)]

theorem nf (l : Array Value) (d i : Nat) (v x : Value) : (l.setIfInBounds d v).getD i x = if i = d /\ d < l.size then v else l.getD i x := by
 simp only [Array.getD_eq_getD_getElem?, Array.getElem?_setIfInBounds]
 by_cases h : d = i
 ·subst h
  by_cases h2 : d < l.size
  ·simp [h2]
  ·simp [h2]
 ·rw [if_neg h, if_neg (by intro h'; exact h h'.1.symm)]

theorem Sim.put (hs : Sim w0 X μ a w st) {dst : Option Tmp} {u : Value} {v : SV} (hv : RelV w (Mut X μ st.σ) μ u v) : Sim w0 X μ (a.put dst u) w (st.put dst v) := by
 cases dst with
 | none => exact hs
 | some d =>
  refine ⟨hs.xlt, hs.dfr, hs.bel, by simp [Act.put, St.put, hs.len], fun i => ?_, hs.objs, hs.inj, hs.rbs⟩;simp only [Act.put, St.put, St.get, nf, qq, hs.len]
  split
  ·exact hv
  ·exact hs.slots i

theorem Sim.below (hs : Sim w0 X μ a w st) (h : Below w.heap.size w w') : Sim w0 X μ a w' st := by
 have hf : Fwd (Mut X μ st.σ) w w' := Fwd.of_below h
 refine ⟨hs.xlt, hs.dfr, hs.bel.trans h, hs.len, fun i => (hs.slots i).mono (fun _ _ h => h) hf, fun id o ho => ?_, hs.inj, hs.rbs⟩
 obtain ⟨h1, cs, E, hh, hr⟩ := hs.objs id o ho
 exact ⟨h1, cs, E, (h.block _ (bM hh)).trans hh, hr.mono (fun _ _ h => h) hf⟩

theorem BelZ.setRow {b : Nat} {cs cs' : Array Value} {E : TypeId} {fr : Nat × Nat} (h : BelZ w0 w) (hh : w.heap[b]? = some (.cells cs E fr)) (hsz : cs'.size = cs.size) (hb : w0.w.heap.size <= b \/ w0.z b) : BelZ w0 (setRow w b cs') := by
 refine ⟨h.os, h.tape, h.output, by rw [kk]; exact h.size, fun k hk hz => ?_, h.lw, h.lz, fun k c1 E1 fr1 hz hc => ?_⟩
 ·rw [cU _ _ _ (fun e => by subst e; rcases hb with hb | hb; exact absurd hb (by omega); exact hz hb)]; exact h.block k hk hz
 ·obtain ⟨c2, h1, h2⟩ := h.row k c1 E1 fr1 hz hc
  by_cases hk : k = b
  ·subst hk; rw [hh] at h1; cases h1; exact ⟨cs', dq hh _, hsz.trans h2⟩
  ·exact ⟨c2, by rw [cU _ _ _ hk]; exact h1, h2⟩

def upm (μ : Nat -> Nat) (d b : Nat) : Nat -> Nat := fun k => if k = d then b else μ k

theorem c9 {d b k : Nat} (h : k ≠ d) : upm μ d b k = μ k := by simp [upm, h]

theorem rW (hs : Sim w0 X μ a w st) {d : Nat} (hno : st.noRef d = true) {id : Nat} {o : OO} (ho : st.σ id = some o) : o.noRef d = true := by
 cases o with
 | arr => rfl
 | box cs =>
  by_cases hr : id ∈ st.rb
  ·simp only [St.noRef, Bool.and_eq_true] at hno
   have := List.all_eq_true.1 hno.2.2 id hr
   rw [ho] at this; exact this
  ·exact hs.rbs id cs ho hr d

theorem jF {d : Nat} (hno : st.noRef d = true) (i : Nat) : (st.get i).noRef d = true := by
 simp only [St.noRef, Bool.and_eq_true] at hno
 unfold St.get
 rw [List.getD_eq_getElem?_getD]
 cases h : st.ρ[i]? with
 | none => rfl
 | some v => exact List.all_eq_true.1 hno.2.1 v (List.mem_of_getElem? h)

theorem eH {cs : List SC} (h : cs.all SC.noOwn = true) (k : Nat) : cs.all (SC.noRef k) = true := by
 rw [List.all_eq_true] at h ⊢
 intro c hc
 have := h c hc
 cases c <;> simp_all [SC.noOwn, SC.noRef]

theorem Sim.new (hs : Sim w0 X μ a w st) {d b : Nat} (hno : st.noRef d = true) {cs : Array Value} {E : TypeId} {o : OO} {u : Value} {v : SV}
  (hf : Fwd (Mut X μ st.σ) w w') (hbel : BelZ w0 w') (hkeep : ∀ id o, st.σ id = some o -> w'.heap[μ id]? = w.heap[μ id]?) (hb : w.heap.size <= b) (hh : w'.heap[b]? = some (.cells cs E (0, 0)))
  (ho : RelO w' (Mut X (upm μ d b) (bc st.σ d o)) (upm μ d b) cs o) (hv : RelV w' (Mut X (upm μ d b) (bc st.σ d o)) (upm μ d b) u v) :
  Sim w0 X (upm μ d b) (a.put (some d) u) w' (st.new d o v) := by
 have hX : ∀ k, k < w.heap.size -> Mut X (upm μ d b) (bc st.σ d o) k -> Mut X μ st.σ k := by
  intro k hk hm
  rcases hm with hm | ⟨id, o', h1, h2⟩
  ·exact Or.inl hm
  ·by_cases hid : id = d
   ·subst hid; simp [upm] at h2; omega
   ·simp only [bc, if_neg hid] at h1;rw [c9 hid] at h2;exact Or.inr ⟨id, o', h1, h2⟩
 refine ⟨hs.xlt, hs.dfr, hbel, by simp [Act.put, St.new, hs.len], fun i => ?_, fun id o' h' => ?_, fun i j oi oj hi hj hij => ?_, fun id cs' h' hid k => ?_⟩
 ·simp only [Act.put, St.new, St.get, nf, qq, hs.len]
  split
  ·exact hv
  ·exact ((hs.slots i).mono hX hf).ren (jF hno i) (fun k hk => c9 hk)
 ·simp only [St.new] at h' ⊢
  by_cases hid : id = d
  ·subst hid
   simp only [bc, if_true] at h'; cases h';refine ⟨?_, cs, E, ?_, ho⟩
   ·refine ⟨Or.inl ?_, fun e => absurd e (qi hno)⟩; simp [upm]; have := hs.bel.size; omega
   ·simpa [upm] using hh
  ·simp only [bc, if_neg hid] at h'
   obtain ⟨h1, cs', E', hh', hr⟩ := hs.objs id o' h'
   rw [c9 hid];refine ⟨h1, cs', E', (hkeep _ _ h').trans hh', (hr.mono hX hf).ren (rW hs hno h') (fun k hk => c9 hk)⟩
 ·simp only [St.new, bc] at hi hj
  by_cases hid : i = d
  ·by_cases hjd : j = d
   ·rw [hid, hjd]
   ·rw [if_neg hjd] at hj
    obtain ⟨_, _, _, hh', _⟩ := hs.objs j oj hj
    have := bM hh'
    rw [c9 hjd] at hij
    subst hid
    simp [upm] at hij; omega
  ·rw [if_neg hid] at hi
   by_cases hjd : j = d
   ·obtain ⟨_, _, _, hh', _⟩ := hs.objs i oi hi
    have := bM hh'
    rw [c9 hid] at hij
    subst hjd
    simp [upm] at hij; omega
   ·rw [if_neg hjd] at hj;rw [c9 hid, c9 hjd] at hij;exact hs.inj i j oi oj hi hj hij
 ·simp only [St.new] at h' hid
  by_cases hidd : id = d
  ·subst hidd
   simp only [bc, if_true] at h'; cases h'
   by_cases hno' : (OO.box cs').noOwn = true
   ·exact eH hno' k
   ·rw [if_neg hno'] at hid; simp at hid
  ·simp only [bc, if_neg hidd] at h';refine hs.rbs id cs' h' (fun hm => hid ?_) k
   split
   ·exact hm
   ·exact List.mem_cons_of_mem _ hm

theorem Sim.alloc (hs : Sim w0 X μ a w st) {d : Nat} (hno : st.noRef d = true) {cs : Array Value} {E : TypeId} {o : OO} {u : Value} {v : SV}
  (ho : RelO w (Mut X μ st.σ) μ cs o) (hor : o.noRef d = true)
  (hv : RelV (w.alloc (.cells cs E)) (Mut X (upm μ d w.heap.size) (bc st.σ d o)) (upm μ d w.heap.size) u v) :
  Sim w0 X (upm μ d w.heap.size) (a.put (some d) u) (w.alloc (.cells cs E)) (st.new d o v) := by
 have hf := sG (Mut X μ st.σ) w (.cells cs E)
 refine hs.new hno hf (hs.bel.trans ((Below.refl _ _).alloc (Nat.le_refl _) _)) (fun id o' h' => ?_) (Nat.le_refl _) (gz w _) ?_ hv
 ·obtain ⟨_, _, _, hh, _⟩ := hs.objs id o' h'
  exact Below.heap_alloc _ _ _ (bM hh)
 ·refine (ho.mono ?_ hf).ren hor (fun k hk => c9 hk)
  intro k hk hm
  rcases hm with hm | ⟨id, o', h1, h2⟩
  ·exact Or.inl hm
  ·by_cases hid : id = d
   ·subst hid; simp [upm] at h2; omega
   ·simp only [bc, if_neg hid] at h1;rw [c9 hid] at h2;exact Or.inr ⟨id, o', h1, h2⟩

theorem Sim.upd (hs : Sim w0 X μ a w st) {id : Nat} {o o' : OO} (hid : st.σ id = some o) {cs cs' : Array Value} {E : TypeId} (hh : w.heap[μ id]? = some (.cells cs E (0, 0)))
  (hsz : cs'.size = cs.size) (ho : RelO w (Mut X μ st.σ) μ cs' o') {rb' : List Nat} (hrb : ∀ k ∈ st.rb, k ∈ rb') (hrb' : ∀ l, o' = .box l -> id ∉ rb' -> ∀ k, l.all (SC.noRef k) = true) :
  Sim w0 X μ a (setRow w (μ id) cs') ⟨st.ρ, bc st.σ id o', rb'⟩ := by
 have hMi : Mut X μ st.σ (μ id) := Or.inr ⟨id, o, hid, rfl⟩
 have hM : ∀ k, Mut X μ (bc st.σ id o') k -> Mut X μ st.σ k := by
  intro k hm
  rcases hm with hm | ⟨j, oj, h1, h2⟩
  ·exact Or.inl hm
  ·by_cases hj : j = id
   ·subst hj; exact Or.inr ⟨j, o, hid, h2⟩
   ·simp only [bc, if_neg hj] at h1; exact Or.inr ⟨j, oj, h1, h2⟩
 have hf := jG (X := Mut X μ st.σ) hh hsz hMi
 have hid' := hs.objs id o hid
 refine ⟨hs.xlt, hs.dfr, hs.bel.setRow hh hsz hid'.1.1, hs.len, fun i => (hs.slots i).mono (fun k _ h => hM k h) hf, fun j oj hj => ?_, fun i j oi oj hi hj hij => ?_, fun j l hj hnr k => ?_⟩
 ·by_cases hjid : j = id
  ·subst hjid
   simp only [bc, if_true] at hj; cases hj;exact ⟨hid'.1, cs', E, dq hh _, ho.mono (fun k _ h => hM k h) hf⟩
  ·simp only [bc, if_neg hjid] at hj
   obtain ⟨h1, csj, Ej, hhj, hr⟩ := hs.objs j oj hj
   have hne : μ j ≠ μ id := fun e => hjid (hs.inj j id oj o hj hid e)
   exact ⟨h1, csj, Ej, by rw [cU _ _ _ hne]; exact hhj, hr.mono (fun k _ h => hM k h) hf⟩
 ·have fi : ∃ o1, st.σ i = some o1 := by
   by_cases h : i = id
   ·exact ⟨o, h ▸ hid⟩
   ·simp only [bc, if_neg h] at hi; exact ⟨_, hi⟩
  have fj : ∃ o1, st.σ j = some o1 := by
   by_cases h : j = id
   ·exact ⟨o, h ▸ hid⟩
   ·simp only [bc, if_neg h] at hj; exact ⟨_, hj⟩
  obtain ⟨o1, h1⟩ := fi
  obtain ⟨o2, h2⟩ := fj
  exact hs.inj i j o1 o2 h1 h2 hij
 ·by_cases hjid : j = id
  ·subst hjid
   simp only [bc, if_true] at hj;exact hrb' l (by simpa using hj) hnr k
  ·simp only [bc, if_neg hjid] at hj;exact hs.rbs j l hj (fun hm => hnr (hrb _ hm)) k

theorem kX : ∀ {cs : List SC} {ds : List DC}, hO cs = some ds -> ∀ {vs : List Value}, RelL w X μ vs cs ->
  ds.length = cs.length /\ ∀ (i : Nat) (d : DC), ds[i]? = some d -> ∃ v, vs[i]? = some v /\ RdC w X v d
 | [], ds, h, vs, _ => by simp [hO] at h; subst h; exact ⟨rfl, fun i d hd => by simp at hd⟩
 | c :: cs, ds, h, vs, hr => by
  simp only [hO] at h
  split at h
  ·rename_i d' ds' hc hds
   cases h
   match vs, hr with
   | v :: vs, hr =>
    have hr' : RelL w X μ vs cs := ⟨by simpa using hr.1, fun i c hc => by have := hr.2 (i + 1) c (by simpa using hc); simpa using this⟩
    obtain ⟨h1, h2⟩ := kX (vs := vs) hds hr'
    refine ⟨by simp [h1], fun i d hd => ?_⟩
    match i with
    | 0 =>
     simp at hd; subst hd
     obtain ⟨u, hu, hcu⟩ := hr.2 0 c rfl
     simp at hu; subst hu
     refine ⟨v, rfl, ?_⟩
     cases c with
     | d c => simp [SC.data?] at hc; subst hc; exact hcu
     | nil => simp [SC.data?] at hc; subst hc; cases hcu; exact .nil
     | own => simp [SC.data?] at hc
     | bad => simp [SC.data?] at hc
    | i + 1 => exact h2 i d (by simpa using hd)
   | [], hr => have := hr.1; simp at this
  ·cases h

theorem km {t : TypeId} {ti : TI} (ht : TF P t ti) {b off : Nat} {cs : Array Value} {E : TypeId} (hh : w.heap[b]? = some (.cells cs E (0, 0))) {v : Value} {x : VV}
  (hv : RelVV w X μ v x) (hsz : (cellsOf x).length = ti.size) (hle : off + ti.size <= cs.size) :
  (Instr.storeAt t (.pointer (some ⟨b, off, none⟩)) v).run P w = .ok () (setRow w b (spl cs off v.cells.toList)) := by
 have hc := gM hv
 have hcs : v.cells.size = ti.size := by have := hc.1; rw [Array.length_toList] at this; omega
 simp only [Instr.storeAt, Instr.sureAddr, Sem.run_bind, Sem.run_pure, Result.andThen_ok, storeVar, ht.run_sizeOf, ne_eq, hcs, not_true, if_false, Sem.run_ite]
 have := iA (P := P) v.cells.toList hh off 0 (by rw [Array.length_toList]; omega) (uI hc)
 simpa using this

theorem qK (hT : TOK P T) (hs : Sim w0 X μ a w st) {t : TypeId} {vx vy : Value} {x y : SV} {σ' : ca} {rb' : List Nat}
  (hx : RelV w (Mut X μ st.σ) μ vx x) (hy : RelV w (Mut X μ st.σ) μ vy y) (h : bB T st t x y = .upd σ' rb') :
  ∃ w', (Instr.storeAt t vx vy).run P w = .ok () w' /\ Sim w0 X μ a w' ⟨st.ρ, σ', rb'⟩ := by
 unfold bB at h
 split at h
 ·rename_i ti v hti
  have ht := hT.ty _ _ hti
  have hc := gM (show RelVV w _ μ vy v from hy)
  split at h
  ·rename_i hsz
   split at h
   ·rename_i id off
    have hx' : vx = .pointer (some ⟨μ id, off, none⟩) := hx
    subst hx'
    split at h
    ·rename_i cs hcs
     split at h
     ·rename_i hle
      cases h
      obtain ⟨_, cells, E, hh, hl, hrel⟩ := hs.objs _ _ hcs
      refine ⟨_, km ht hh hy hsz (by omega), ?_⟩;refine hs.upd (o' := .box (kc cs off (cellsOf v))) hcs hh (df _ _ _) ⟨by rw [gH, df]; exact hl, fun i c hi => ?_⟩ (fun k hk => ?_) (fun l hl hid k => ?_)
      ·rw [ir _ _ _ _ (by omega)] at hi;rw [jC _ _ _ _ (by rw [hc.1]; omega), hc.1]
       split at hi
       ·rename_i hii; rw [if_pos hii]; exact hc.2 _ _ hi
       ·rename_i hii; rw [if_neg hii]; exact hrel _ _ hi
      ·split
       ·exact hk
       ·exact List.mem_cons_of_mem _ hk
      ·cases hl
       split at hid
       ·rename_i hno
        rw [List.all_eq_true]
        intro c hmem
        obtain ⟨i, hi⟩ := List.mem_iff_getElem?.1 hmem
        rw [ir _ _ _ _ (by omega)] at hi
        split at hi
        ·exact List.all_eq_true.1 (eH hno k) c (List.mem_of_getElem? hi)
        ·exact List.all_eq_true.1 (hs.rbs id cs hcs hid k) c (List.mem_of_getElem? hi)
       ·simp at hid
     ·cases h
    ·cases h
   ·rename_i id sz i j
    have hx' : vx = .pointer (some ⟨μ id, i * sz + j, none⟩) := hx
    subst hx'
    split at h
    ·rename_i sz' es ds hes hds
     split at h
     ·rename_i hsz'; subst hsz'
      split at h
      ·rename_i e he
       split at h
       ·rename_i hle
        cases h
        obtain ⟨_, cells, E, hh, hl, hlen, hrel⟩ := hs.objs _ _ hes
        have hel := hlen _ _ he
        have hi : i < es.length := (List.getElem?_eq_some_iff.1 he).1
        have hmul : i * sz' + sz' <= es.length * sz' := by rw [<- Nat.succ_mul]; exact Nat.mul_le_mul_right _ hi
        obtain ⟨hd1, hd2⟩ := kX hds hc
        refine ⟨_, km ht hh hy hsz (by omega), ?_⟩;refine hs.upd (o' := .arr sz' (es.set i (kc e j ds))) hes hh (df _ _ _) ⟨by simp only [List.length_set, df]; exact hl, fun k e' hk => ?_, fun k m d hkm => ?_⟩ (fun k hk => hk) (fun l hl => by cases hl)
        ·rw [List.getElem?_set] at hk
         by_cases hik : i = k
         ·subst hik; rw [if_pos rfl, if_pos hi] at hk; cases hk; rw [gH]; exact hel
         ·rw [if_neg hik] at hk; exact hlen _ _ hk
        ·rw [jC _ _ _ _ (by rw [hc.1]; omega), hc.1]
         unfold at2 at hkm
         rw [List.getElem?_set] at hkm
         by_cases hki : i = k
         ·subst hki
          rw [if_pos rfl, if_pos hi] at hkm;simp only [Option.bind_some] at hkm;rw [ir _ _ _ _ (by omega)] at hkm
          by_cases hm : j <= m /\ m < j + ds.length
          ·rw [if_pos hm] at hkm;rw [if_pos (by omega)]
           obtain ⟨v, h1, h2⟩ := hd2 _ _ hkm
           exact ⟨v, by rw [<- h1]; congr 1; omega, h2⟩
          ·rw [if_neg hm] at hkm;rw [if_neg (by omega)];exact hrel i m d (by simp [at2, he, hkm])
         ·rw [if_neg hki] at hkm
          have hat : at2 es k m = some d := hkm
          have hmlt : m < sz' := by
           unfold at2 at hat
           cases hek : es[k]? with
           | none => rw [hek] at hat; cases hat
           | some ek =>
            rw [hek] at hat
            have := (List.getElem?_eq_some_iff.1 (show ek[m]? = some d from hat)).1
            rw [hlen _ _ hek] at this; exact this
          rw [if_neg ?_]
          ·exact hrel k m d hat
          ·intro hcon
           rcases Nat.lt_or_gt_of_ne hki with hlt | hgt
           ·have : i * sz' + sz' <= k * sz' := by rw [<- Nat.succ_mul]; exact Nat.mul_le_mul_right _ hlt
            omega
           ·have : k * sz' + sz' <= i * sz' := by rw [<- Nat.succ_mul]; exact Nat.mul_le_mul_right _ hgt
            omega
       ·cases h
      ·cases h
     ·cases h
    ·rename_i cs hcs
     split at h
     ·rename_i hle
      cases h
      obtain ⟨_, cells, E, hh, hl, hrel⟩ := hs.objs _ _ hcs
      refine ⟨_, km ht hh hy hsz (by omega), ?_⟩;refine hs.upd (o' := .box (kc cs (i * sz + j) (cellsOf v))) hcs hh (df _ _ _) ⟨by rw [gH, df]; exact hl, fun i c hi => ?_⟩ (fun k hk => ?_) (fun l hl hid k => ?_)
      ·rw [ir _ _ _ _ (by omega)] at hi;rw [jC _ _ _ _ (by rw [hc.1]; omega), hc.1]
       split at hi
       ·rename_i hii; rw [if_pos hii]; exact hc.2 _ _ hi
       ·rename_i hii; rw [if_neg hii]; exact hrel _ _ hi
      ·split
       ·exact hk
       ·exact List.mem_cons_of_mem _ hk
      ·cases hl
       split at hid
       ·rename_i hno
        rw [List.all_eq_true]
        intro c hmem
        obtain ⟨i, hi⟩ := List.mem_iff_getElem?.1 hmem
        rw [ir _ _ _ _ (by omega)] at hi
        split at hi
        ·exact List.all_eq_true.1 (eH hno k) c (List.mem_of_getElem? hi)
        ·exact List.all_eq_true.1 (hs.rbs id cs hcs hid k) c (List.mem_of_getElem? hi)
       ·simp at hid
     ·cases h
    ·cases h
   ·cases h
  ·cases h
 ·cases h

/-! #### Making slices -/
theorem w8 {t : TypeId} {ti : TI} (ht : TF P t ti) : ∃ ds, hO ti.zero = some ds /\ ds.length = ti.size := by
 have h1 := ht.zok
 have h2 := ht.zsz
 rw [<- h2];generalize ti.zero = l at h1;clear h2
 induction l with
 | nil => exact ⟨[], rfl, rfl⟩
 | cons c l ih =>
  simp only [List.all_cons, Bool.and_eq_true] at h1
  obtain ⟨ds, hd, hl⟩ := ih h1.2
  cases c with
  | d c => exact ⟨c :: ds, by simp [hO, SC.data?, hd], by simp [hl]⟩
  | nil => exact ⟨.sl [] :: ds, by simp [hO, SC.data?, hd], by simp [hl]⟩
  | own => simp at h1
  | bad => simp at h1

theorem ry {n i j : Nat} {l : List DC} {d : DC} (h : at2 (List.replicate n l) i j = some d) : i < n /\ l[j]? = some d := by
 unfold at2 at h
 rw [List.getElem?_replicate] at h
 split at h
 ·rename_i hi; exact ⟨hi, h⟩
 ·cases h

theorem rA {z : Array Value} {n sz i j : Nat} (hz : z.size = sz) (hj : j < sz) (hi : i < n) :
  ((Array.range (n * sz)).map (fun k => z[k % z.size]!))[i * sz + j]? = z[j]? := by
 have hlt : i * sz + j < n * sz := by
  have : i * sz + sz <= n * sz := by rw [<- Nat.succ_mul]; exact Nat.mul_le_mul_right _ hi
  omega
 have hmod : (i * sz + j) % z.size = j := by
  rw [hz, Nat.add_comm, Nat.add_mul_mod_self_right, Nat.mod_eq_of_lt hj]
 have hj' : j < z.size := by omega
 simp [hlt, hmod, hj']

theorem pX {t : TypeId} {ti : TI} (ht : TF P t ti) (n c : Nat) (hnc : n <= c) {z : Array Value} (hz : z = (mkV ti.agg (ti.zero.map io)).cells) :
  RelO w X μ ((Array.range (c * ti.size)).map (fun k => z[k % z.size]!)) (.arr ti.size (List.replicate n (rB ti))) := by
 obtain ⟨ds, hds, hdl⟩ := w8 ht
 have hzd : rB ti = ds := by simp [rB, hds]
 have hzl : z.toList = ti.zero.map io := by rw [hz]; exact jn ht
 have hzs : z.size = ti.size := by have := congrArg List.length hzl; simpa [ht.zsz] using this
 obtain ⟨h1, h2⟩ := kX (w := w) (X := X) (μ := μ) hds (kF ht)
 refine ⟨by simp; exact Nat.mul_le_mul_right _ hnc, fun i e he => ?_, fun i j d hd => ?_⟩
 ·rw [List.getElem?_replicate] at he
  split at he
  ·cases he; rw [hzd]; exact hdl
  ·cases he
 ·obtain ⟨hi, hj⟩ := ry hd
  rw [hzd] at hj
  obtain ⟨v, hv, hr⟩ := h2 _ _ hj
  have hjl := (List.getElem?_eq_some_iff.1 hj).1
  refine ⟨v, ?_, hr⟩;rw [rA hzs (by omega) (by omega : i < c)];rw [<- hzl] at hv
  simpa using hv

theorem wo {t : TypeId} {ti : TI} (ht : TF P t ti) (n c : Nat) (hnc : n <= c) {z : Array Value} (hz : z = (mkV ti.agg (ti.zero.map io)).cells) :
  RelO w X μ ((Array.range (c * ti.size)).map (fun k => z[k % z.size]!)) (l7 ti n) := by
 unfold l7
 split
 ·rename_i hzero
  have hzl : z.toList = ti.zero.map io := by rw [hz]; exact jn ht
  have hs1 : ti.size = 1 := by rw [<- ht.zsz, hzero]; rfl
  rw [hzero] at hzl
  have hz0 : z = #[.slice none 0 0] := by
   apply Array.toList_inj.1; rw [hzl]; rfl
  refine ⟨by simp [hs1]; omega, fun i c' hc => ?_⟩;rw [List.getElem?_replicate] at hc
  split at hc
  ·rename_i hi
   cases hc
   refine ⟨.slice none 0 0, ?_, rfl⟩
   have h := rA (z := z) (n := c) (sz := ti.size) (i := i) (j := 0) (by rw [hz0, hs1]; rfl) (by omega) (by omega)
   rw [hs1, Nat.mul_one, Nat.add_zero, Nat.mul_one] at h;rw [hs1, Nat.mul_one, h, hz0]; rfl
  ·cases hc
 ·exact pX ht n c hnc hz
theorem nV (ti : TI) (n d : Nat) : (l7 ti n).noRef d = true := by
 unfold l7
 split
 ·simp only [OO.noRef, List.all_eq_true]
  intro c hc
  rw [List.eq_of_mem_replicate hc]; rfl
 ·rfl

theorem lV (hT : TOK P T) {t : TypeId} {vl vc : Value} {l c : SV} {o : OO} {f : Nat -> SV} (hl : RelV w X μ vl l) (hc : RelV w X μ vc c)
  (h : aZ T t l c = .new o f) :
  ∃ cs E u, (Instr.makeSlice t vl vc).run P w = .ok u (w.alloc (.cells cs E)) /\ RelO w X μ cs o /\ o.noRef 0 = true /\ (∀ d, o.noRef d = true) /\
   ∀ (d : Nat) (X' : Nat -> Prop), RelV (w.alloc (.cells cs E)) X' (upm μ d w.heap.size) u (f d) := by
 unfold aZ at h
 split at h
 ·rename_i ti k n k' m hti hn hm
  have e1 := ij hl hn
  have e2 := ij hc hm
  subst e1; subst e2
  split at h
  ·rename_i e he
   split at h
   ·rename_i ei hei
    split at h
    ·rename_i hcond
     obtain ⟨h0, hnm, hm40', hby, hsz0⟩ := hcond
     have hm40 : m <= 2 ^ 40 := by have := Nat.le_of_ble_eq_true hm40'; omega
     cases h
     have ht := hT.ty _ _ hei
     have hu := (hT.ty _ _ hti).run_slice w he
     obtain ⟨inf, hinf, hb, _⟩ := ht.run_bytes w
     have hz := ht.run_zero w
     have hsz := ht.run_sizeOf w
     have hwl : IntKind.i64.wrap n = n := IntWalk.i64_in _ (by omega)
     have hwc : IntKind.i64.wrap m = m := IntWalk.i64_in _ (by omega)
     have hbm : (inf.bytes : Int) * m <= 2 ^ 48 := by
      rw [hb]
      have h1 : (ei.bytes : Int) <= 256 := by omega
      have h2 : (ei.bytes : Int) * m <= 256 * m := Int.mul_le_mul_of_nonneg_right h1 (by omega)
      omega
     refine ⟨_, e, .slice (some ⟨w.heap.size, 0, none⟩) n.toNat m.toNat, ?_, wo ht n.toNat m.toNat (by omega) rfl, nV _ _ _, fun _ => nV _ _ _, fun d X' => ?_⟩
     ·simp only [Instr.makeSlice, Sem.run_bind, hu, Result.andThen_ok, asInt, asIntOf, Sem.run_pure, hinf, hwl, hwc];rw [if_neg (by simp; omega)];simp only [Sem.run_bind, run_askRoom, hsz, Result.andThen_ok]
      by_cases hn0 : m.toNat * ei.size = 0
      ·rw [if_pos hn0]
       have r0 : ∀ f : Nat -> Value, (Array.range 0).map f = #[] := fun f => by simp
       simp only [Sem.run_bind, Sem.run_pure, Result.andThen_ok, newRow, run_newObj, hn0, r0]
       rfl
      ·rw [if_neg hn0];simp only [Sem.run_bind, hz, Result.andThen_ok, Sem.run_pure, newRow, run_newObj]
       rfl
     ·refine ⟨m.toNat, _, e, (0, 0), by simp [upm], by omega, by rw [show upm μ d w.heap.size d = w.heap.size by simp [upm]]; exact gz _ _, ?_⟩
      simp
    ·cases h
   ·cases h
  ·cases h
 ·cases h

theorem EA {es : List (List DC)} {i k m : Nat} {ds : List DC} (hi : i < es.length) {d : DC} (h : at2 (es.set i ds) k m = some d) :
  (k = i /\ ds[m]? = some d) \/ (k ≠ i /\ at2 es k m = some d) := by
 unfold at2 at h ⊢
 rw [List.getElem?_set] at h
 by_cases hk : i = k
 ·subst hk
  rw [if_pos rfl, if_pos hi] at h;exact Or.inl ⟨rfl, h⟩
 ·rw [if_neg hk] at h;exact Or.inr ⟨Ne.symm hk, h⟩

theorem ot {sz : Nat} : ∀ (parts : List (Nat × SV)) (ps : List (Nat × Value)) (cs : Array Value) (es es' : List (List DC)), ps.length = parts.length ->
  (∀ (k : Nat) (p : Nat × SV), parts[k]? = some p -> ∃ u, ps[k]? = some (p.1, u) /\ RelV w X μ u p.2) -> cs.size = es.length * sz -> RelO w X μ cs (.arr sz es) ->
  ow sz es parts = some es' ->
  ∃ cs', Instr.fill (fun i => some (i * sz, sz)) cs ps = some cs' /\ cs'.size = cs.size /\ es'.length = es.length /\ RelO w X μ cs' (.arr sz es')
 | [], ps, cs, es, es', hlen, _, _, hr, h => by
  have : ps = [] := by simpa using hlen
  subst this
  simp [ow] at h; subst h
  exact ⟨cs, rfl, rfl, rfl, hr⟩
 | (i, x) :: parts, ps, cs, es, es', hlen, hps, hsz, hr, h => by
  match ps, hlen with
  | p :: ps, hlen =>
   obtain ⟨u, hu, hru⟩ := hps 0 _ rfl
   simp at hu; subst hu
   cases x with
   | val v =>
    simp only [ow] at h
    split at h
    ·rename_i ds hds
     split at h
     ·rename_i hc
      have hcells := gM hru
      obtain ⟨hd1, hd2⟩ := kX hds hcells
      have hus : u.cells.size = sz := by have := hcells.1; rw [Array.length_toList] at this; omega
      have hi := hc.2
      have hmul : i * sz + sz <= es.length * sz := by rw [<- Nat.succ_mul]; exact Nat.mul_le_mul_right _ hi
      simp only [Instr.fill];rw [if_neg (by simp [hus]; omega), mO]
      have := ot parts ps (spl cs (i * sz) u.cells.toList) (es.set i ds) es' (by simpa using hlen) (fun k p hk => by
       have := hps (k + 1) p (by simpa using hk); simpa using this) (by rw [df, List.length_set]; exact hsz) ?_ h
      ·obtain ⟨cs', h1, h2, h3, h4⟩ := this
       exact ⟨cs', h1, by rw [h2, df], by rw [h3, List.length_set], h4⟩
      ·obtain ⟨hr1, hr2, hr3⟩ := hr
       refine ⟨by rw [df, List.length_set]; exact hr1, fun k e hk => ?_, fun k m d hd => ?_⟩
       ·rw [List.getElem?_set] at hk
        by_cases hik : i = k
        ·subst hik; rw [if_pos rfl, if_pos hi] at hk; cases hk; exact hc.1
        ·rw [if_neg hik] at hk; exact hr2 _ _ hk
       ·rw [jC _ _ _ _ (by rw [Array.length_toList]; omega), Array.length_toList, hus]
        rcases EA hi hd with ⟨rfl, hm⟩ | ⟨hne, hm⟩
        ·have hml := (List.getElem?_eq_some_iff.1 hm).1
         rw [if_pos (by omega)]
         obtain ⟨v, h1, h2⟩ := hd2 _ _ hm
         exact ⟨v, by rw [<- h1]; congr 1; omega, h2⟩
        ·have hmlt : m < sz := by
          unfold at2 at hm
          cases hek : es[k]? with
          | none => rw [hek] at hm; cases hm
          | some ek =>
           rw [hek] at hm
           have := (List.getElem?_eq_some_iff.1 (show ek[m]? = some d from hm)).1
           rw [hr2 _ _ hek] at this; exact this
         rw [if_neg ?_]
         ·exact hr3 k m d hm
         ·intro hcon
          rcases Nat.lt_or_gt_of_ne hne with hlt | hgt
          ·have : k * sz + sz <= i * sz := by rw [<- Nat.succ_mul]; exact Nat.mul_le_mul_right _ hlt
           omega
          ·have : i * sz + sz <= k * sz := by rw [<- Nat.succ_mul]; exact Nat.mul_le_mul_right _ hgt
           omega
     ·cases h
    ·cases h
   | _ => simp [ow] at h

theorem hH (hT : TOK P T) {t : TypeId} {len : Nat} {parts : List (Nat × SV)} {ps : Array (Nat × Value)} {o : OO} {f : Nat -> SV} (hlen : ps.toList.length = parts.length)
  (hps : ∀ (k : Nat) (p : Nat × SV), parts[k]? = some p -> ∃ u, ps.toList[k]? = some (p.1, u) /\ RelV w X μ u p.2) (h : bn T t len parts = .new o f) :
  ∃ cs E u, (Instr.buildSlice t len ps).run P w = .ok u (w.alloc (.cells cs E)) /\ RelO w X μ cs o /\ o.noRef 0 = true /\ (∀ d, o.noRef d = true) /\
   ∀ (d : Nat) (X' : Nat -> Prop), RelV (w.alloc (.cells cs E)) X' (upm μ d w.heap.size) u (f d) := by
 unfold bn at h
 split at h
 ·rename_i ti hti
  split at h
  ·rename_i e he
   split at h
   ·rename_i ei hei
    split at h
    ·rename_i hcond
     split at h
     ·rename_i es hes
      cases h
      have ht := hT.ty _ _ hei
      have hu := (hT.ty _ _ hti).run_slice w he
      have hz := ht.run_zero w
      have hsz := ht.run_sizeOf w
      have hr0 := pX (w := w) (X := X) (μ := μ) ht len len (Nat.le_refl _) rfl
      obtain ⟨cs', h1, h2, h3, h4⟩ := ot parts ps.toList _ _ es hlen hps (by simp) hr0 hes
      refine ⟨cs', e, .slice (some ⟨w.heap.size, 0, none⟩) len len, ?_, h4, rfl, fun _ => rfl, fun d X' => ?_⟩
      ·simp only [Instr.buildSlice, Sem.run_bind, hu, Result.andThen_ok, hsz];rw [if_neg (by omega)]
       by_cases hn0 : len * ei.size = 0
       ·have r0 : ∀ f : Nat -> Value, (Array.range 0).map f = #[] := fun f => by simp
        rw [hn0, r0] at h1;simp only [hn0, if_true, Sem.run_bind, Sem.run_pure, Result.andThen_ok, r0, h1, newRow, run_newObj]
        rfl
       ·simp only [if_neg hn0, Sem.run_bind, hz, Result.andThen_ok, Sem.run_pure, h1, newRow, run_newObj]
        rfl
      ·refine ⟨len, cs', e, (0, 0), by simp [upm], Nat.le_refl _, by rw [show upm μ d w.heap.size d = w.heap.size by simp [upm]]; exact gz _ _, ?_⟩;rw [h2]; simp
     ·cases h
    ·cases h
   ·cases h
  ·cases h
 ·cases h

/-! #### Removing and renaming objects -/
def jc (σ : ca) (id : Nat) : ca := fun k => if k = id then none else σ k

theorem Sim.del (hs : Sim w0 X μ a w st) (id : Nat) : Sim w0 X μ a w { st with σ := jc st.σ id } := by
 have hM : ∀ k, Mut X μ (jc st.σ id) k -> Mut X μ st.σ k := by
  intro k hm
  rcases hm with hm | ⟨j, oj, h1, h2⟩
  ·exact Or.inl hm
  ·simp only [jc] at h1
   split at h1
   ·cases h1
   ·exact Or.inr ⟨j, oj, h1, h2⟩
 have get : ∀ {j o}, jc st.σ id j = some o -> st.σ j = some o := by
  intro j o h
  simp only [jc] at h
  split at h
  ·cases h
  ·exact h
 refine ⟨hs.xlt, hs.dfr, hs.bel, hs.len, fun i => (hs.slots i).mono (fun k _ h => hM k h) (Fwd.refl _ _), fun j o hj => ?_, fun i j oi oj hi hj => hs.inj i j oi oj (get hi) (get hj), fun j l hj => hs.rbs j l (get hj)⟩
 obtain ⟨h1, cs, E, hh, hr⟩ := hs.objs j o (get hj)
 exact ⟨h1, cs, E, hh, hr.mono (fun k _ h => hM k h) (Fwd.refl _ _)⟩

theorem Sim.move (hs : Sim w0 X μ a w st) {id d sz : Nat} {es : List (List DC)} (hid : st.σ id = some (.arr sz es)) (hno : st.noRef d = true) (hne : d ≠ id) :
  Sim w0 X (upm μ d (μ id)) a w { st with σ := bc (jc st.σ id) d (.arr sz es) } := by
 have hM : ∀ k, Mut X (upm μ d (μ id)) (bc (jc st.σ id) d (.arr sz es)) k -> Mut X μ st.σ k := by
  intro k hm
  rcases hm with hm | ⟨j, oj, h1, h2⟩
  ·exact Or.inl hm
  ·by_cases hj : j = d
   ·subst hj; simp [upm] at h2; exact Or.inr ⟨id, _, hid, h2⟩
   ·simp only [bc, if_neg hj, jc] at h1
    split at h1
    ·cases h1
    ·rw [c9 hj] at h2; exact Or.inr ⟨j, oj, h1, h2⟩
 have get : ∀ {j o}, j ≠ d -> bc (jc st.σ id) d (.arr sz es) j = some o -> j ≠ id /\ st.σ j = some o := by
  intro j o hj h
  simp only [bc, if_neg hj, jc] at h
  split at h
  ·cases h
  ·rename_i h'; exact ⟨h', h⟩
 refine ⟨hs.xlt, hs.dfr, hs.bel, hs.len, fun i => ((hs.slots i).mono (fun k _ h => hM k h) (Fwd.refl _ _)).ren (jF hno i) (fun k hk => c9 hk), fun j o hj => ?_, fun i j oi oj hi hj hij => ?_, fun j l hj => ?_⟩
 ·by_cases hjd : j = d
  ·subst hjd
   simp only [bc, if_true] at hj; cases hj
   obtain ⟨h1, cs, E, hh, hr⟩ := hs.objs id _ hid
   refine ⟨⟨by simpa [upm] using h1.1, fun e => absurd e (qi hno)⟩, cs, E, by simpa [upm] using hh, ?_⟩;exact (hr.mono (fun k _ h => hM k h) (Fwd.refl _ _)).ren (id := j) rfl (fun k hk => c9 hk)
  ·obtain ⟨_, hj'⟩ := get hjd hj
   obtain ⟨h1, cs, E, hh, hr⟩ := hs.objs j o hj'
   rw [c9 hjd];exact ⟨h1, cs, E, hh, (hr.mono (fun k _ h => hM k h) (Fwd.refl _ _)).ren (rW hs hno hj') (fun k hk => c9 hk)⟩
 ·by_cases hid' : i = d
  ·by_cases hjd : j = d
   ·rw [hid', hjd]
   ·obtain ⟨h1, h2⟩ := get hjd hj
    rw [c9 hjd] at hij
    subst hid'
    simp [upm] at hij
    exact absurd (hs.inj j id _ _ h2 hid hij.symm) h1
  ·obtain ⟨h1, h2⟩ := get hid' hi
   by_cases hjd : j = d
   ·rw [c9 hid'] at hij
    subst hjd
    simp [upm] at hij
    exact absurd (hs.inj i id _ _ h2 hid hij) h1
   ·obtain ⟨h3, h4⟩ := get hjd hj
    rw [c9 hid', c9 hjd] at hij;exact hs.inj i j _ _ h2 h4 hij
 ·by_cases hjd : j = d
  ·subst hjd
   simp only [bc, if_true] at hj; cases hj
  ·exact hs.rbs j l (get hjd hj).2

end
end Go.Proofs.YtnoildlijhapaaaGreatDoor

/- Append, and one operation of the abstract state against the model's. No condition. -/
namespace Go.Proofs.YtnoildlijhapaaaGreatDoor
open Go.RowKit

section
variable {P : Program} {T : Tab} {w w' : World} {w0 : Base} {X : Nat -> Prop} {μ : Nat -> Nat} {a : Act} {st : St}

theorem nS {es : List (List DC)} {i j : Nat} {d : DC} (h : at2 es i j = some d) : i < es.length := by
 unfold at2 at h
 rcases Nat.lt_or_ge i es.length with h' | h'
 ·exact h'
 ·rw [List.getElem?_eq_none h'] at h; cases h

theorem sh (hs : Sim w0 X μ a w st) {vx : Value} {x : SV} {new : List (List DC)} {sz : Nat} (hx : RelV w (Mut X μ st.σ) μ vx x) (he : e7 st x = some new)
  (hl : ∀ e ∈ new, e.length = sz) : (Builtin.lenOf vx).run P w = .ok new.length w /\ ∃ cells : Array Value, (Builtin.firstCells sz new.length vx).run P w = .ok cells w /\ cells.size = new.length * sz /\
   ∀ (i j : Nat) (d : DC), at2 new i j = some d -> ∃ v, cells[i * sz + j]? = some v /\ RdC w (Mut X μ st.σ) v d := by
 have main : ∀ (b off0 cap : Nat) (cs : Array Value) (E : TypeId) (fr : Nat × Nat), w.heap[b]? = some (.cells cs E fr) ->
   (∀ (i j : Nat) (d : DC), at2 new i j = some d -> ∃ v, cs[off0 + i * sz + j]? = some v /\ RdC w (Mut X μ st.σ) v d) ->
   (new.length * sz ≠ 0 -> off0 + new.length * sz <= cs.size) ->
   ∃ cells : Array Value, (Builtin.firstCells sz new.length (.slice (some ⟨b, off0, none⟩) new.length cap)).run P w = .ok cells w /\ cells.size = new.length * sz /\
    ∀ (i j : Nat) (d : DC), at2 new i j = some d -> ∃ v, cells[i * sz + j]? = some v /\ RdC w (Mut X μ st.σ) v d := by
  intro b off0 cap cs E fr hh hg hle
  by_cases h0 : new.length * sz = 0
  ·refine ⟨#[], ?_, by simp [h0], fun i j d hd => ?_⟩
   ·simp only [Builtin.firstCells, h0, loadCells, loadCellsFrom, Sem.run_pure]
   ·exfalso
    have hi := nS hd
    have hsz : sz = 0 := by
     rcases Nat.mul_eq_zero.1 h0 with h | h
     ·omega
     ·exact h
    unfold at2 at hd
    rw [List.getElem?_eq_getElem hi] at hd
    have := hl _ (List.getElem_mem hi)
    have hj := (List.getElem?_eq_some_iff.1 (show (new[i])[j]? = some d from hd)).1
    omega
  ·refine ⟨_, iY hh off0 (new.length * sz) (hle h0), by simp; have := hle h0; omega, fun i j d hd => ?_⟩
   obtain ⟨v, h1, h2⟩ := hg i j d hd
   refine ⟨v, ?_, h2⟩
   have hi := nS hd
   have hj : j < sz := by
    unfold at2 at hd
    rw [List.getElem?_eq_getElem hi] at hd
    have := hl _ (List.getElem_mem hi)
    have hj := (List.getElem?_eq_some_iff.1 (show (new[i])[j]? = some d from hd)).1
    omega
   have hmul : i * sz + sz <= new.length * sz := by rw [<- Nat.succ_mul]; exact Nat.mul_le_mul_right _ hi
   have := hle h0
   rw [Array.getElem?_extract, if_pos (by omega), <- h1]
   congr 1; omega
 unfold e7 at he
 split at he
 ·cases he
  cases hx with
  | nil => exact ⟨rfl, by
    rename_i a c
    cases a with
    | none => exact ⟨#[], rfl, by simp, fun i j d hd => by simp [at2] at hd⟩
    | some a => exact ⟨#[], by simp [Builtin.firstCells, loadCells, loadCellsFrom], by simp, fun i j d hd => by simp [at2] at hd⟩⟩
  | sl vs hh hX hlen hcap hsz hv hr =>
   rename_i b off len cap sz' cs E fr
   subst hlen
   refine ⟨rfl, ?_⟩
   have hszz : ∀ i j d, at2 new i j = some d -> sz' = sz := by
    intro i j d hd
    have hi := nS hd
    rw [<- hsz i _ (List.getElem?_eq_getElem hi), hl _ (List.getElem_mem hi)]
   refine main b off cap cs E fr hh (fun i j d hd => ⟨vs i j, by rw [<- hv i j d hd, hszz i j d hd], hr i j d hd⟩) (fun h0 => ?_)
   have hn : 0 < new.length := by rcases Nat.eq_zero_or_pos new.length with h | h; (rw [h] at h0; simp at h0); exact h
   have hs0 : 0 < sz := by rcases Nat.eq_zero_or_pos sz with h | h; (rw [h] at h0; simp at h0); exact h
   have hi : new.length - 1 < new.length := by omega
   have hll := hl _ (List.getElem_mem hi)
   have hat : at2 new (new.length - 1) (sz - 1) = some ((new[new.length - 1])[sz - 1]'(by omega)) := by
    unfold at2; rw [List.getElem?_eq_getElem hi]; simp
   have h1 := hv _ _ _ hat
   rw [hszz _ _ _ hat] at h1
   have := (Array.getElem?_eq_some_iff.1 h1).1
   have e1 : (new.length - 1) * sz + sz = new.length * sz := by rw [<- Nat.succ_mul]; congr 1; omega
   omega
 ·cases he
  cases hx
  exact ⟨rfl, #[], rfl, by simp, fun i j d hd => by simp [at2] at hd⟩
 ·rename_i id szx off len
  split at he
  ·rename_i sz' es hes
   split at he
   ·rename_i hc
    cases he
    obtain ⟨cap, cs, E, fr, rfl, hle, hh, hcap⟩ := hx
    obtain ⟨_, cs', E', hh', hle', hlen', hrel⟩ := hs.objs _ _ hes
    have hlen : ((es.drop off).take len).length = len := by simp; omega
    rw [hlen];refine ⟨rfl, ?_⟩
    have hszx : ∀ i, i < len -> szx = sz := by
     intro i hi
     have hio : off + i < es.length := by omega
     have h1 := hlen' _ _ (List.getElem?_eq_getElem hio)
     have h2 := hl es[off + i] (by
      refine List.mem_of_getElem? (i := i) ?_
      rw [List.getElem?_take, if_pos hi, List.getElem?_drop, List.getElem?_eq_getElem hio])
     omega
    have := main (μ id) (off * szx) cap cs' E' (0, 0) hh' (fun i j d hd => ?_) (fun h0 => ?_)
    ·rw [hlen] at this; exact this
    ·have hi := nS hd
     rw [hlen] at hi
     have hat : at2 es (off + i) j = some d := by
      unfold at2 at hd ⊢
      rw [List.getElem?_take, if_pos hi, List.getElem?_drop] at hd;exact hd
     obtain ⟨v, h1, h2⟩ := hrel _ _ _ hat
     refine ⟨v, ?_, h2⟩;rw [<- h1, hc.1, hszx i hi, Nat.add_mul]
    ·rw [hlen] at h0 ⊢
     have hn : 0 < len := by rcases Nat.eq_zero_or_pos len with h | h; (rw [h] at h0; simp at h0); exact h
     have e := hszx 0 hn
     have h3 : (off + len) * sz' <= es.length * sz' := Nat.mul_le_mul_right _ hc.2
     rw [Nat.add_mul, hc.1, e] at h3;rw [e];rw [hc.1, e] at hle'
     omega
   ·cases he
  ·cases he
 ·cases he

theorem sa (n : Nat) : ∀ (r c : Nat), 256 <= c -> c < n -> Builtin.growBy n r c <= 2 * n
 | 0, c, _, h => by simp [Builtin.growBy]; omega
 | r + 1, c, h1, h2 => by
  simp only [Builtin.growBy]
  split
  ·omega
  ·by_cases h3 : c + (c + 768) / 4 < n
   ·exact sa n r _ (by omega) h3
   ·have : ∀ r c, n <= c -> Builtin.growBy n r c = c := by
     intro r c hc
     cases r with
     | zero => rfl
     | succ r => simp [Builtin.growBy, hc]
    rw [this _ _ (by omega)]
    omega

theorem wH {n c : Nat} (h : c < n) : Builtin.nextslicecap n c <= 2 * n := by
 unfold Builtin.nextslicecap
 split
 ·omega
 ·split
  ·omega
  ·exact sa n 4 c (by omega) h

theorem pz (z : Array Value) (n : Nat) : (Builtin.zeroCells z n).size = n * z.size := by simp [Builtin.zeroCells]

theorem n4 {sz : Nat} {es new : List (List DC)} {old cells rest : Array Value} (hold : old.size = es.length * sz) (hcells : cells.size = new.length * sz)
  (hes : ∀ e ∈ es, e.length = sz) (hnew : ∀ e ∈ new, e.length = sz)
  (h1 : ∀ (i j : Nat) (d : DC), at2 es i j = some d -> ∃ v, old[i * sz + j]? = some v /\ RdC w X v d)
  (h2 : ∀ (i j : Nat) (d : DC), at2 new i j = some d -> ∃ v, cells[i * sz + j]? = some v /\ RdC w X v d) :
  RelO w X μ (old ++ cells ++ rest) (.arr sz (es ++ new)) := by
 refine ⟨by simp only [Array.size_append, List.length_append, Nat.add_mul]; omega, fun i e he => ?_, fun i j d hd => ?_⟩
 ·rcases List.mem_append.1 (List.mem_of_getElem? he) with h | h
  ·exact hes e h
  ·exact hnew e h
 ·have hjlt : j < sz := by
   unfold at2 at hd
   cases he : (es ++ new)[i]? with
   | none => rw [he] at hd; cases hd
   | some e =>
    rw [he] at hd
    have hj := (List.getElem?_eq_some_iff.1 (show e[j]? = some d from hd)).1
    rcases List.mem_append.1 (List.mem_of_getElem? he) with h | h
    ·rw [hes e h] at hj; exact hj
    ·rw [hnew e h] at hj; exact hj
  by_cases hi : i < es.length
  ·have hat : at2 es i j = some d := by unfold at2 at hd ⊢; rwa [List.getElem?_append_left hi] at hd
   obtain ⟨v, hv, hr⟩ := h1 i j d hat
   have hlt := (Array.getElem?_eq_some_iff.1 hv).1
   exact ⟨v, by rw [Array.append_assoc, Array.getElem?_append_left hlt]; exact hv, hr⟩
  ·have hat : at2 new (i - es.length) j = some d := by unfold at2 at hd ⊢; rwa [List.getElem?_append_right (by omega)] at hd
   obtain ⟨v, hv, hr⟩ := h2 _ j d hat
   have hlt := (Array.getElem?_eq_some_iff.1 hv).1
   have e : i * sz = es.length * sz + (i - es.length) * sz := by rw [<- Nat.add_mul]; congr 1; omega
   refine ⟨v, ?_, hr⟩;rw [Array.append_assoc, Array.getElem?_append_right (by omega), Array.getElem?_append_left (by omega), <- hv]
   congr 1; omega

theorem Sim.drew (hs : Sim w0 X μ a w st) : Sim w0 X μ a w.drew st := hs.below ((Below.refl _ _).drew)

theorem y9 {d : Nat} (hno : st.noRef d = true) (id : Nat) (o : OO) (ho : o.noRef d = true) : ({ st with σ := bc st.σ id o } : St).noRef d = true := by
 simp only [St.noRef, Bool.and_eq_true] at hno ⊢;refine ⟨hno.1, hno.2.1, List.all_eq_true.2 fun k hk => ?_⟩
 have := List.all_eq_true.1 hno.2.2 k hk
 simp only [bc]
 by_cases hki : k = id
 ·simp [hki, ho]
 ·simpa [hki] using this

theorem za {d : Nat} (hno : st.noRef d = true) (id : Nat) : ({ st with σ := jc st.σ id } : St).noRef d = true := by
 simp only [St.noRef, Bool.and_eq_true] at hno ⊢;refine ⟨hno.1, hno.2.1, List.all_eq_true.2 fun k hk => ?_⟩
 have := List.all_eq_true.1 hno.2.2 k hk
 simp only [jc]
 by_cases hki : k = id
 ·simp [hki]
 ·simpa [hki] using this

theorem oO (hT : TOK P T) (hs : Sim w0 X μ a w st) {t t2 tt : TypeId} {vs vx : Value} {s x : SV} {id : Option Nat} {sz : Nat} {es : List (List DC)} {d : Nat}
  (hvs : RelV w (Mut X μ st.σ) μ vs s) (hvx : RelV w (Mut X μ st.σ) μ vx x) (h : bm T st t t2 s x = .app id sz es) (hno : st.noRef d = true) (hsn : s.noRef d = true) :
  ∃ u w' μ', (Builtin.append_ #[t, t2] tt #[vs, vx]).run P w = .ok u w' /\ Sim w0 X μ' (a.put (some d) u) w' (st.app d id (.arr sz es) (.val (.one (.own d sz 0 es.length)))) := by
 unfold bm at h
 split at h
 ·rename_i ti ti2 hti hti2
  split at h
  ·rename_i e e2 he he2
   split at h
   ·rename_i ei new hei hnew
    split at h
    ·rename_i hcond
     obtain ⟨hsz0, hby, hall⟩ := hcond
     have hnl : ∀ el ∈ new, el.length = ei.size := fun el hel => by have := List.all_eq_true.1 hall el hel; simpa using this
     have hu := (hT.ty _ _ hti).run_slice w he
     have hu2 := (hT.ty _ _ hti2).run_slice w he2
     have ht := hT.ty _ _ hei
     have hsize := ht.run_sizeOf w
     obtain ⟨inf, hinf, hinfb, _⟩ := ht.run_bytes w
     obtain ⟨hlenx, cells, hcells, hcsz, hcrel⟩ := sh (P := P) hs hvx hnew hnl
     have hsD := hs.drew
     have hcellsD := (sh (P := P) hsD (w := w.drew) (hvx.mono (fun _ _ h => h) (Fwd.of_below ((Below.refl _ _).drew))) hnew hnl).2
     -- it does not fit: a new row
     have grow : ∀ (base : Option Addr) (sLen sCap : Nat) (old : Array Value), vs = .slice base sLen sCap -> sLen + new.length <= 2 ^ 36 -> ¬ sLen + new.length <= sCap ->
       (Builtin.firstCells ei.size sLen vs).run P w.drew = .ok old w.drew ->
       ∃ (cells : Array Value) (rest : Array Value) (newCap : Nat), sLen + new.length <= newCap /\ rest.size = (newCap - (sLen + new.length)) * ei.size /\ cells.size = new.length * ei.size /\
        (∀ (i j : Nat) (d : DC), at2 new i j = some d -> ∃ v, cells[i * ei.size + j]? = some v /\ RdC w.drew (Mut X μ st.σ) v d) /\
        (Builtin.append_ #[t, t2] tt #[vs, vx]).run P w = .ok (.slice (some ⟨w.drew.heap.size, 0, none⟩) (sLen + new.length) newCap) (w.drew.alloc (.cells (old ++ cells ++ rest) e)) := by
      intro base sLen sCap old hv hb hcap hold
      obtain ⟨cells, hc1, hc2, hc3⟩ := hcellsD
      have hinfD : (typeInfo e).run P w.drew = .ok inf w.drew := by
       obtain ⟨i, hi, _⟩ := ht.run_bytes w.drew
       have h1 := hinf
       simp only [typeInfo, Sem.run_bind, run_program, Result.andThen_ok] at h1 hi ⊢
       cases hp : P.info? e with
       | none => rw [hp] at h1; simp at h1
       | some i' => rw [hp] at h1; simp at h1; rw [h1]; rfl
      have hmax : IntKind.i64.max = 9223372036854775807 := by decide
      have hnc := wH (n := sLen + new.length) (c := sCap) (by omega)
      have hmul : Builtin.nextslicecap (sLen + new.length) sCap * inf.bytes <= 2 ^ 37 * 256 := by
       rw [hinfb]; exact Nat.mul_le_mul (by omega) hby
      refine ⟨cells, Builtin.zeroCells (mkV ei.agg (ei.zero.map io)).cells ((Question.appendCap (sLen + new.length) sCap e).cut (w.tape w.drawn (.appendCap (sLen + new.length) sCap e)) - (sLen + new.length)),
       (Question.appendCap (sLen + new.length) sCap e).cut (w.tape w.drawn (.appendCap (sLen + new.length) sCap e)), by simp [Question.cut], ?_, hc2, hc3, ?_⟩
      ·rw [pz]
       have := congrArg List.length (jn ht)
       simp [ht.zsz] at this
       rw [this]
      ·subst hv
       unfold Builtin.append_
       simp only [List.getElem?_toArray, List.getElem?_cons_zero, List.getElem?_cons_succ, Sem.run_bind, hu, hu2, hsize, Result.andThen_ok, Sem.run_pure];rw [if_neg (by simp)];simp only [Sem.run_bind, hlenx, Result.andThen_ok];rw [if_neg hcap];simp only [Sem.run_bind, hinf, Result.andThen_ok];rw [if_neg (by rw [hmax]; omega)];simp only [Sem.run_bind, hinf, Result.andThen_ok];rw [if_neg (by omega)]
       have hforced : (Question.appendCap (sLen + new.length) sCap e).forced = false := rfl
       simp only [Sem.run_bind, run_choose, hforced, Bool.false_eq_true, if_false, Result.andThen_ok]
       change Result.andThen (Sem.run P _ w.drew) _ = _
       simp only [hinfD, Result.andThen_ok, run_askRoom, hold];rw [if_pos (by simp)];simp only [hc1, Result.andThen_ok, ht.run_zero, newRow, Sem.run_bind, run_newObj, Sem.run_pure]
       rfl
     -- it fits: the row is written
     have fits : ∀ (b o sLen sCap : Nat) (w1 : World), vs = .slice (some ⟨b, o, none⟩) sLen sCap -> sLen + new.length <= sCap ->
       (storeCells ⟨b, o + sLen * ei.size, none⟩ cells.toList).run P w = .ok () w1 ->
       (Builtin.append_ #[t, t2] tt #[vs, vx]).run P w = .ok (.slice (some ⟨b, o, none⟩) (sLen + new.length) sCap) w1 := by
      intro b o sLen sCap w1 hv hcap hst
      subst hv
      unfold Builtin.append_
      simp only [List.getElem?_toArray, List.getElem?_cons_zero, List.getElem?_cons_succ, Sem.run_bind, hu, hu2, hsize, Result.andThen_ok, Sem.run_pure];rw [if_neg (by simp)];simp only [Sem.run_bind, hlenx, Result.andThen_ok];rw [if_pos hcap];simp only [Sem.run_bind];rw [if_pos (by simp)];simp only [hcells, Result.andThen_ok, gU, hst, Sem.run_pure]
     have hel : ∀ (l : List (List DC)), (∀ e ∈ l, e.length = ei.size) -> ∀ e ∈ l, e.length = ei.size := fun _ h => h
     split at h
     ·-- a nil slice
      split at h
      ·rename_i hn
       injection h with h1 h2 h3
       subst h1; subst h2; subst h3
       have hv : vs = .slice none 0 0 := hvs
       obtain ⟨cells', rest, newCap, h1, h2, h3, h4, h5⟩ := grow none 0 0 #[] hv (by omega) (by omega) (by rw [hv]; rfl)
       have hrel := n4 (w := w.drew) (X := Mut X μ st.σ) (μ := μ) (sz := ei.size) (es := []) (new := new) (old := #[]) (rest := rest) (by simp) h3 (by simp) hnl
        (fun i j d hd => by simp [at2] at hd) h4
       refine ⟨_, _, upm μ d w.drew.heap.size, h5, ?_⟩
       have := hsD.alloc (d := d) (u := .slice (some ⟨w.drew.heap.size, 0, none⟩) (0 + new.length) newCap) (v := .val (.one (.own d ei.size 0 new.length))) (E := e) hno hrel rfl
        ⟨newCap, _, e, (0, 0), by simp [upm], by omega, by rw [show upm μ d w.drew.heap.size d = w.drew.heap.size by simp [upm]]; exact gz _ _, by
         simp only [Array.empty_append, Array.size_append, h2, h3, Nat.zero_add]
         rw [<- Nat.add_mul]; exact Nat.mul_le_mul_right _ (by omega)⟩
       have e1 : (fun k => if some k = (none : Option Nat) then none else st.σ k) = st.σ := by funext k; simp
       simpa [St.new, St.app, OO.noOwn, e1] using this
      ·cases h
     ·rename_i id' sz' len
      split at h
      ·rename_i sz'' es' hes'
       split at h
       ·rename_i hc
        obtain ⟨hc1, hc2, hc3, hc4⟩ := hc
        injection h with h1 h2 h3
        subst h1; subst h3; subst hc2; subst hc3; subst h2; subst hc1
        have hcl : cells.toList.length = cells.size := Array.length_toList
        have hne : d ≠ id' := by
         intro e; subst e
         simp [SV.noRef, VV.noRef, SC.noRef] at hsn
        obtain ⟨cap, cs, E, fr, hv, hle, hh, hcapsz⟩ := hvs
        obtain ⟨hB, cs0, E0, hh0, hl0, hlen0, hrel0⟩ := hs.objs _ _ hes'
        rw [hh] at hh0; cases hh0;simp only [Nat.zero_mul, Nat.zero_add] at hv hcapsz
        by_cases hcap : es'.length + new.length <= cap
        ·-- in place
         have hmul : (es'.length + new.length) * ei.size <= cap * ei.size := Nat.mul_le_mul_right _ hcap
         rw [Nat.add_mul] at hmul
         have hone : ∀ v ∈ cells.toList, v.oneCell' = true := by
          intro v hvm
          obtain ⟨k, hk⟩ := List.mem_iff_getElem?.1 hvm
          have hklt : k < cells.size := by have := (List.getElem?_eq_some_iff.1 hk).1; simpa using this
          have hs0 : 0 < ei.size := by omega
          have hi : k / ei.size < new.length := by rw [Nat.div_lt_iff_lt_mul hs0]; omega
          have hj : k % ei.size < ei.size := Nat.mod_lt _ hs0
          have hll := hnl _ (List.getElem_mem hi)
          have hat : at2 new (k / ei.size) (k % ei.size) = some ((new[k / ei.size])[k % ei.size]'(by omega)) := by
           unfold at2; rw [List.getElem?_eq_getElem hi]; simp
          obtain ⟨v', h1, h2⟩ := hcrel _ _ _ hat
          rw [Nat.div_add_mod' k ei.size] at h1;rw [Array.getElem?_toList, h1] at hk; cases hk;exact h2.oneCell
         have hst := iA (P := P) cells.toList hh (0 + es'.length * ei.size) 0 (by omega) hone
         simp only [Nat.zero_add, Nat.add_zero] at hst
         have hrun := fits _ 0 _ _ _ hv hcap (by simpa using hst)
         have hrelA : RelO w (Mut X μ st.σ) μ (spl cs (es'.length * ei.size) cells.toList) (.arr ei.size (es' ++ new)) := by
          refine ⟨by rw [df, List.length_append, Nat.add_mul]; omega, fun i el hel => ?_, fun i j dd hd => ?_⟩
          ·rcases List.mem_append.1 (List.mem_of_getElem? hel) with hm | hm
           ·obtain ⟨k, hk⟩ := List.mem_iff_getElem?.1 hm; exact hlen0 _ _ hk
           ·exact hnl _ hm
          ·rw [jC _ _ _ _ (by omega), hcl]
           by_cases hi : i < es'.length
           ·have hat : at2 es' i j = some dd := by unfold at2 at hd ⊢; rwa [List.getElem?_append_left hi] at hd
            obtain ⟨v, h1, h2⟩ := hrel0 _ _ _ hat
            have hj : j < ei.size := by
             unfold at2 at hat
             rw [List.getElem?_eq_getElem hi] at hat
             have := (List.getElem?_eq_some_iff.1 (show (es'[i])[j]? = some dd from hat)).1
             rw [hlen0 _ _ (List.getElem?_eq_getElem hi)] at this; exact this
            have hm : i * ei.size + ei.size <= es'.length * ei.size := by rw [<- Nat.succ_mul]; exact Nat.mul_le_mul_right _ hi
            exact ⟨v, by rw [if_neg (by omega)]; exact h1, h2⟩
           ·have hat : at2 new (i - es'.length) j = some dd := by unfold at2 at hd ⊢; rwa [List.getElem?_append_right (by omega)] at hd
            obtain ⟨v, h1, h2⟩ := hcrel _ _ _ hat
            have hlt := (Array.getElem?_eq_some_iff.1 h1).1
            have e1 : i * ei.size = es'.length * ei.size + (i - es'.length) * ei.size := by rw [<- Nat.add_mul]; congr 1; omega
            refine ⟨v, ?_, h2⟩;rw [if_pos (by omega), Array.getElem?_toList, <- h1]
            congr 1; omega
         have s1 := hs.upd (o' := .arr ei.size (es' ++ new)) hes' hh (df _ _ _) hrelA (rb' := st.rb) (fun k hk => hk) (fun l hl => by cases hl)
         have s2 := s1.move (id := id') (d := d) (sz := ei.size) (es := es' ++ new) (by simp [bc]) (y9 hno id' _ rfl) hne
         have s3 := s2.put (dst := some d) (u := .slice (some ⟨μ id', 0, none⟩) (es'.length + new.length) cap) (v := .val (.one (.own d ei.size 0 (es' ++ new).length))) ⟨cap, _, E, (0, 0),
          by simp [upm], by rw [List.length_append]; exact hcap, by rw [show upm μ d (μ id') d = μ id' by simp [upm]]; exact dq hh _, by rw [df]; simpa using hcapsz⟩
         refine ⟨_, _, upm μ d (μ id'), hrun, ?_⟩
         have e1 : jc (bc st.σ id' (.arr ei.size (es' ++ new))) id' = (fun k => if some k = some id' then none else st.σ k) := by
          funext k
          simp only [jc, bc, Option.some.injEq]
          split <;> simp_all
         simp only [e1] at s3;exact s3
        ·-- a new row
         have hhD : w.drew.heap[μ id']? = some (.cells cs E (0, 0)) := hh
         have hold := iY (P := P) hhD 0 (es'.length * ei.size) (by omega)
         obtain ⟨cells', rest, newCap, h1, h2, h3, h4, h5⟩ := grow _ _ _ _ hv (by omega) hcap (by rw [hv]; exact hold)
         have sd := (hsD.del id')
         have hM : ∀ k, k < w.drew.heap.size -> Mut X μ (jc st.σ id') k -> Mut X μ st.σ k := by
          intro k _ hm
          rcases hm with hm | ⟨j, oj, g1, g2⟩
          ·exact Or.inl hm
          ·simp only [jc] at g1
           split at g1
           ·cases g1
           ·exact Or.inr ⟨j, oj, g1, g2⟩
         have hrel := n4 (w := w.drew) (X := Mut X μ (jc st.σ id')) (μ := μ) (sz := ei.size) (es := es') (new := new) (old := cs.extract 0 (0 + es'.length * ei.size)) (rest := rest)
          (by simp; omega) h3 (fun e he => by obtain ⟨k, hk⟩ := List.mem_iff_getElem?.1 he; exact hlen0 _ _ hk) hnl
          (fun i j dd hd => by
           obtain ⟨v, g1, g2⟩ := hrel0 i j dd hd
           refine ⟨v, ?_, RdC.mono (w := w) (w' := w.drew) hM (fun _ _ _ => rfl) g2⟩
           have hi := nS hd
           have hj : j < ei.size := by
            unfold at2 at hd
            rw [List.getElem?_eq_getElem hi] at hd
            have := (List.getElem?_eq_some_iff.1 (show (es'[i])[j]? = some dd from hd)).1
            rw [hlen0 _ _ (List.getElem?_eq_getElem hi)] at this; exact this
           have hm : i * ei.size + ei.size <= es'.length * ei.size := by rw [<- Nat.succ_mul]; exact Nat.mul_le_mul_right _ hi
           rw [Array.getElem?_extract, if_pos (by omega), <- g1]
           congr 1; omega)
          (fun i j dd hd => by obtain ⟨v, g1, g2⟩ := h4 i j dd hd; exact ⟨v, g1, RdC.mono hM (fun _ _ _ => rfl) g2⟩)
         refine ⟨_, _, upm μ d w.drew.heap.size, h5, ?_⟩
         have := sd.alloc (d := d) (u := .slice (some ⟨w.drew.heap.size, 0, none⟩) (es'.length + new.length) newCap) (v := .val (.one (.own d ei.size 0 (es' ++ new).length))) (E := e) (za hno id') hrel rfl
          ⟨newCap, _, e, (0, 0), by simp [upm], by rw [List.length_append]; omega, by rw [show upm μ d w.drew.heap.size d = w.drew.heap.size by simp [upm]]; exact gz _ _, by
           simp only [Array.size_append, h2, h3, Nat.zero_add, Array.size_extract]
           have e2 : min (es'.length * ei.size) cs.size - 0 = es'.length * ei.size := by omega
           rw [e2, <- Nat.add_mul, <- Nat.add_mul]; exact Nat.mul_le_mul_right _ (by omega)⟩
         have e1 : (fun k => if some k = some id' then none else st.σ k) = jc st.σ id' := by
          funext k; simp [jc]
         have e2 : st.app d (some id') (.arr ei.size (es' ++ new)) (.val (.one (.own d ei.size 0 (es' ++ new).length))) = St.new { st with σ := jc st.σ id' } d (.arr ei.size (es' ++ new)) (.val (.one (.own d ei.size 0 (es' ++ new).length))) := by
          simp only [St.new, St.app, OO.noOwn, e1, if_true]
         rw [e2];exact this
       ·cases h
      ·cases h
     ·cases h
    ·cases h
   ·cases h
  ·cases h
 ·cases h

end
end Go.Proofs.YtnoildlijhapaaaGreatDoor
