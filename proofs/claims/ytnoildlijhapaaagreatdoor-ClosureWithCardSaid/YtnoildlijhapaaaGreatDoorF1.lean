/- Part of a proof that a Go function answers true for every input. No condition. -/
import Derived.Lib.TrailingZeros
import Derived.Below
import Derived.Orders
import Derived.KernelRfl
import Derived.IntWalk
set_option linter.unusedVariables false
set_option linter.unusedSimpArgs false
set_option linter.unusedSectionVars false
/- The tables of numbers that this program reads, by the number of their block. No condition. -/
namespace Go.Proofs.YtnoildlijhapaaaGreatDoor
def mK : List Int := [1, 10, 100, 1000, 10000, 100000, 1000000, 10000000, 100000000, 1000000000, 10000000000, 100000000000, 1000000000000, 10000000000000, 100000000000000, 1000000000000000, 10000000000000000, 100000000000000000, 1000000000000000000, 10000000000000000000]
def ji : List (Nat × List Nat) := [(0, Go.Lib.deBruijn32tab), (2, []), (4, Go.Lib.deBruijn64tab)]
end Go.Proofs.YtnoildlijhapaaaGreatDoor

/- Words of 32 bits and the numbers that they stand for. No condition. -/
namespace Go.Proofs.YtnoildlijhapaaaGreatDoor

def wv : List Nat -> Nat
 | [] => 0
 | x :: xs => x + 4294967296 * wv xs
def wOK (ws : List Nat) : Prop := ∀ x ∈ ws, x < 4294967296
def aZ : Nat -> Nat -> List Nat
 | 0, _ => []
 | k + 1, n => n % 4294967296 :: aZ k (n / 4294967296)
def cQ (ws : List Nat) : List Nat := (ws.reverse.dropWhile (· == 0)).reverse
theorem iw (ws : List Nat) : cQ (ws ++ [0]) = cQ ws := by simp [cQ]
theorem jn (ws : List Nat) {x : Nat} (h : x ≠ 0) : cQ (ws ++ [x]) = ws ++ [x] := by simp [cQ, h]
theorem wOK.cons {x : Nat} {xs : List Nat} (h : wOK (x :: xs)) : x < 4294967296 /\ wOK xs := ⟨h x (by simp), fun y hy => h y (by simp [hy])⟩
theorem wOK.append {a b : List Nat} (h : wOK a) (k : wOK b) : wOK (a ++ b) := fun x hx => by
 rcases List.mem_append.1 hx with h1 | h1
 ·exact h x h1
 ·exact k x h1
theorem wOK.one {x : Nat} (h : x < 4294967296) : wOK [x] := fun y hy => by simp at hy; omega
theorem wOK.nil : wOK [] := fun y hy => by simp at hy
theorem wOK.take {a : List Nat} (h : wOK a) (k : Nat) : wOK (a.take k) := fun x hx => h x (List.mem_of_mem_take hx)
theorem wOK.drop {a : List Nat} (h : wOK a) (k : Nat) : wOK (a.drop k) := fun x hx => h x (List.mem_of_mem_drop hx)
theorem wOK.set {a : List Nat} (h : wOK a) (k : Nat) {y : Nat} (hy : y < 4294967296) : wOK (a.set k y) := fun x hx => by
 rcases List.mem_or_eq_of_mem_set hx with h1 | h1
 ·exact h x h1
 ·omega
theorem wOK.get {a : List Nat} (h : wOK a) {k : Nat} (hk : k < a.length) : a[k] < 4294967296 := h _ (List.getElem_mem hk)
theorem wOK.rep0 (k : Nat) : wOK (List.replicate k 0) := fun x hx => by rw [(List.mem_replicate.1 hx).2]; decide

theorem gD (a b : List Nat) : wv (a ++ b) = wv a + 4294967296 ^ a.length * wv b := by
 induction a with
 | nil => simp [wv]
 | cons x xs ih => simp only [List.cons_append, wv, ih, List.length_cons, Nat.pow_succ]; grind
theorem jE (k : Nat) : wv (List.replicate k 0) = 0 := by
 induction k with
 | zero => rfl
 | succ k ih => simp [List.replicate_succ, wv, ih]
theorem pow_pos (k : Nat) : 0 < 4294967296 ^ k := Nat.pow_pos (by decide)
theorem eO {a : List Nat} (h : wOK a) : wv a < 4294967296 ^ a.length := by
 induction a with
 | nil => simp [wv]
 | cons x xs ih =>
  obtain ⟨h1, h2⟩ := h.cons
  have := ih h2
  simp only [wv, List.length_cons, Nat.pow_succ]
  have h3 : 4294967296 * wv xs + 4294967296 <= 4294967296 * 4294967296 ^ xs.length := by
   rw [<- Nat.mul_succ]; exact Nat.mul_le_mul_left _ this
  rw [Nat.mul_comm (4294967296 ^ xs.length)]
  omega
theorem aD (k n : Nat) : (aZ k n).length = k := by
 induction k generalizing n with
 | zero => rfl
 | succ k ih => simp [aZ, ih]
theorem bz (k n : Nat) : wOK (aZ k n) := by
 induction k generalizing n with
 | zero => exact wOK.nil
 | succ k ih =>
  intro x hx
  simp only [aZ, List.mem_cons] at hx
  rcases hx with rfl | hx
  ·exact Nat.mod_lt _ (by decide)
  ·exact ih _ x hx
theorem bN (k n : Nat) : wv (aZ k n) = n % 4294967296 ^ k := by
 induction k generalizing n with
 | zero => simp [aZ, wv, Nat.mod_one]
 | succ k ih =>
  simp only [aZ, wv, ih, Nat.pow_succ];rw [Nat.mul_comm (4294967296 ^ k) 4294967296, Nat.mod_mul]
theorem iW {a : List Nat} (h : wOK a) : aZ a.length (wv a) = a := by
 induction a with
 | nil => rfl
 | cons x xs ih =>
  obtain ⟨h1, h2⟩ := h.cons
  simp only [List.length_cons, aZ, wv]
  have e1 : (x + 4294967296 * wv xs) % 4294967296 = x := by rw [Nat.add_mul_mod_self_left, Nat.mod_eq_of_lt h1]
  have e2 : (x + 4294967296 * wv xs) / 4294967296 = wv xs := by rw [Nat.add_mul_div_left _ _ (by decide), Nat.div_eq_of_lt h1, Nat.zero_add]
  rw [e1, e2, ih h2]
theorem gG {a : List Nat} {k n : Nat} (h : wOK a) (hl : a.length = k) (hv : wv a = n) : a = aZ k n := by subst hl hv; exact (iW h).symm
theorem lY {a : List Nat} (h : wOK a) (i : Nat) : a.getD i 0 = wv a / 4294967296 ^ i % 4294967296 := by
 induction a generalizing i with
 | nil => simp [wv]
 | cons x xs ih =>
  obtain ⟨h1, h2⟩ := h.cons
  cases i with
  | zero =>
   simp only [List.getD_cons_zero, wv, Nat.pow_zero, Nat.div_one];rw [Nat.add_mul_mod_self_left, Nat.mod_eq_of_lt h1]
  | succ i =>
   simp only [List.getD_cons_succ, wv, ih h2];rw [Nat.pow_succ, Nat.mul_comm (4294967296 ^ i) 4294967296, <- Nat.div_div_eq_div_mul, Nat.add_mul_div_left _ _ (by decide), Nat.div_eq_of_lt h1, Nat.zero_add]
theorem yQ {a : List Nat} {i : Nat} (hi : i < a.length) (y : Nat) : wv (a.set i y) + a[i] * 4294967296 ^ i = wv a + y * 4294967296 ^ i := by
 induction a generalizing i with
 | nil => simp at hi
 | cons x xs ih =>
  cases i with
  | zero => simp only [List.set_cons_zero, wv, List.getElem_cons_zero, Nat.pow_zero]; omega
  | succ i =>
   have hi' : i < xs.length := by simpa using hi
   simp only [List.set_cons_succ, wv, List.getElem_cons_succ, Nat.pow_succ]
   have := ih hi'
   grind
theorem gW {a : List Nat} {i : Nat} (hi : i < a.length) : wv (a.take (i + 1)) = wv (a.take i) + a[i] * 4294967296 ^ i := by
 rw [List.take_add_one, List.getElem?_eq_getElem hi];simp only [Option.toList_some, gD, wv];rw [List.length_take, Nat.min_eq_left (by omega)]
 grind
theorem r6 (a : List Nat) (x : Nat) : wv (a ++ [x]) = wv a + x * 4294967296 ^ a.length := by
 rw [gD]; simp only [wv]; grind

theorem l8 (ws : List Nat) : wv (cQ ws) = wv ws := by
 induction hn : ws.length generalizing ws with
 | zero => have := List.length_eq_zero_iff.1 hn; subst this; rfl
 | succ n ih =>
  rcases List.eq_nil_or_concat ws with rfl | ⟨vs, x, rfl⟩
  ·rfl
  ·rw [List.concat_eq_append] at hn ⊢
   by_cases hx : x = 0
   ·subst hx; rw [iw, ih vs (by simpa using hn), gD]; simp [wv]
   ·rw [jn _ hx]
theorem pN {ws : List Nat} (h : wOK ws) : wOK (cQ ws) := by
 intro x hx
 unfold cQ at hx
 have := (List.dropWhile_sublist _).subset (List.mem_reverse.1 hx)
 exact h x (List.mem_reverse.1 this)
theorem uo (ws : List Nat) : (cQ ws).length <= ws.length := by
 unfold cQ
 rw [List.length_reverse];exact Nat.le_trans (List.dropWhile_sublist _).length_le (by simp)
def jI (ws : List Nat) : Prop := ∀ h : ws ≠ [], ws.getLast h ≠ 0
theorem kg (ws : List Nat) : jI (cQ ws) := by
 induction hn : ws.length generalizing ws with
 | zero => have := List.length_eq_zero_iff.1 hn; subst this; intro h; exact absurd rfl h
 | succ n ih =>
  rcases List.eq_nil_or_concat ws with rfl | ⟨vs, x, rfl⟩
  ·intro h; exact absurd rfl h
  ·rw [List.concat_eq_append] at hn ⊢
   by_cases hx : x = 0
   ·subst hx; rw [iw]; exact ih vs (by simpa using hn)
   ·rw [jn _ hx]; intro h; simpa using hx
def wof (n : Nat) : List Nat := cQ (aZ (n + 1) n)
theorem zD (n : Nat) : n < 4294967296 ^ (n + 1) := Nat.lt_of_lt_of_le (Nat.lt_pow_self (by decide)) (Nat.pow_le_pow_right (by decide) (by omega))
theorem bf (n : Nat) : wv (wof n) = n := by
 unfold wof
 rw [l8, bN, Nat.mod_eq_of_lt (zD n)]
theorem az (n : Nat) : wOK (wof n) := pN (bz _ _)
theorem de (n : Nat) : jI (wof n) := kg _
theorem jF {ws : List Nat} (h : jI ws) (hne : ws ≠ []) : 4294967296 ^ (ws.length - 1) <= wv ws := by
 rcases List.eq_nil_or_concat ws with rfl | ⟨vs, x, rfl⟩
 ·exact absurd rfl hne
 ·rw [List.concat_eq_append] at h ⊢
  have := h (by simp)
  rw [List.getLast_concat] at this;rw [r6, List.length_append, List.length_singleton, Nat.add_sub_cancel]
  have : 1 * 4294967296 ^ vs.length <= x * 4294967296 ^ vs.length := Nat.mul_le_mul_right _ (by omega)
  omega
theorem uq {a b : List Nat} (ha : wOK a) (hb : wOK b) (ta : jI a) (tb : jI b) (h : wv a = wv b) : a = b := by
 have key : ∀ {a b : List Nat}, wOK a -> jI b -> wv a = wv b -> b.length <= a.length := by
  intro a b ha tb h
  by_cases hb : b = []
  ·simp [hb]
  ·have h1 := jF tb hb
   have h2 := eO ha
   rw [h] at h2
   have : 4294967296 ^ (b.length - 1) < 4294967296 ^ a.length := by omega
   have := (Nat.pow_lt_pow_iff_right (by decide : 1 < 4294967296)).1 this
   have : b.length ≠ 0 := by simpa using hb
   omega
 have h1 := key ha tb h
 have h2 := key hb ta h.symm
 have hl : a.length = b.length := by omega
 rw [<- iW ha, <- iW hb, hl, h]
theorem gI {ws : List Nat} (h : wOK ws) : cQ ws = wof (wv ws) :=
 uq (pN h) (az _) (kg _) (de _) (by rw [l8, bf])
theorem lZ : wof 0 = [] := rfl
theorem jG {n : Nat} : wof n = [] ↔ n = 0 := by
 refine ⟨fun h => ?_, fun h => by subst h; rfl⟩
 have := bf n
 rw [h] at this; exact this.symm
def wl (n : Nat) : Nat := (wof n).length
theorem nY (n : Nat) : n < 4294967296 ^ wl n := by have := eO (az n); rw [bf] at this; exact this
theorem yF {n : Nat} (h : n ≠ 0) : 4294967296 ^ (wl n - 1) <= n := by
 have := jF (de n) (fun h' => h (jG.1 h'))
 rwa [bf] at this
theorem r8 {n k : Nat} (h : n < 4294967296 ^ k) : wl n <= k := by
 by_cases hn : n = 0
 ·subst hn; simp [wl, lZ]
 ·have h1 := yF hn
  have : 4294967296 ^ (wl n - 1) < 4294967296 ^ k := by omega
  have := (Nat.pow_lt_pow_iff_right (by decide : 1 < 4294967296)).1 this
  omega
theorem Ai {m n : Nat} (h : wl m < wl n) : m < n := by
 have h1 := nY m
 have h2 : n ≠ 0 := by intro h'; subst h'; simp [wl, lZ] at h
 have h3 := yF h2
 have : 4294967296 ^ wl m <= 4294967296 ^ (wl n - 1) := Nat.pow_le_pow_right (by decide) (by omega)
 omega
theorem df {m n : Nat} (h : m <= n) : wl m <= wl n := by
 rcases Nat.lt_or_ge (wl n) (wl m) with h1 | h1
 ·have := Ai h1; omega
 ·exact h1
theorem yR (m n : Nat) : wl (m + n) <= max (wl m) (wl n) + 1 := by
 refine r8 ?_
 have h1 := nY m
 have h2 := nY n
 have h3 : 4294967296 ^ wl m <= 4294967296 ^ max (wl m) (wl n) := Nat.pow_le_pow_right (by decide) (by omega)
 have h4 : 4294967296 ^ wl n <= 4294967296 ^ max (wl m) (wl n) := Nat.pow_le_pow_right (by decide) (by omega)
 rw [Nat.pow_succ]; show m + n < 4294967296 ^ max (wl m) (wl n) * 4294967296; omega
theorem uc (m n : Nat) : wl (m * n) <= wl m + wl n := by
 refine r8 ?_;rw [Nat.pow_add]
 by_cases hn : n = 0
 ·subst hn; rw [Nat.mul_zero]; exact Nat.mul_pos (pow_pos _) (pow_pos _)
 ·calc m * n < 4294967296 ^ wl m * n := Nat.mul_lt_mul_of_pos_right (nY m) (by omega)
   _ <= 4294967296 ^ wl m * 4294967296 ^ wl n := Nat.mul_le_mul_left _ (Nat.le_of_lt (nY n))
end Go.Proofs.YtnoildlijhapaaaGreatDoor

/- Words: differences, products, quotients, as plain laws. No condition. -/
namespace Go.Proofs.YtnoildlijhapaaaGreatDoor

theorem bF (a : List Nat) (i : Nat) : wv (a.take (i + 1)) = wv (a.take i) + a.getD i 0 * 4294967296 ^ i := by
 rcases Nat.lt_or_ge i a.length with h | h
 ·rw [gW h, List.getD_eq_getElem?_getD, List.getElem?_eq_getElem h]; rfl
 ·rw [List.take_of_length_le h, List.take_of_length_le (by omega), List.getD_eq_getElem?_getD, List.getElem?_eq_none h]; simp
theorem iV (k n : Nat) : aZ (k + 1) n = aZ k n ++ [n / 4294967296 ^ k % 4294967296] := by
 have h1 : aZ k n ++ [n / 4294967296 ^ k % 4294967296] = aZ (k + 1) (n % 4294967296 ^ (k + 1)) := by
  refine gG ((bz _ _).append (wOK.one (Nat.mod_lt _ (by decide)))) (by simp [aD]) ?_;rw [r6, aD, bN, Nat.pow_succ, Nat.mod_mul, Nat.mul_comm]
 have h2 := iW (bz (k + 1) n)
 rw [aD, bN] at h2;rw [h1, h2]
theorem l3 {k m n : Nat} (h : m % 4294967296 ^ k = n % 4294967296 ^ k) : aZ k m = aZ k n := by
 have h2 := iW (bz k m)
 have h3 := iW (bz k n)
 rw [aD, bN] at h2 h3;rw [<- h2, h, h3]
theorem uf (k m n : Nat) : aZ k (m + n * 4294967296 ^ k) = aZ k m := l3 (Nat.add_mul_mod_self_right _ _ _)
theorem aW {a : List Nat} (h : wOK a) (i : Nat) : a.getD i 0 < 4294967296 := by
 rw [List.getD_eq_getElem?_getD]
 rcases Nat.lt_or_ge i a.length with h' | h'
 ·rw [List.getElem?_eq_getElem h']; exact h.get h'
 ·rw [List.getElem?_eq_none h']; decide
theorem cq {a : List Nat} {i : Nat} (h : i < a.length) : a.getD i 0 = a[i] := by
 rw [List.getD_eq_getElem?_getD, List.getElem?_eq_getElem h]; rfl
theorem bA {a : List Nat} (h : wOK a) (i : Nat) : wv (a.take i) < 4294967296 ^ i :=
 Nat.lt_of_lt_of_le (eO (h.take i)) (Nat.pow_le_pow_right (by decide) (by simp; omega))
theorem gC (a : List Nat) (k : Nat) : wv a = wv (a.take k) + 4294967296 ^ k * wv (a.drop k) := by
 have := gD (a.take k) (a.drop k)
 rw [List.take_append_drop] at this
 rcases Nat.lt_or_ge a.length k with h | h
 ·rw [this, List.drop_eq_nil_of_le (by omega)]; simp [wv]
 ·rw [List.length_take, Nat.min_eq_left h] at this; exact this
theorem e9 {a : List Nat} {i : Nat} (hi : i < a.length) (y : Nat) : wv (a.set i y) + a.getD i 0 * 4294967296 ^ i = wv a + y * 4294967296 ^ i := by
 rw [cq hi]; exact yQ hi y
theorem eG (a : List Nat) (i : Nat) : wv (a.drop i) = a.getD i 0 + 4294967296 * wv (a.drop (i + 1)) := by
 rcases Nat.lt_or_ge i a.length with h | h
 ·rw [List.drop_eq_getElem_cons h, cq h]; rfl
 ·rw [List.drop_eq_nil_of_le h, List.drop_eq_nil_of_le (by omega), List.getD_eq_getElem?_getD, List.getElem?_eq_none h]; simp [wv]
theorem jD {a : List Nat} (h : wOK a) (h0 : wv a = 0) (i : Nat) : a.getD i 0 = 0 := by rw [lY h, h0]; simp
theorem gF (a : List Nat) (i k y : Nat) (hi : i < a.length) : (a.set i y).getD k 0 = if k = i then y else a.getD k 0 := by
 rw [List.getD_eq_getElem?_getD, List.getD_eq_getElem?_getD, List.getElem?_set]
 by_cases h : i = k
 ·subst h; simp [hi]
 ·rw [if_neg h, if_neg (Ne.symm h)]
theorem jl (a : List Nat) (i k : Nat) : (a.drop i).getD k 0 = a.getD (i + k) 0 := by
 rw [List.getD_eq_getElem?_getD, List.getD_eq_getElem?_getD, List.getElem?_drop]
/-! ### Differences -/
def d5 (x y : List Nat) (i : Nat) : Nat := 4294967296 ^ i + wv (x.take i) - wv (y.take i)
theorem tK (x y : List Nat) : d5 x y 0 = 1 := by simp [d5, wv]
theorem oB (x : List Nat) {y : List Nat} (hy : wOK y) (i : Nat) : d5 x y (i + 1) + (y.getD i 0 + 1) * 4294967296 ^ i = (4294967296 + x.getD i 0) * 4294967296 ^ i + d5 x y i := by
 unfold d5
 have h1 := bA hy i
 have h2 := bA hy (i + 1)
 rw [bF, bF] at *;rw [Nat.pow_succ] at *
 grind
theorem tL (x : List Nat) {y : List Nat} (hy : wOK y) (i : Nat) : d5 x y (i + 1) / 4294967296 ^ i + y.getD i 0 + 1 = 4294967296 + x.getD i 0 + d5 x y i / 4294967296 ^ i := by
 have h := oB x hy i
 have hp := pow_pos i
 have h1 : _ / 4294967296 ^ i = _ / 4294967296 ^ i := congrArg (· / 4294967296 ^ i) h
 rw [Nat.add_mul_div_right _ _ hp, Nat.add_comm (_ * _), Nat.add_mul_div_right _ _ hp] at h1
 omega
theorem rL {x y : List Nat} (hx : wOK x) (i : Nat) : d5 x y i / 4294967296 ^ i <= 1 := by
 unfold d5
 have h1 := bA hx i
 have : (4294967296 ^ i + wv (x.take i) - wv (y.take i)) / 4294967296 ^ i < 2 := by
  rw [Nat.div_lt_iff_lt_mul (pow_pos i)]; omega
 omega
theorem wA {x y : List Nat} (hl : y.length <= x.length) (h : wv y <= wv x) : aZ x.length (d5 x y x.length) = aZ x.length (wv x - wv y) := by
 refine l3 ?_
 unfold d5
 rw [List.take_of_length_le (Nat.le_refl _), List.take_of_length_le hl, Nat.add_sub_assoc h]
 simp

/-! ### Products -/
structure WTI (a b : List Nat) (i j : Nat) (out : List Nat) (c : Nat) : Prop where
 ok : wOK out
 len : out.length = a.length + b.length
 hi : ∀ k, i + b.length <= k -> out.getD k 0 = 0
 val : wv out + c * 4294967296 ^ (i + j) = wv (a.take i) * wv b + a.getD i 0 * wv (b.take j) * 4294967296 ^ i
 cl : c < 4294967296

theorem WTI.bound {a b : List Nat} (ha : wOK a) (hb : wOK b) {i j : Nat} {out : List Nat} {c : Nat} (h : WTI a b i j out c) :
  a.getD i 0 * b.getD j 0 + out.getD (i + j) 0 + c < 18446744073709551616 := by
 have h1 := aW ha i
 have h2 := aW hb j
 have h3 := aW h.ok (i + j)
 have h4 := h.cl
 have : a.getD i 0 * b.getD j 0 <= 4294967295 * 4294967295 := Nat.mul_le_mul (by omega) (by omega)
 omega
theorem WTI.step {a b : List Nat} {i j : Nat} {out : List Nat} {c : Nat} (h : WTI a b i j out c) (hi : i < a.length) (hj : j < b.length)
  (hB : a.getD i 0 * b.getD j 0 + out.getD (i + j) 0 + c < 18446744073709551616) :
  WTI a b i (j + 1) (out.set (i + j) ((a.getD i 0 * b.getD j 0 + out.getD (i + j) 0 + c) % 4294967296)) ((a.getD i 0 * b.getD j 0 + out.getD (i + j) 0 + c) / 4294967296) := by
 have hlt : i + j < out.length := by rw [h.len]; omega
 have hs := e9 hlt ((a.getD i 0 * b.getD j 0 + out.getD (i + j) 0 + c) % 4294967296)
 have hv := h.val
 refine ⟨h.ok.set _ (Nat.mod_lt _ (by decide)), by rw [List.length_set]; exact h.len, fun k hk => ?_, ?_, by omega⟩
 ·rw [gF _ _ _ _ hlt, if_neg (by omega)]; exact h.hi k hk
 ·rw [bF, show i + (j + 1) = i + j + 1 from by omega, Nat.pow_succ]
  have hd := Nat.div_add_mod (a.getD i 0 * b.getD j 0 + out.getD (i + j) 0 + c) 4294967296
  generalize (a.getD i 0 * b.getD j 0 + out.getD (i + j) 0 + c) / 4294967296 = q at *;generalize (a.getD i 0 * b.getD j 0 + out.getD (i + j) 0 + c) % 4294967296 = r at *;generalize wv (out.set (i + j) r) = o' at *;rw [Nat.pow_add] at *;generalize 4294967296 ^ i = p at *;generalize 4294967296 ^ j = p' at *
  grind
theorem WTI.row {a b : List Nat} {i : Nat} {out : List Nat} {c : Nat} (h : WTI a b i b.length out c) (hi : i < a.length) :
  WTI a b (i + 1) 0 (out.set (i + b.length) c) 0 := by
 have hlt : i + b.length < out.length := by rw [h.len]; omega
 have hs := e9 hlt c
 have h0 := h.hi (i + b.length) (Nat.le_refl _)
 have hv := h.val
 rw [h0] at hs;rw [List.take_of_length_le (Nat.le_refl _)] at hv;refine ⟨h.ok.set _ h.cl, by rw [List.length_set]; exact h.len, fun k hk => ?_, ?_, by decide⟩
 ·rw [gF _ _ _ _ hlt, if_neg (by omega)]; exact h.hi k (by omega)
 ·rw [bF];simp only [List.take_zero, wv, Nat.mul_zero, Nat.zero_mul, Nat.add_zero] at *;rw [hs, hv]
  grind
theorem WTI.start (a b : List Nat) : WTI a b 0 0 (List.replicate (a.length + b.length) 0) 0 :=
 ⟨wOK.rep0 _, by simp, fun k _ => jD (wOK.rep0 _) (jE _) k, by simp [jE, wv], by decide⟩
theorem WTI.fin {a b : List Nat} {out : List Nat} (h : WTI a b a.length 0 out 0) : out = aZ (a.length + b.length) (wv a * wv b) := by
 refine gG h.ok h.len ?_
 have hv := h.val
 simp only [List.take_zero, wv, Nat.mul_zero, Nat.zero_mul, Nat.add_zero, List.take_of_length_le (Nat.le_refl _)] at hv;exact hv

/-! ### Division by a word -/
def shq (a : List Nat) (d i : Nat) : List Nat := List.replicate i 0 ++ aZ (a.length - i) (wv (a.drop i) / d)
theorem xt (a : List Nat) (d : Nat) {i : Nat} (hi : i <= a.length) : (shq a d i).length = a.length := by simp [shq, aD]; omega
theorem sh_step (a : List Nat) {d : Nat} (hd : 0 < d) (i : Nat) : wv (a.drop i) / d = (wv (a.drop (i + 1)) % d * 4294967296 + a.getD i 0) / d + 4294967296 * (wv (a.drop (i + 1)) / d) /\
  wv (a.drop i) % d = (wv (a.drop (i + 1)) % d * 4294967296 + a.getD i 0) % d := by
 rw [eG]
 have h := Nat.div_add_mod (wv (a.drop (i + 1))) d
 generalize wv (a.drop (i + 1)) / d = q at *;generalize wv (a.drop (i + 1)) % d = r at *;rw [<- h]
 have e : a.getD i 0 + 4294967296 * (d * q + r) = (r * 4294967296 + a.getD i 0) + d * (4294967296 * q) := by grind
 rw [e, Nat.add_mul_div_left _ _ hd, Nat.add_mul_mod_self_left];exact ⟨rfl, rfl⟩
theorem sh_digit {a : List Nat} (ha : wOK a) {d : Nat} (hd : 0 < d) (i : Nat) : (wv (a.drop (i + 1)) % d * 4294967296 + a.getD i 0) / d < 4294967296 := by
 have h1 := aW ha i
 have h2 := Nat.mod_lt (wv (a.drop (i + 1))) hd
 rw [Nat.div_lt_iff_lt_mul hd]
 have : (wv (a.drop (i + 1)) % d + 1) * 4294967296 <= d * 4294967296 := Nat.mul_le_mul_right _ h2
 rw [Nat.mul_comm 4294967296 d]; omega
theorem uD {a : List Nat} (ha : wOK a) {d : Nat} (hd : 0 < d) {i : Nat} (hi : i < a.length) :
  (shq a d (i + 1)).set i ((wv (a.drop (i + 1)) % d * 4294967296 + a.getD i 0) / d) = shq a d i := by
 unfold shq
 have e : a.length - i = (a.length - (i + 1)) + 1 := by omega
 rw [e, (sh_step a hd i).1, aZ]
 have h := sh_digit ha hd i
 rw [Nat.add_mul_mod_self_left, Nat.mod_eq_of_lt h, Nat.add_mul_div_left _ _ (by decide), Nat.div_eq_of_lt h, Nat.zero_add];rw [List.replicate_succ', List.append_assoc, List.set_append_right _ _ (by simp)]
 simp

/-! ### Bits moved up -/
theorem ml {a : List Nat} (ha : wOK a) (n : Nat) (i : Nat) :
  wv (a.take (i + 1)) * 2 ^ n / 4294967296 ^ i = wv (a.take i) * 2 ^ n / 4294967296 ^ i + a.getD i 0 * 2 ^ n /\ wv (a.take i) * 2 ^ n / 4294967296 ^ i < 2 ^ n := by
 refine ⟨?_, ?_⟩
 ·rw [bF]
  have : (wv (a.take i) + a.getD i 0 * 4294967296 ^ i) * 2 ^ n = wv (a.take i) * 2 ^ n + (a.getD i 0 * 2 ^ n) * 4294967296 ^ i := by grind
  rw [this, Nat.add_mul_div_right _ _ (pow_pos i)]
 ·rw [Nat.div_lt_iff_lt_mul (pow_pos i), Nat.mul_comm (2 ^ n)];exact Nat.mul_lt_mul_of_pos_right (bA ha i) (Nat.two_pow_pos n)

theorem uE {a : List Nat} (ha : wOK a) {n : Nat} (hn : n <= 31) (i : Nat) : wv (a.take i) * 2 ^ n < 4294967296 ^ (i + 1) := by
 have h1 := bA ha i
 have h2 : 2 ^ n <= 4294967296 := Nat.le_trans (Nat.pow_le_pow_right (by decide) hn) (by decide)
 have h3 : wv (a.take i) * 2 ^ n <= wv (a.take i) * 4294967296 := Nat.mul_le_mul_left _ h2
 have h4 : wv (a.take i) * 4294967296 < 4294967296 ^ i * 4294967296 := Nat.mul_lt_mul_of_pos_right h1 (by decide)
 rw [Nat.pow_succ]; omega
theorem pS {a : List Nat} (ha : wOK a) {n : Nat} (hn : n <= 31) {i : Nat} (hi : i < a.length) :
  (aZ (a.length + 1) (wv (a.take i) * 2 ^ n)).getD i 0 = wv (a.take i) * 2 ^ n / 4294967296 ^ i /\ (aZ (a.length + 1) (wv (a.take i) * 2 ^ n)).getD (i + 1) 0 = 0 /\
   wv (aZ (a.length + 1) (wv (a.take i) * 2 ^ n)) = wv (a.take i) * 2 ^ n := by
 have h1 := uE ha hn i
 have h2 : 4294967296 ^ (i + 1) <= 4294967296 ^ (a.length + 1) := Nat.pow_le_pow_right (by decide) (by omega)
 have h3 := (ml ha n i).2
 have h4 : 2 ^ n <= 4294967296 := Nat.le_trans (Nat.pow_le_pow_right (by decide) hn) (by decide)
 have hv : wv (aZ (a.length + 1) (wv (a.take i) * 2 ^ n)) = wv (a.take i) * 2 ^ n := by rw [bN, Nat.mod_eq_of_lt (by omega)]
 refine ⟨?_, ?_, hv⟩
 ·rw [lY (bz _ _), hv, Nat.mod_eq_of_lt (by omega)]
 ·rw [lY (bz _ _), hv, Nat.div_eq_of_lt h1]
theorem xu {a : List Nat} (ha : wOK a) {n : Nat} (hn : n <= 31) {i : Nat} (hi : i < a.length) :
  ((aZ (a.length + 1) (wv (a.take i) * 2 ^ n)).set i (wv (a.take i) * 2 ^ n / 4294967296 ^ i + a.getD i 0 * 2 ^ n % 4294967296)).set (i + 1) (a.getD i 0 * 2 ^ n / 4294967296) = aZ (a.length + 1) (wv (a.take (i + 1)) * 2 ^ n) /\
   wv (a.take i) * 2 ^ n / 4294967296 ^ i + a.getD i 0 * 2 ^ n % 4294967296 < 4294967296 := by
 obtain ⟨h1, h2, h3⟩ := pS ha hn hi
 have hd : a.getD i 0 * 2 ^ n % 4294967296 % 2 ^ n = 0 := by
  have : 4294967296 = 2 ^ n * 2 ^ (32 - n) := by rw [<- Nat.pow_add, show n + (32 - n) = 32 from by omega]
  rw [this, Nat.mul_comm (a.getD i 0), Nat.mul_mod_mul_left, Nat.mul_mod_right]
 have hlow : a.getD i 0 * 2 ^ n % 4294967296 < 4294967296 := Nat.mod_lt _ (by decide)
 have hsm := (ml ha n i).2
 have hfit : wv (a.take i) * 2 ^ n / 4294967296 ^ i + a.getD i 0 * 2 ^ n % 4294967296 < 4294967296 := by
  have e : 4294967296 = 2 ^ n * 2 ^ (32 - n) := by rw [<- Nat.pow_add, show n + (32 - n) = 32 from by omega]
  obtain ⟨q, hq⟩ := Nat.dvd_of_mod_eq_zero hd
  rw [hq] at hlow ⊢
  have h5 : q < 2 ^ (32 - n) := Nat.lt_of_mul_lt_mul_left (a := 2 ^ n) (by rw [<- e]; exact hlow)
  have h6 : 2 ^ n * (q + 1) <= 2 ^ n * 2 ^ (32 - n) := Nat.mul_le_mul_left _ h5
  rw [<- e, Nat.mul_succ] at h6
  omega
 refine ⟨?_, hfit⟩
 have hhi : a.getD i 0 * 2 ^ n / 4294967296 < 4294967296 := by
  have := aW ha i
  have h4 : 2 ^ n <= 4294967296 := Nat.le_trans (Nat.pow_le_pow_right (by decide) hn) (by decide)
  rw [Nat.div_lt_iff_lt_mul (by decide)]
  calc a.getD i 0 * 2 ^ n <= a.getD i 0 * 4294967296 := Nat.mul_le_mul_left _ h4
   _ < 4294967296 * 4294967296 := Nat.mul_lt_mul_of_pos_right this (by decide)
 have hl : (aZ (a.length + 1) (wv (a.take i) * 2 ^ n)).length = a.length + 1 := aD _ _
 refine gG (((bz _ _).set _ hfit).set _ hhi) (by simp [aD]) ?_
 have s1 := e9 (a := aZ (a.length + 1) (wv (a.take i) * 2 ^ n)) (i := i) (by omega) (wv (a.take i) * 2 ^ n / 4294967296 ^ i + a.getD i 0 * 2 ^ n % 4294967296)
 have s2 := e9 (a := (aZ (a.length + 1) (wv (a.take i) * 2 ^ n)).set i (wv (a.take i) * 2 ^ n / 4294967296 ^ i + a.getD i 0 * 2 ^ n % 4294967296)) (i := i + 1) (by rw [List.length_set]; omega) (a.getD i 0 * 2 ^ n / 4294967296)
 rw [gF _ _ _ _ (by omega), if_neg (by omega), h2] at s2;rw [h1, h3] at s1;rw [bF]
 have hdm := Nat.div_add_mod (a.getD i 0 * 2 ^ n) 4294967296
 rw [Nat.pow_succ] at s2
 have e3 : (wv (a.take i) + a.getD i 0 * 4294967296 ^ i) * 2 ^ n = wv (a.take i) * 2 ^ n + (a.getD i 0 * 2 ^ n) * 4294967296 ^ i := by grind
 simp only [Nat.zero_mul, Nat.add_zero] at s2;rw [e3, s2];generalize a.getD i 0 * 2 ^ n / 4294967296 = hi' at *;generalize a.getD i 0 * 2 ^ n % 4294967296 = lo' at *;generalize a.getD i 0 * 2 ^ n = t at *
 have e4 : t * 4294967296 ^ i = hi' * (4294967296 ^ i * 4294967296) + lo' * 4294967296 ^ i := by rw [<- hdm]; grind
 rw [e4];rw [Nat.add_mul] at s1
 omega

/-! ### Long division: the guess of a digit -/
theorem rB {U V g rest top v1 v2 u2 w : Nat} (hV : (v1 * 4294967296 + v2) * w <= V) (hU : U < (top * 4294967296 + u2 + 1) * w)
  (he : g * v1 + rest = top) (h : rest * 4294967296 + u2 < g * v2) : U < g * V := by
 have h1 : g * ((v1 * 4294967296 + v2) * w) <= g * V := Nat.mul_le_mul_left _ hV
 have h2 : (top * 4294967296 + u2 + 1) * w <= g * ((v1 * 4294967296 + v2) * w) := by
  rw [<- Nat.mul_assoc];refine Nat.mul_le_mul_right _ ?_
  subst he
  have : g * (v1 * 4294967296 + v2) = g * v1 * 4294967296 + g * v2 := by grind
  rw [this]; omega
 omega
theorem mI {U V g rest top v1 v2 u2 w : Nat} (hV : (v1 * 4294967296 + v2) * w <= V) (hV' : V < (v1 * 4294967296 + v2 + 1) * w) (hU : (top * 4294967296 + u2) * w <= U)
  (he : g * v1 + rest = top) (hg : g < 4294967296) (h1 : 2147483648 <= v1) (h2 : v2 < 4294967296) (h : g * v2 <= rest * 4294967296 + u2 \/ 4294967296 <= rest) : g * V <= U + V := by
 have e : g * (v1 * 4294967296 + v2) <= top * 4294967296 + u2 := by
  have e1 : g * (v1 * 4294967296 + v2) = g * v1 * 4294967296 + g * v2 := by grind
  rw [e1]
  rcases h with h | h
  ·subst he; omega
  ·have : g * v2 <= 4294967296 * 4294967296 := Nat.mul_le_mul (by omega) (by omega)
   subst he
   omega
 have e2 : g * V <= g * ((v1 * 4294967296 + v2 + 1) * w) := Nat.mul_le_mul_left _ (by omega)
 have e3 : g * ((v1 * 4294967296 + v2 + 1) * w) = g * (v1 * 4294967296 + v2) * w + g * w := by grind
 have e4 : g * (v1 * 4294967296 + v2) * w <= (top * 4294967296 + u2) * w := Nat.mul_le_mul_right _ e
 have e5 : g * w <= (v1 * 4294967296 + v2) * w := Nat.mul_le_mul_right _ (by omega)
 omega
end Go.Proofs.YtnoildlijhapaaaGreatDoor

/- Words: long division, as plain laws. No condition. -/
namespace Go.Proofs.YtnoildlijhapaaaGreatDoor

theorem lE {a : List Nat} (h : wOK a) (m : Nat) : wv (a.drop m) = wv a / 4294967296 ^ m := by
 rw [gC a m, Nat.add_mul_div_left _ _ (pow_pos m), Nat.div_eq_of_lt (bA h m), Nat.zero_add]
theorem pJ {a : List Nat} (h : wOK a) (m : Nat) : wv (a.take m) = wv a % 4294967296 ^ m := by
 rw [gC a m, Nat.add_mul_mod_self_left, Nat.mod_eq_of_lt (bA h m)]

structure WMS (u v : List Nat) (g j i : Nat) (u' : List Nat) (c b : Nat) : Prop where
 ok : wOK u'
 len : u'.length = u.length
 lo : u'.take j = u.take j
 hi : u'.drop (j + i) = u.drop (j + i)
 val : wv u' + g * wv (v.take i) * 4294967296 ^ j = wv u + (c + b) * 4294967296 ^ (j + i)
 cl : c < 4294967296
 bl : b <= 1
theorem WMS.start {u : List Nat} (hu : wOK u) (v : List Nat) (g j : Nat) : WMS u v g j 0 u 0 0 :=
 ⟨hu, rfl, rfl, rfl, by simp [wv], by decide, by decide⟩
theorem WMS.bound {u v : List Nat} (hv : wOK v) {g j i : Nat} {u' : List Nat} {c b : Nat} (h : WMS u v g j i u' c b) (hg : g < 4294967296) : g * v.getD i 0 + c < 18446744073709551616 := by
 have h1 := aW hv i
 have h2 := h.cl
 have : g * v.getD i 0 <= 4294967295 * 4294967295 := Nat.mul_le_mul (by omega) (by omega)
 omega
theorem WMS.step {u v : List Nat} (hv : wOK v) {g j i : Nat} {u' : List Nat} {c b : Nat} (h : WMS u v g j i u' c b) (hg : g < 4294967296) (hi : j + i < u.length) :
  WMS u v g j (i + 1) (u'.set (j + i) ((u'.getD (j + i) 0 + 8589934592 - (g * v.getD i 0 + c) % 4294967296 - b) % 4294967296)) ((g * v.getD i 0 + c) / 4294967296)
   (if u'.getD (j + i) 0 < (g * v.getD i 0 + c) % 4294967296 + b then 1 else 0) := by
 have hB := h.bound hv hg
 have hlt : j + i < u'.length := by rw [h.len]; exact hi
 have hx := aW h.ok (j + i)
 have hs := e9 hlt ((u'.getD (j + i) 0 + 8589934592 - (g * v.getD i 0 + c) % 4294967296 - b) % 4294967296)
 have hval := h.val
 have hbl := h.bl
 have hd := Nat.div_add_mod (g * v.getD i 0 + c) 4294967296
 have hr : (g * v.getD i 0 + c) % 4294967296 < 4294967296 := Nat.mod_lt _ (by decide)
 have hdig : (u'.getD (j + i) 0 + 8589934592 - (g * v.getD i 0 + c) % 4294967296 - b) % 4294967296 + (g * v.getD i 0 + c) % 4294967296 + b =
   u'.getD (j + i) 0 + 4294967296 * (if u'.getD (j + i) 0 < (g * v.getD i 0 + c) % 4294967296 + b then 1 else 0) := by split <;> omega
 refine ⟨h.ok.set _ (Nat.mod_lt _ (by decide)), by rw [List.length_set]; exact h.len, ?_, ?_, ?_, by omega, by split <;> omega⟩
 ·rw [List.take_set_of_le (by omega)]; exact h.lo
 ·rw [List.drop_set_of_lt (by omega)]
  have := congrArg (List.drop 1) h.hi
  rwa [List.drop_drop, List.drop_drop] at this
 ·rw [bF, show j + (i + 1) = j + i + 1 from by omega, Nat.pow_succ];generalize (if u'.getD (j + i) 0 < (g * v.getD i 0 + c) % 4294967296 + b then 1 else 0) = b' at *;generalize (u'.getD (j + i) 0 + 8589934592 - (g * v.getD i 0 + c) % 4294967296 - b) % 4294967296 = y at *;generalize (g * v.getD i 0 + c) / 4294967296 = q at *;generalize (g * v.getD i 0 + c) % 4294967296 = r at *;generalize wv (u'.set (j + i) y) = o' at *;generalize u'.getD (j + i) 0 = x at *;rw [Nat.pow_add] at *;generalize 4294967296 ^ i = p at *;generalize 4294967296 ^ j = p' at *;clear hx hlt hB hr hbl
  have h1 : (y + r + b) * (p' * p) = (x + 4294967296 * b') * (p' * p) := by rw [hdig]
  have h2 : (4294967296 * q + r) * (p' * p) = (g * v.getD i 0 + c) * (p' * p) := by rw [hd]
  grind

structure WAB (u v : List Nat) (j i : Nat) (u' : List Nat) (c : Nat) : Prop where
 ok : wOK u'
 len : u'.length = u.length
 lo : u'.take j = u.take j
 hi : u'.drop (j + i) = u.drop (j + i)
 val : wv u' + c * 4294967296 ^ (j + i) = wv u + wv (v.take i) * 4294967296 ^ j
 cl : c <= 1
theorem WAB.start {u : List Nat} (hu : wOK u) (v : List Nat) (j : Nat) : WAB u v j 0 u 0 := ⟨hu, rfl, rfl, rfl, by simp [wv], by decide⟩
theorem WAB.step {u v : List Nat} (hv : wOK v) {j i : Nat} {u' : List Nat} {c : Nat} (h : WAB u v j i u' c) (hi : j + i < u.length) :
  WAB u v j (i + 1) (u'.set (j + i) ((u'.getD (j + i) 0 + v.getD i 0 + c) % 4294967296)) ((u'.getD (j + i) 0 + v.getD i 0 + c) / 4294967296) := by
 have hlt : j + i < u'.length := by rw [h.len]; exact hi
 have hx := aW h.ok (j + i)
 have hy := aW hv i
 have hcl := h.cl
 have hs := e9 hlt ((u'.getD (j + i) 0 + v.getD i 0 + c) % 4294967296)
 have hval := h.val
 have hd := Nat.div_add_mod (u'.getD (j + i) 0 + v.getD i 0 + c) 4294967296
 refine ⟨h.ok.set _ (Nat.mod_lt _ (by decide)), by rw [List.length_set]; exact h.len, ?_, ?_, ?_, by omega⟩
 ·rw [List.take_set_of_le (by omega)]; exact h.lo
 ·rw [List.drop_set_of_lt (by omega)]
  have := congrArg (List.drop 1) h.hi
  rwa [List.drop_drop, List.drop_drop] at this
 ·rw [bF, show j + (i + 1) = j + i + 1 from by omega, Nat.pow_succ];generalize (u'.getD (j + i) 0 + v.getD i 0 + c) / 4294967296 = q at *;generalize (u'.getD (j + i) 0 + v.getD i 0 + c) % 4294967296 = r at *;generalize wv (u'.set (j + i) r) = o' at *;generalize u'.getD (j + i) 0 = x at *;rw [Nat.pow_add] at *;generalize 4294967296 ^ i = p at *;generalize 4294967296 ^ j = p' at *;clear hx hlt hcl hy
  have h2 : (4294967296 * q + r) * (p' * p) = (x + v.getD i 0 + c) * (p' * p) := by rw [hd]
  grind

theorem gn {u u' : List Nat} (ho : wOK u) (h : wOK u') {m : Nat} (hd : u'.drop m = u.drop m) (hu : wv u < 4294967296 ^ m) : wv u' < 4294967296 ^ m := by
 rw [gC u' m, hd, lE ho, Nat.div_eq_of_lt hu, Nat.mul_zero, Nat.add_zero];exact bA h m
theorem pL (u : List Nat) (j : Nat) : wv u = wv (u.take j) + 4294967296 ^ j * wv (u.drop j) := gC u j

theorem WMS.fits {u v : List Nat} {g j : Nat} {u' : List Nat} (h : WMS u v g j (v.length + 1) u' 0 0) (hD : wv (u.drop j) < (g + 1) * wv v) :
  g = wv (u.drop j) / wv v /\ wv (u'.drop j) = wv (u.drop j) % wv v /\ wv u' + g * wv v * 4294967296 ^ j = wv u := by
 have hval := h.val
 rw [List.take_of_length_le (by omega)] at hval;simp only [Nat.zero_mul, Nat.add_zero] at hval
 have h1 := pL u' j
 have h2 := pL u j
 rw [h.lo] at h1
 have key : wv (u'.drop j) + g * wv v = wv (u.drop j) := by
  have hp := pow_pos j
  refine Nat.eq_of_mul_eq_mul_left hp ?_
  have : 4294967296 ^ j * (wv (u'.drop j) + g * wv v) = 4294967296 ^ j * wv (u'.drop j) + g * wv v * 4294967296 ^ j := by grind
  rw [this]; omega
 have hlt : wv (u'.drop j) < wv v := by rw [Nat.add_mul] at hD; omega
 refine ⟨?_, ?_, hval⟩
 ·rw [<- key, Nat.add_mul_div_right _ _ (by omega), Nat.div_eq_of_lt hlt, Nat.zero_add]
 ·rw [<- key, Nat.add_mul_mod_self_right, Nat.mod_eq_of_lt hlt]
theorem WAB.fits {u v : List Nat} (hu : wOK u) {g j : Nat} {u' u'' : List Nat} {c : Nat} (h : WMS u v (g + 1) j (v.length + 1) u' 0 1) (k : WAB u' v j (v.length + 1) u'' c)
  (hU : wv u < 4294967296 ^ (j + (v.length + 1))) (hD : (g + 1) * wv v <= wv (u.drop j) + wv v) (hV : 0 < wv v) :
  g = wv (u.drop j) / wv v /\ wv (u''.drop j) = wv (u.drop j) % wv v /\ wv u'' + g * wv v * 4294967296 ^ j = wv u := by
 have hval := h.val
 have kval := k.val
 rw [List.take_of_length_le (by omega)] at hval kval
 have hl' := gn hu h.ok h.hi hU
 have hl'' := gn h.ok k.ok k.hi hl'
 have h1 := pL u' j
 have h2 := pL u j
 have h3 := pL u'' j
 rw [k.lo] at h3;rw [h.lo] at h1 h3
 have hcl := k.cl
 have hgd : 4294967296 ^ j * ((g + 1) * wv v) <= 4294967296 ^ j * (wv (u.drop j) + wv v) := Nat.mul_le_mul_left _ hD
 have e1 : 4294967296 ^ j * ((g + 1) * wv v) = g * wv v * 4294967296 ^ j + wv v * 4294967296 ^ j := by grind
 have e2 : 4294967296 ^ j * (wv (u.drop j) + wv v) = 4294967296 ^ j * wv (u.drop j) + wv v * 4294967296 ^ j := by grind
 have e3 : (g + 1) * wv v * 4294967296 ^ j = g * wv v * 4294967296 ^ j + wv v * 4294967296 ^ j := by grind
 rw [e3] at hval
 have hVp : 0 < wv v * 4294967296 ^ j := Nat.mul_pos hV (pow_pos j)
 have hc : c = 1 := by
  rcases Nat.lt_or_ge c 1 with h' | h'
  ·have : c = 0 := by omega
   subst this
   simp only [Nat.zero_mul, Nat.add_zero, Nat.zero_add, Nat.one_mul] at hval kval
   omega
  ·omega
 subst hc
 simp only [Nat.zero_add, Nat.one_mul] at hval kval
 have hval2 : wv u'' + g * wv v * 4294967296 ^ j = wv u := by omega
 have key : wv (u''.drop j) + g * wv v = wv (u.drop j) := by
  refine Nat.eq_of_mul_eq_mul_left (pow_pos j) ?_
  have : 4294967296 ^ j * (wv (u''.drop j) + g * wv v) = 4294967296 ^ j * wv (u''.drop j) + g * wv v * 4294967296 ^ j := by grind
  rw [this]; omega
 have hlt : wv (u''.drop j) < wv v := by
  have hb : wv u < (g + 1) * wv v * 4294967296 ^ j := by rw [e3]; omega
  have : wv u'' < wv v * 4294967296 ^ j := by rw [e3] at hb; omega
  rw [h3] at this
  have h5 : 4294967296 ^ j * wv (u''.drop j) < 4294967296 ^ j * wv v := by rw [Nat.mul_comm _ (wv v)]; omega
  exact Nat.lt_of_mul_lt_mul_left h5
 refine ⟨?_, ?_, hval2⟩
 ·rw [<- key, Nat.add_mul_div_right _ _ hV, Nat.div_eq_of_lt hlt, Nat.zero_add]
 ·rw [<- key, Nat.add_mul_mod_self_right, Nat.mod_eq_of_lt hlt]

structure WDV (U V L k : Nat) (u q : List Nat) (n : Nat) : Prop where
 oku : wOK u
 okq : wOK q
 lenu : u.length = L
 lenq : q.length + k = L
 top : wv (u.drop n) < V
 val : wv u + V * wv q = U
 qz : ∀ m, m < n -> q.getD m 0 = 0
theorem WDV.start {u : List Nat} (hu : wOK u) {V k n : Nat} (hn : n + k = u.length) (ht : wv (u.drop n) < V) : WDV (wv u) V u.length k u (List.replicate n 0) n :=
 ⟨hu, wOK.rep0 _, rfl, by simpa using hn, ht, by rw [jE]; omega, fun m _ => jD (wOK.rep0 _) (jE _) m⟩
theorem WDV.step {U V L k : Nat} {u q u' : List Nat} {n g : Nat} (h : WDV U V L k u q (n + 1)) (hu' : wOK u') (hl : u'.length = u.length) (hn : n < q.length)
  (hr : wv (u'.drop n) = wv (u.drop n) % V) (hv : wv u' + g * V * 4294967296 ^ n = wv u) (hgl : g < 4294967296) (hV : 0 < V) : WDV U V L k u' (q.set n g) n := by
 have hs := e9 hn g
 rw [h.qz n (by omega)] at hs;refine ⟨hu', h.okq.set _ hgl, by rw [hl]; exact h.lenu, by rw [List.length_set]; exact h.lenq, by rw [hr]; exact Nat.mod_lt _ hV, ?_, fun m hm => ?_⟩
 ·have := h.val
  simp only [Nat.zero_mul, Nat.add_zero] at hs;rw [hs, Nat.mul_add, <- this, <- hv]
  grind
 ·rw [gF _ _ _ _ hn, if_neg (by omega)]; exact h.qz m (by omega)
theorem WDV.fin {U V L k : Nat} {u q : List Nat} (h : WDV U V L k u q 0) (hV : 0 < V) : wv u = U % V /\ wv q = U / V := by
 have h1 := h.top
 have h2 := h.val
 simp only [List.drop_zero] at h1
 constructor
 ·rw [<- h2, Nat.add_mul_mod_self_left, Nat.mod_eq_of_lt h1]
 ·rw [<- h2, Nat.add_mul_div_left _ _ hV, Nat.div_eq_of_lt h1, Nat.zero_add]
theorem WDV.digits {U L : Nat} {v u q : List Nat} {n : Nat} (hv : wOK v) (h : WDV U (wv v) L v.length u q (n + 1)) (hk : 2 <= v.length) :
  wv v = (v.getD (v.length - 1) 0 * 4294967296 + v.getD (v.length - 2) 0) * 4294967296 ^ (v.length - 2) + wv (v.take (v.length - 2)) /\
  wv (u.drop n) = ((u.getD (n + v.length) 0 * 4294967296 + u.getD (n + v.length - 1) 0) * 4294967296 + u.getD (n + v.length - 2) 0) * 4294967296 ^ (v.length - 2) + wv ((u.drop n).take (v.length - 2)) /\
  wv (v.take (v.length - 2)) < 4294967296 ^ (v.length - 2) /\ wv ((u.drop n).take (v.length - 2)) < 4294967296 ^ (v.length - 2) /\
  wv u < 4294967296 ^ (n + (v.length + 1)) := by
 obtain ⟨k, hk'⟩ : ∃ k, v.length = k + 2 := ⟨v.length - 2, by omega⟩
 have ht := h.top
 have hvl := eO hv
 have hud : wOK (u.drop n) := h.oku.drop n
 have hU : wv u < 4294967296 ^ (n + (v.length + 1)) := by
  rw [gC u (n + 1)]
  have h1 := bA h.oku (n + 1)
  have h2 : wv (u.drop (n + 1)) + 1 <= 4294967296 ^ v.length := by omega
  have h3 := Nat.mul_le_mul_left (4294967296 ^ (n + 1)) h2
  rw [<- Nat.pow_add] at h3;rw [show n + (v.length + 1) = n + 1 + v.length from by omega];rw [Nat.mul_add] at h3
  omega
 refine ⟨?_, ?_, bA hv _, bA hud _, hU⟩
 ·rw [hk', show k + 2 - 1 = k + 1 from by omega, show k + 2 - 2 = k from by omega]
  have e1 := bF v (k + 1)
  rw [List.take_of_length_le (by omega), bF v k] at e1;rw [e1, Nat.pow_succ]; grind
 ·rw [hk', show n + (k + 2) - 1 = n + (k + 1) from by omega, show n + (k + 2) - 2 = n + k from by omega]
  have e0 : wv ((u.drop n).take (k + 2 + 1)) = wv (u.drop n) := by
   rw [pJ hud, Nat.mod_eq_of_lt];rw [lE h.oku, Nat.div_lt_iff_lt_mul (pow_pos n), <- Nat.pow_add];rw [hk', show n + (k + 2 + 1) = k + 2 + 1 + n from by omega] at hU;exact hU
  have e1 := bF (u.drop n) (k + 2)
  rw [e0, bF _ (k + 1), bF _ k, jl, jl, jl] at e1;rw [show k + 2 - 2 = k from by omega, e1, Nat.pow_succ, Nat.pow_succ]
  grind
theorem qt {v : List Nat} {i : Nat} (h : v.length <= i) : v.getD i 0 = 0 := by rw [List.getD_eq_getElem?_getD, List.getElem?_eq_none h]; rfl
theorem WMS.last {u v : List Nat} (hv : wOK v) {g j : Nat} {u' : List Nat} {c b : Nat} (h : WMS u v g j v.length u' c b) (hg : g < 4294967296) (hi : j + v.length < u.length) :
  WMS u v g j (v.length + 1) (u'.set (j + v.length) ((u'.getD (j + v.length) 0 + 8589934592 - c - b) % 4294967296)) 0 (if u'.getD (j + v.length) 0 < c + b then 1 else 0) := by
 have := h.step hv hg hi
 have hc := h.cl
 rw [qt (Nat.le_refl _), Nat.mul_zero, Nat.zero_add, Nat.mod_eq_of_lt hc, Nat.div_eq_of_lt hc] at this;exact this
theorem WMS.pos {u v : List Nat} (hu : wOK u) {g j : Nat} {u' : List Nat} (h : WMS u v g j (v.length + 1) u' 0 1) (hU : wv u < 4294967296 ^ (j + (v.length + 1))) : 0 < g := by
 rcases Nat.eq_zero_or_pos g with h0 | h0
 ·subst h0
  have h1 := gn hu h.ok h.hi hU
  have h2 := h.val
  simp only [Nat.zero_mul, Nat.add_zero, Nat.zero_add, Nat.one_mul] at h2
  omega
 ·exact h0
theorem WAB.last {u v : List Nat} (hv : wOK v) {j : Nat} {u' : List Nat} {c : Nat} (h : WAB u v j v.length u' c) (hi : j + v.length < u.length) :
  WAB u v j (v.length + 1) (u'.set (j + v.length) ((u'.getD (j + v.length) 0 + c) % 4294967296)) ((u'.getD (j + v.length) 0 + c) / 4294967296) := by
 have := h.step hv hi
 rw [qt (Nat.le_refl _), Nat.add_zero] at this;exact this
theorem qq {U V top v1 v2 u2 w : Nat} (hV : (v1 * 4294967296 + v2) * w <= V) (hU : U < (top * 4294967296 + u2 + 1) * w) (h1 : 0 < v1) (h2 : u2 < 4294967296) : U < (top / v1 + 1) * V := by
 have hd := Nat.div_add_mod top v1
 have hm := Nat.mod_lt top h1
 have e1 : (top / v1 + 1) * ((v1 * 4294967296 + v2) * w) <= (top / v1 + 1) * V := Nat.mul_le_mul_left _ hV
 have e2 : (top * 4294967296 + u2 + 1) * w <= (top / v1 + 1) * ((v1 * 4294967296 + v2) * w) := by
  rw [<- Nat.mul_assoc];refine Nat.mul_le_mul_right _ ?_;generalize top / v1 = g at *
  have e3 : (g + 1) * (v1 * 4294967296 + v2) = (v1 * g + v1) * 4294967296 + (g + 1) * v2 := by grind
  rw [e3]; omega
 omega
theorem sZ (k n : Nat) : (aZ (k + 1) n).take k = aZ k n := by
 rw [iV, List.take_append_of_le_length (by rw [aD]; omega), List.take_of_length_le (by rw [aD]; omega)]
theorem nI {k m : Nat} (n : Nat) (h : m < k) : (aZ k n).getD m 0 = n / 4294967296 ^ m % 4294967296 := by
 rw [lY (bz _ _), bN]
 obtain ⟨d, rfl⟩ : ∃ d, k = m + (d + 1) := ⟨k - m - 1, by omega⟩
 rw [Nat.pow_add, Nat.mod_mul, Nat.add_mul_div_left _ _ (pow_pos m), Nat.div_eq_of_lt (Nat.mod_lt _ (pow_pos m)), Nat.zero_add, Nat.pow_succ, Nat.mul_comm _ 4294967296, Nat.mod_mul_right_mod]
theorem tC {a b : List Nat} (hl : a.length = b.length) (h : ∀ m, m < a.length -> a.getD m 0 = b.getD m 0) : a = b := by
 apply List.ext_getElem hl
 intro i h1 h2
 have := h i h1
 rwa [cq h1, cq h2] at this
theorem s6 {u : List Nat} {n : Nat} (hn : n <= 31) (i : Nat) (hu : wOK u) : (u.getD (i + 1) 0 * 4294967296 + u.getD i 0) / 2 ^ n % 4294967296 = wv u / 2 ^ n / 4294967296 ^ i % 4294967296 := by
 rw [Nat.div_div_eq_div_mul, Nat.mul_comm (2 ^ n), <- Nat.div_div_eq_div_mul, <- lE hu, eG, eG]
 have e : 4294967296 = 2 ^ n * 2 ^ (32 - n) := by rw [<- Nat.pow_add, show n + (32 - n) = 32 from by omega]
 have e1 : u.getD i 0 + 4294967296 * (u.getD (i + 1) 0 + 4294967296 * wv (u.drop (i + 1 + 1))) = (u.getD (i + 1) 0 * 4294967296 + u.getD i 0) + 2 ^ n * (4294967296 * (2 ^ (32 - n) * wv (u.drop (i + 1 + 1)))) := by
  generalize wv (u.drop (i + 1 + 1)) = z
  have : 2 ^ n * (4294967296 * (2 ^ (32 - n) * z)) = 4294967296 * ((2 ^ n * 2 ^ (32 - n)) * z) := by grind
  rw [this, <- e]; omega
 rw [e1, Nat.add_mul_div_left _ _ (Nat.two_pow_pos n), Nat.add_mul_mod_self_left]
def lA (a b : List Nat) : List Nat := if wv a < wv b then [] else if b.length = 1 then aZ a.length (wv a / wv b) else aZ (a.length + 1 - b.length) (wv a / wv b)
def ly (a b : List Nat) : List Nat := if wv a < wv b then a else if b.length = 1 then [wv a % wv b] else aZ b.length (wv a % wv b)
theorem yj (a b : List Nat) : wOK (lA a b) := by
 unfold lA; split
 ·exact wOK.nil
 ·split <;> exact bz _ _
theorem wz (a b : List Nat) : (lA a b).length <= a.length + 1 := by
 unfold lA; split
 ·simp
 ·split <;> rw [aD] <;> omega
theorem yg {a b : List Nat} (ha : wOK a) (hb : wOK b) (hn : b ≠ []) (t : jI b) : wOK (ly a b) := by
 unfold ly; split
 ·exact ha
 ·split
  ·refine wOK.one ?_
   have h1 := jF t hn
   have h2 := eO hb
   rename_i h3
   have h4 : 0 < wv b := Nat.lt_of_lt_of_le (pow_pos _) h1
   rw [h3, Nat.pow_one] at h2;exact Nat.lt_trans (Nat.mod_lt _ h4) h2
  ·exact bz _ _
theorem wy (a b : List Nat) : (ly a b).length <= a.length + b.length := by
 unfold ly; split
 ·omega
 ·split
  ·simp; omega
  ·rw [aD]; omega
theorem yf {a b : List Nat} (hb : wOK b) (hn : b ≠ []) (t : jI b) : wv (ly a b) = wv a % wv b := by
 have h1 := jF t hn
 have h4 : 0 < wv b := Nat.lt_of_lt_of_le (pow_pos _) h1
 unfold ly; split
 ·rename_i h; rw [Nat.mod_eq_of_lt h]
 ·split
  ·simp [wv]
  ·rw [bN, Nat.mod_eq_of_lt];exact Nat.lt_trans (Nat.mod_lt _ h4) (eO hb)
theorem yh {a b : List Nat} (ha : wOK a) (hn : b ≠ []) (t : jI b) : wv (lA a b) = wv a / wv b := by
 have h1 := jF t hn
 have h4 : 0 < wv b := Nat.lt_of_lt_of_le (pow_pos _) h1
 have h2 := eO ha
 unfold lA; split
 ·rename_i h; rw [Nat.div_eq_of_lt h]; rfl
 ·rename_i h
  split
  ·rw [bN, Nat.mod_eq_of_lt];exact Nat.lt_of_le_of_lt (Nat.div_le_self _ _) h2
  ·rw [bN, Nat.mod_eq_of_lt];rw [Nat.div_lt_iff_lt_mul h4]
   have hl : b.length <= a.length + 1 := by
    rcases Nat.lt_or_ge (a.length + 1) b.length with h' | h'
    ·have : 4294967296 ^ a.length <= 4294967296 ^ (b.length - 1) := Nat.pow_le_pow_right (by decide) (by omega)
     omega
    ·exact h'
   have hbl : b.length ≠ 0 := by simpa using hn
   have : 4294967296 ^ (a.length + 1 - b.length) * 4294967296 ^ (b.length - 1) <= 4294967296 ^ (a.length + 1 - b.length) * wv b := Nat.mul_le_mul_left _ h1
   rw [<- Nat.pow_add, show a.length + 1 - b.length + (b.length - 1) = a.length from by omega] at this
   omega
end Go.Proofs.YtnoildlijhapaaaGreatDoor

/- Rationals: numerators and denominators, and how many words they have. No condition. -/
namespace Go.Proofs.YtnoildlijhapaaaGreatDoor

def zl (z : Int) : Nat := wl z.natAbs
theorem oP (z : Int) : zl (-z) = zl z := by unfold zl; rw [Int.natAbs_neg]
theorem bJ (x y : Int) : zl (x * y) <= zl x + zl y := by unfold zl; rw [Int.natAbs_mul]; exact uc _ _
theorem jk (x y : Int) : zl (x + y) <= max (zl x) (zl y) + 1 := by
 unfold zl
 exact Nat.le_trans (df (Int.natAbs_add_le x y)) (yR _ _)
theorem tV (x y : Int) : zl (x - y) <= max (zl x) (zl y) + 1 := by
 have := jk x (-y)
 rwa [oP, <- Int.sub_eq_add_neg] at this
theorem tY (n : Nat) : zl (n : Int) = wl n := by unfold zl; rw [Int.natAbs_natCast]
theorem ub {n : Nat} (h : 0 < n) : 1 <= wl n := by
 unfold wl
 have := List.length_pos_iff.2 (fun h' => by rw [jG] at h'; omega : wof n ≠ [])
 exact this
theorem qW : wl 1 = 1 := by
 have := r8 (n := 1) (k := 1) (by decide)
 have := ub (n := 1) (by decide)
 omega
theorem qU {n : Int} (h : -9223372036854775808 <= n /\ n <= 9223372036854775807) : zl n <= 2 := by
 unfold zl
 exact r8 (by show n.natAbs < 18446744073709551616; omega)

def ql (q : Rat) : Nat := max (zl q.num) (wl q.den)
theorem d8 (q : Rat) : zl q.num <= ql q := Nat.le_max_left _ _
theorem d9 (q : Rat) : zl (q.den : Int) <= ql q := by rw [tY]; exact Nat.le_max_right _ _
theorem ze (q : Rat) : 1 <= ql q := Nat.le_trans (ub (Nat.pos_of_ne_zero q.den_nz)) (Nat.le_max_right _ _)
theorem eX (x : Int) (g : Nat) : (x / (g : Int)).natAbs <= x.natAbs := by
 rcases Nat.eq_zero_or_pos g with h | h
 ·subst h; simp
 ·exact Int.natAbs_ediv_le_natAbs x g
theorem c7 (x y : Int) : ql (Rat.divInt x y) <= max 1 (max (zl x) (zl y)) := by
 unfold ql
 have h1 : zl (Rat.divInt x y).num <= zl x := by
  unfold zl
  refine df ?_;rw [Rat.num_divInt];refine Nat.le_trans (eX _ _) ?_;rw [Int.natAbs_mul]
  have : y.sign.natAbs <= 1 := by
   rcases Int.lt_trichotomy y 0 with h | h | h
   ·rw [Int.sign_eq_neg_one_of_neg h]; decide
   ·subst h; decide
   ·rw [Int.sign_eq_one_of_pos h]; decide
  calc y.sign.natAbs * x.natAbs <= 1 * x.natAbs := Nat.mul_le_mul_right _ this
   _ = x.natAbs := Nat.one_mul _
 have h2 : wl (Rat.divInt x y).den <= max 1 (zl y) := by
  rw [Rat.den_divInt]
  split
  ·rw [qW]; omega
  ·unfold zl
   exact Nat.le_trans (df (Nat.div_le_self _ _)) (Nat.le_max_right _ _)
 omega
theorem ng (a b : Rat) : a + b = Rat.divInt (a.num * b.den + b.num * a.den) ((a.den : Int) * b.den) := by
 rw [Rat.add_def', <- Rat.divInt_ofNat]; rfl
theorem rK (a b : Rat) : a * b = Rat.divInt (a.num * b.num) ((a.den : Int) * b.den) := by
 rw [Rat.mul_def', <- Rat.divInt_ofNat]; rfl
theorem qJ (a : Rat) : Rat.divInt a.num a.den = a := Rat.num_divInt_den a
theorem vd (a b : Rat) : ql (a + b) <= ql a + ql b + 1 := by
 rw [ng];refine Nat.le_trans (c7 _ _) ?_
 have h1 := jk (a.num * b.den) (b.num * a.den)
 have h2 := bJ a.num b.den
 have h3 := bJ b.num a.den
 have h4 := bJ a.den b.den
 have h5 := d8 a
 have h6 := d9 a
 have h7 := d8 b
 have h8 := d9 b
 omega
theorem zf (a b : Rat) : ql (a * b) <= ql a + ql b := by
 rw [rK];refine Nat.le_trans (c7 _ _) ?_
 have h2 := bJ a.num b.num
 have h4 := bJ a.den b.den
 have h5 := d8 a
 have h6 := d9 a
 have h7 := d8 b
 have h8 := d9 b
 have h9 := ze a
 omega
theorem rl (a : Rat) : ql (-a) = ql a := by
 unfold ql
 rw [Rat.neg_num, Rat.neg_den, oP]
theorem zd (a b : Rat) : ql (a - b) <= ql a + ql b + 1 := by
 have := vd a (-b)
 rwa [rl, <- Rat.sub_eq_add_neg] at this
theorem zg (n : Int) : ql (n : Rat) = max (zl n) 1 := by
 unfold ql
 rw [Rat.num_intCast, Rat.den_intCast, qW]
theorem nf (n : Int) : Rat.divInt n 1 = (n : Rat) := by
 rw [Rat.divInt_eq_div]
 show (n : Rat) / ((1 : Int) : Rat) = n
 rw [Rat.intCast_one]
 grind
theorem xP (x y : Int) : (Rat.divInt x y).num = (y.sign * x) / (Int.gcd x y : Int) := by rw [Rat.num_divInt, Int.gcd_comm]
theorem yl {x y : Int} (h : y ≠ 0) : ((Rat.divInt x y).den : Int) = (y.natAbs : Int) / (Int.gcd x y : Int) := by
 rw [Rat.den_divInt, if_neg h, Int.gcd_comm]; rfl
/-! ### Bounds put together -/
theorem ba {a k m : Nat} (h : a <= k) (hk : Nat.ble k m = true) : a <= m := Nat.le_trans h (Nat.le_of_ble_eq_true hk)
theorem cb {x y : Int} {k l : Nat} (hx : zl x <= k) (hy : zl y <= l) : zl (x * y) <= k + l := Nat.le_trans (bJ x y) (Nat.add_le_add hx hy)
theorem j9 {x y : Int} {k : Nat} (hx : zl x <= k) (hy : zl y <= k) : zl (x + y) <= k + 1 := Nat.le_trans (jk x y) (Nat.add_le_add_right (Nat.max_le.2 ⟨hx, hy⟩) 1)
theorem sW {x y : Int} {k : Nat} (hx : zl x <= k) (hy : zl y <= k) : zl (x - y) <= k + 1 := Nat.le_trans (tV x y) (Nat.add_le_add_right (Nat.max_le.2 ⟨hx, hy⟩) 1)
theorem cZ {x y : Rat} {k l : Nat} (hx : ql x <= k) (hy : ql y <= l) : ql (x * y) <= k + l := Nat.le_trans (zf x y) (Nat.add_le_add hx hy)
theorem i6 {x y : Rat} {k l : Nat} (hx : ql x <= k) (hy : ql y <= l) : ql (x + y) <= k + l + 1 := Nat.le_trans (vd x y) (Nat.add_le_add_right (Nat.add_le_add hx hy) 1)
theorem ce {x y : Rat} {k l : Nat} (hx : ql x <= k) (hy : ql y <= l) : ql (x - y) <= k + l + 1 := Nat.le_trans (zd x y) (Nat.add_le_add_right (Nat.add_le_add hx hy) 1)
theorem cv {x : Rat} {k : Nat} (hx : ql x <= k) : zl x.num <= k := Nat.le_trans (d8 x) hx
theorem bZ {x : Rat} {k : Nat} (hx : ql x <= k) : zl (x.den : Int) <= k := Nat.le_trans (d9 x) hx
end Go.Proofs.YtnoildlijhapaaaGreatDoor

/- Rotations as pairs of integers. No condition. -/
namespace Go.Proofs.YtnoildlijhapaaaGreatDoor

def uJ (p q : Int) : Bool := decide (q < 0) || (decide (q = 0) && decide (p < 0))
def rg (p q : Int) : Int := if uJ p q then -(Int.gcd p q : Int) else (Int.gcd p q : Int)
def rP (p q : Int) : Int := if p = 0 /\ q = 0 then 0 else p / rg p q
def rQ (p q : Int) : Int := if p = 0 /\ q = 0 then 1 else q / rg p q

theorem zM {p q : Int} (h : ¬ (p = 0 /\ q = 0)) : (Int.gcd p q : Int) ≠ 0 := by
 intro h'
 have := Int.gcd_eq_zero_iff.1 (by omega : Int.gcd p q = 0)
 exact h this
theorem Au {p q : Int} (h : ¬ (p = 0 /\ q = 0)) : rg p q ≠ 0 := by
 have := zM h
 unfold rg; split <;> omega
theorem uP (p q : Int) : rg p q ∣ p /\ rg p q ∣ q := by
 have h1 : (Int.gcd p q : Int) ∣ p := Int.gcd_dvd_left ..
 have h2 : (Int.gcd p q : Int) ∣ q := Int.gcd_dvd_right ..
 unfold rg
 split
 ·exact ⟨Int.neg_dvd.2 h1, Int.neg_dvd.2 h2⟩
 ·exact ⟨h1, h2⟩
theorem xC {p q : Int} (h : ¬ (p = 0 /\ q = 0)) : rP p q * rg p q = p /\ rQ p q * rg p q = q := by
 unfold rP rQ
 rw [if_neg h, if_neg h];exact ⟨Int.ediv_mul_cancel (uP p q).1, Int.ediv_mul_cancel (uP p q).2⟩
theorem u5 (p q : Int) : ¬ (rP p q = 0 /\ rQ p q = 0) := by
 by_cases h : p = 0 /\ q = 0
 ·unfold rP rQ; rw [if_pos h, if_pos h]; omega
 ·intro h'
  have := xC h
  rw [h'.1, h'.2] at this
  omega
theorem tz (p q : Int) : (rg p q).natAbs = Int.gcd p q := by unfold rg; split <;> omega
theorem kP (x p q : Int) : (x / rg p q).natAbs <= x.natAbs := by
 unfold rg
 split
 ·rw [Int.ediv_neg, Int.natAbs_neg]; exact eX x _
 ·exact eX x _
theorem tX (p q : Int) : zl (rP p q) <= max 1 (zl p) := by
 unfold rP
 split
 ·simp [zl, wl, lZ]
 ·exact Nat.le_trans (df (kP p p q)) (Nat.le_max_right _ _)
theorem tW (p q : Int) : zl (rQ p q) <= max 1 (zl q) := by
 unfold rQ
 split
 ·show wl 1 <= _; rw [qW]; omega
 ·exact Nat.le_trans (df (kP q p q)) (Nat.le_max_right _ _)
theorem pI {p q : Int} {k : Nat} (hk : Nat.ble 1 k = true) (hp : zl p <= k) : zl (rP p q) <= k := Nat.le_trans (tX p q) (Nat.max_le.2 ⟨Nat.le_of_ble_eq_true hk, hp⟩)
theorem pH {p q : Int} {k : Nat} (hk : Nat.ble 1 k = true) (hq : zl q <= k) : zl (rQ p q) <= k := Nat.le_trans (tW p q) (Nat.max_le.2 ⟨Nat.le_of_ble_eq_true hk, hq⟩)
def nj (p q : Int) : Rat := Rat.divInt (rQ p q * rQ p q - rP p q * rP p q) (rQ p q * rQ p q + rP p q * rP p q)
def mi (p q : Int) : Rat := Rat.divInt (rQ p q * rP p q + rP p q * rQ p q) (rQ p q * rQ p q + rP p q * rP p q)
theorem u9 (p q : Int) {k : Nat} (hp : zl p <= k) (hq : zl q <= k) (hk : 1 <= k) : ql (nj p q) <= 2 * k + 1 := by
 have h1 := tX p q
 have h2 := tW p q
 refine Nat.le_trans (c7 _ _) ?_
 have m1 := bJ (rQ p q) (rQ p q)
 have m2 := bJ (rP p q) (rP p q)
 have m3 := tV (rQ p q * rQ p q) (rP p q * rP p q)
 have m4 := jk (rQ p q * rQ p q) (rP p q * rP p q)
 omega
theorem u6 (p q : Int) {k : Nat} (hp : zl p <= k) (hq : zl q <= k) (hk : 1 <= k) : ql (mi p q) <= 2 * k + 1 := by
 have h1 := tX p q
 have h2 := tW p q
 refine Nat.le_trans (c7 _ _) ?_
 have m1 := bJ (rQ p q) (rQ p q)
 have m2 := bJ (rP p q) (rP p q)
 have m5 := bJ (rQ p q) (rP p q)
 have m6 := bJ (rP p q) (rQ p q)
 have m3 := jk (rQ p q * rP p q) (rP p q * rQ p q)
 have m4 := jk (rQ p q * rQ p q) (rP p q * rP p q)
 omega
end Go.Proofs.YtnoildlijhapaaaGreatDoor

/- Roots of a forest over numbers, and the numbers of its trees. No condition. -/
namespace Go.Proofs.YtnoildlijhapaaaGreatDoor

def fnd (r : List Nat) : Nat -> Nat -> Nat
 | 0, v => v
 | k + 1, v => if r.getD v 0 = v then v else fnd r k (r.getD v 0)
def fd (r : List Nat) (v : Nat) : Nat := fnd r v v
def RG (r : List Nat) : Prop := ∀ v, r.getD v 0 <= v
def uni (r : List Nat) (f t : Nat) : List Nat := r.set (max (fd r f) (fd r t)) (min (fd r f) (fd r t))
def num (r : List Nat) : Nat -> List Nat × Nat
 | 0 => ([], 0)
 | v + 1 => if fd r v = v then ((num r v).1 ++ [(num r v).2], (num r v).2 + 1) else ((num r v).1 ++ [(num r v).1.getD (fd r v) 0], (num r v).2)
end Go.Proofs.YtnoildlijhapaaaGreatDoor

/- Components of a graph: the least member of each, by joined trees and by repeated minima. No condition. -/
namespace Go.Proofs.YtnoildlijhapaaaGreatDoor

inductive Cnn (ps : List (Nat × Nat)) : Nat -> Nat -> Prop
 | refl (a : Nat) : Cnn ps a a
 | step {a b c : Nat} (h : Cnn ps a b) (hp : (b, c) ∈ ps \/ (c, b) ∈ ps) : Cnn ps a c
section
variable {ps : List (Nat × Nat)} {a b c : Nat}
theorem Cnn.trans (h : Cnn ps a b) (h' : Cnn ps b c) : Cnn ps a c := by
 induction h' with
 | refl => exact h
 | step _ hp ih => exact .step ih hp
theorem Cnn.one (hp : (a, b) ∈ ps \/ (b, a) ∈ ps) : Cnn ps a b := .step (.refl a) hp
theorem Cnn.symm (h : Cnn ps a b) : Cnn ps b a := by
 induction h with
 | refl => exact .refl _
 | step _ hp ih => exact (Cnn.one hp.symm).trans ih
theorem Cnn.mono {qs : List (Nat × Nat)} (hs : ∀ p ∈ ps, p ∈ qs) (h : Cnn ps a b) : Cnn qs a b := by
 induction h with
 | refl => exact .refl _
 | step _ hp ih => exact .step ih (hp.imp (hs _) (hs _))
theorem Cnn.nil (h : Cnn [] a b) : a = b := by
 induction h with
 | refl => rfl
 | step _ hp _ => rcases hp with hp | hp <;> cases hp
theorem Cnn.lt {n : Nat} (hn : ∀ p ∈ ps, p.1 < n /\ p.2 < n) (h : Cnn ps a b) (ha : a < n) : b < n := by
 induction h with
 | refl => exact ha
 | step _ hp _ => exact hp.elim (fun hp => (hn _ hp).2) (fun hp => (hn _ hp).1)
end

/-! ### By repeated minima -/
end Go.Proofs.YtnoildlijhapaaaGreatDoor

/- Cosine and sine; sums over links. No condition. -/
namespace Go.Proofs.YtnoildlijhapaaaGreatDoor

end Go.Proofs.YtnoildlijhapaaaGreatDoor

/- Rotations as pairs up to a factor. No condition. -/
namespace Go.Proofs.YtnoildlijhapaaaGreatDoor

def nz (a : Int × Int) : Prop := ¬ (a.1 = 0 /\ a.2 = 0)
def Px (a b : Int × Int) : Prop := a.1 * b.2 = b.1 * a.2
def gm (a b : Int × Int) : Int × Int := (a.2 * b.1 + a.1 * b.2, a.2 * b.2 - a.1 * b.1)
theorem Px.refl (a : Int × Int) : Px a a := rfl
theorem Px.symm {a b : Int × Int} (h : Px a b) : Px b a := Eq.symm h
def cs2 (a : Int × Int) : Rat := ((a.2 * a.2 - a.1 * a.1 : Int) : Rat) / ((a.2 * a.2 + a.1 * a.1 : Int) : Rat)
end Go.Proofs.YtnoildlijhapaaaGreatDoor

/- Powers of rotations, their orders; transforms. No condition. -/
namespace Go.Proofs.YtnoildlijhapaaaGreatDoor

abbrev A6 : Int × Int := (0, 1)
def gp (a : Int × Int) : Nat -> Int × Int
 | 0 => A6
 | n + 1 => gm (gp a n) a
def Cn2 (a : Int × Int) : Prop := Nat.Coprime a.1.natAbs a.2.natAbs /\ (0 < a.2 \/ (a.2 = 0 /\ 0 < a.1))
theorem Cn2.nz {a : Int × Int} (h : Cn2 a) : nz a := fun e => by
 rcases h.2 with h | h <;> omega
end Go.Proofs.YtnoildlijhapaaaGreatDoor

/- Which powers are the identity; transforms; marks. No condition. -/
namespace Go.Proofs.YtnoildlijhapaaaGreatDoor

end Go.Proofs.YtnoildlijhapaaaGreatDoor

/- Sums and determinants of rationals. No condition. -/
namespace Go.Proofs.YtnoildlijhapaaaGreatDoor

def sm : Nat -> (Nat -> Rat) -> Rat
 | 0, _ => 0
 | n + 1, f => sm n f + f n
theorem cx {f g : Nat -> Rat} : ∀ {n : Nat}, (∀ i, i < n -> f i = g i) -> sm n f = sm n g
 | 0, _ => rfl
 | n + 1, h => by simp only [sm]; rw [cx (n := n) (fun i hi => h i (by omega)), h n (by omega)]
theorem sc : ∀ n : Nat, sm n (fun _ => 0) = 0
 | 0 => rfl
 | n + 1 => by simp only [sm]; rw [sc n]; grind
theorem pR {n : Nat} {f : Nat -> Rat} (h : ∀ i, i < n -> f i = 0) : sm n f = 0 := by rw [cx h, sc]
theorem mg (x y : Rat) (f g : Nat -> Rat) : ∀ n : Nat, sm n (fun i => x * f i + y * g i) = x * sm n f + y * sm n g
 | 0 => by simp only [sm]; grind
 | n + 1 => by simp only [sm]; rw [mg x y f g n]; grind
theorem uA (f g : Nat -> Rat) (n : Nat) : sm n (fun i => f i + g i) = sm n f + sm n g := by
 have := mg 1 1 f g n
 rw [cx (g := fun i => 1 * f i + 1 * g i) (fun i _ => by grind), this]; grind
theorem y4 (x : Rat) (f : Nat -> Rat) (n : Nat) : sm n (fun i => x * f i) = x * sm n f := by
 have := mg x 0 f f n
 rw [cx (g := fun i => x * f i + 0 * f i) (fun i _ => by grind), this]; grind
theorem q7 {n j : Nat} (f : Nat -> Rat) (hj : j < n) (h : ∀ i, i < n -> i ≠ j -> f i = 0) : sm n f = f j := by
 induction n with
 | zero => omega
 | succ n ih =>
  simp only [sm]
  by_cases hn : j = n
  ·subst hn
   rw [pR (fun i hi => h i (by omega) (by omega))]; grind
  ·rw [ih (by omega) (fun i hi hne => h i (by omega) hne), h n (by omega) (by omega)]; grind
def sk (i k : Nat) : Nat := if k < i then k else k + 1
theorem xr (n : Nat) (f : Nat -> Rat) : sm (n + 1) f = sm n f + f n := rfl
def sgD : Nat -> Rat
 | 0 => 1
 | n + 1 => - sgD n
def nb (r i : Nat) : Nat := if i = r then r + 1 else if i = r + 1 then r else i
end Go.Proofs.YtnoildlijhapaaaGreatDoor

/- Determinants: rows and columns. No condition. -/
namespace Go.Proofs.YtnoildlijhapaaaGreatDoor

def s2 (i l : Nat) : Rat := if l < i then sgD i * sgD l else - (sgD i * sgD l)
def p2 (i l q : Nat) : Nat := if i < l then sk i (sk (l - 1) q) else sk i (sk l q)
end Go.Proofs.YtnoildlijhapaaaGreatDoor

/- Determinants: columns, triangles, minors, Cramer's rule. No condition. -/
namespace Go.Proofs.YtnoildlijhapaaaGreatDoor

def pr : Nat -> (Nat -> Rat) -> Rat
 | 0, _ => 1
 | n + 1, f => f 0 * pr n (fun i => f (i + 1))
end Go.Proofs.YtnoildlijhapaaaGreatDoor

/- The matrix-tree theorem: determinants of Laplacians count spanning forests. No condition. -/
namespace Go.Proofs.YtnoildlijhapaaaGreatDoor

structure WL where
 f : Nat
 t : Nat
 w : Rat
def uu (p : Nat -> Nat) (x : WL) (i : Nat) : Rat := (if p x.f = i then 1 else 0) - (if p x.t = i then 1 else 0)
structure VP (n : Nat) (p : Nat -> Nat) : Prop where
 lt : ∀ v, v < n -> p v < n
 id : ∀ v, v < n -> p (p v) = p v
end Go.Proofs.YtnoildlijhapaaaGreatDoor

/- The matrix-tree theorem: both ends in sight; the theorem. No condition. -/
namespace Go.Proofs.YtnoildlijhapaaaGreatDoor

end Go.Proofs.YtnoildlijhapaaaGreatDoor

/- The matrix-tree theorem. No condition. -/
namespace Go.Proofs.YtnoildlijhapaaaGreatDoor

end Go.Proofs.YtnoildlijhapaaaGreatDoor

/- The factors L and D of a symmetric matrix. No condition. -/
namespace Go.Proofs.YtnoildlijhapaaaGreatDoor

def lr (B l : Nat -> Nat -> Rat) (d : Nat -> Rat) (i : Nat) : Nat -> Nat -> Rat
 | 0, _ => 0
 | j + 1, c => if c = j then (B i j - sm j (fun k => lr B l d i j k * l j k * d k)) / d j else lr B l d i j c
def fac (B : Nat -> Nat -> Rat) : Nat -> (Nat -> Nat -> Rat) × (Nat -> Rat)
 | 0 => (fun _ _ => 0, fun _ => 0)
 | i + 1 => (fun r c => if r = i then (if c = i then 1 else lr B (fac B i).1 (fac B i).2 i i c) else (fac B i).1 r c,
   fun k => if k = i then B i i - sm i (fun j => lr B (fac B i).1 (fac B i).2 i i j * lr B (fac B i).1 (fac B i).2 i i j * (fac B i).2 j) else (fac B i).2 k)
def LL (B : Nat -> Nat -> Rat) (r c : Nat) : Rat := (fac B (r + 1)).1 r c
def DD (B : Nat -> Nat -> Rat) (k : Nat) : Rat := (fac B (k + 1)).2 k
end Go.Proofs.YtnoildlijhapaaaGreatDoor

/- Definite forms; solving by the factors. No condition. -/
namespace Go.Proofs.YtnoildlijhapaaaGreatDoor

theorem uy (x : Rat) : 0 <= x * x := by
 rcases (show 0 <= x \/ x <= 0 by grind) with h | h
 ·exact Rat.mul_nonneg h h
 ·have := Rat.mul_nonneg (show 0 <= -x by grind) (show 0 <= -x by grind); grind
def bsx (L : Nat -> Nat -> Rat) (b : Nat -> Rat) (n : Nat) : Nat -> Nat -> Rat
 | 0, _ => 0
 | s + 1, i => if i + s + 1 = n then b i - sm n (fun j => if i < j then L j i * bsx L b n s j else 0) else bsx L b n s i
end Go.Proofs.YtnoildlijhapaaaGreatDoor

/- Determinants of restricted matrices; too few links. No condition. -/
namespace Go.Proofs.YtnoildlijhapaaaGreatDoor

def rs (S : Nat -> Bool) (A : Nat -> Nat -> Rat) (l : List Nat) (i j : Nat) : Rat := if S (l.getD i 0) = true /\ S (l.getD j 0) = true then A (l.getD i 0) (l.getD j 0) else if i = j then 1 else 0
end Go.Proofs.YtnoildlijhapaaaGreatDoor

/- The form of a Laplacian. No condition. -/
namespace Go.Proofs.YtnoildlijhapaaaGreatDoor

theorem Ak {n : Nat} {x : WL} (y : Nat -> Rat) (hf : x.f < n) (ht : x.t < n) : sm n (fun i => uu id x i * y i) = y x.f - y x.t := by
 unfold uu
 rw [cx (g := fun i => (if i = x.f then y x.f else 0) + (if i = x.t then - y x.t else 0)) (fun i _ => by
  simp only [id]
  by_cases h1 : x.f = i
  ·by_cases h2 : x.t = i
   ·rw [if_pos h1, if_pos h2, if_pos h1.symm, if_pos h2.symm, <- h1, h1, h2]; grind
   ·rw [if_pos h1, if_neg h2, if_pos h1.symm, if_neg (fun e => h2 e.symm), h1]; grind
  ·by_cases h2 : x.t = i
   ·rw [if_neg h1, if_pos h2, if_neg (fun e => h1 e.symm), if_pos h2.symm, h2]; grind
   ·rw [if_neg h1, if_neg h2, if_neg (fun e => h1 e.symm), if_neg (fun e => h2 e.symm)]; grind), uA, q7 (j := x.f) _ hf (fun i _ h => if_neg h), q7 (j := x.t) _ ht (fun i _ h => if_neg h), if_pos rfl, if_pos rfl]
 grind
end Go.Proofs.YtnoildlijhapaaaGreatDoor

/- The Laplacian of what hangs on the ground is positive definite. No condition. -/
namespace Go.Proofs.YtnoildlijhapaaaGreatDoor

theorem zZ {ls : List WL} {y : Nat -> Rat} (h : ∀ x ∈ ls, y x.f = y x.t) {u v : Nat} (hc : Cnn (ls.map fun x => (x.f, x.t)) u v) : y u = y v := by
 induction hc with
 | refl => rfl
 | step _ hp ih =>
  rw [ih]
  rcases hp with hp | hp
  ·obtain ⟨x, hx, e⟩ := List.mem_map.1 hp
   cases e; exact h x hx
  ·obtain ⟨x, hx, e⟩ := List.mem_map.1 hp
   cases e; exact (h x hx).symm
end Go.Proofs.YtnoildlijhapaaaGreatDoor

/- Effective resistance: by trees and forests. No condition. -/
namespace Go.Proofs.YtnoildlijhapaaaGreatDoor

end Go.Proofs.YtnoildlijhapaaaGreatDoor

/- Solving by the factors. No condition. -/
namespace Go.Proofs.YtnoildlijhapaaaGreatDoor

def fws (L : Nat -> Nat -> Rat) (b : Nat -> Rat) : Nat -> Nat -> Rat
 | 0, _ => 0
 | i + 1, c => if c = i then b i - sm i (fun j => L i j * fws L b i j) else fws L b i c
def fwv (L : Nat -> Nat -> Rat) (b : Nat -> Rat) (i : Nat) : Rat := fws L b (i + 1) i
def slv (B : Nat -> Nat -> Rat) (b : Nat -> Rat) (n : Nat) : Nat -> Rat := bsx (LL B) (fun k => fwv (LL B) b k / DD B k) n n
end Go.Proofs.YtnoildlijhapaaaGreatDoor

/- Elimination with exchanges gives the determinant. No condition. -/
namespace Go.Proofs.YtnoildlijhapaaaGreatDoor

def swp (r s i : Nat) : Nat := if i = r then s else if i = s then r else i
def piv (f : Nat -> Rat) (n : Nat) : Nat -> Nat -> Nat
 | 0, _ => n
 | d + 1, k => if f k = 0 then piv f n d (k + 1) else k
def el : Nat -> (Nat -> Nat -> Rat) -> Rat
 | 0, _ => 1
 | n + 1, A =>
  let k := piv (fun i => A i 0) (n + 1) (n + 1) 0
  if k = n + 1 then 0
  else (if k = 0 then 1 else -1) * (A k 0 * el n (fun i c => A (swp 0 k (i + 1)) (c + 1) - A (swp 0 k (i + 1)) 0 / A k 0 * A k (c + 1)))
end Go.Proofs.YtnoildlijhapaaaGreatDoor

/- Leading minors and pivots; permuted matrices. No condition. -/
namespace Go.Proofs.YtnoildlijhapaaaGreatDoor

end Go.Proofs.YtnoildlijhapaaaGreatDoor

/- Any order of rows and columns. No condition. -/
namespace Go.Proofs.YtnoildlijhapaaaGreatDoor

theorem yY {r s i n : Nat} (hr : r < n) (hs : s < n) (hi : i < n) : swp r s i < n := by unfold swp; (repeat' split) <;> omega
end Go.Proofs.YtnoildlijhapaaaGreatDoor

/- How great determinants of integers are; words of what the factors hold. No condition. -/
namespace Go.Proofs.YtnoildlijhapaaaGreatDoor

def IB (k : Nat) (q : Rat) : Prop := ∃ z : Int, q = (z : Rat) /\ z.natAbs <= 2 ^ k
theorem IB.mono {k l : Nat} {q : Rat} (h : IB k q) (hl : k <= l) : IB l q := by
 obtain ⟨z, h1, h2⟩ := h
 exact ⟨z, h1, Nat.le_trans h2 (Nat.pow_le_pow_right (by decide) hl)⟩
theorem IB.mul {k l : Nat} {p q : Rat} (h : IB k p) (h' : IB l q) : IB (k + l) (p * q) := by
 obtain ⟨z, rfl, h2⟩ := h
 obtain ⟨y, rfl, h3⟩ := h'
 refine ⟨z * y, by rw [Rat.intCast_mul], ?_⟩;rw [Int.natAbs_mul, Nat.pow_add];exact Nat.mul_le_mul h2 h3
theorem IB.neg {k : Nat} {p : Rat} (h : IB k p) : IB k (-p) := by
 obtain ⟨z, rfl, h2⟩ := h
 exact ⟨-z, by rw [Rat.intCast_neg], by rw [Int.natAbs_neg]; exact h2⟩
section
variable {B : Nat -> Nat -> Rat} {n m J : Nat}
end
end Go.Proofs.YtnoildlijhapaaaGreatDoor

/- Potentials and effective resistance. No condition. -/
namespace Go.Proofs.YtnoildlijhapaaaGreatDoor

def LU (u : Nat -> Rat) : List WL -> Nat -> Rat
 | [], _ => 0
 | x :: xs, i => LU u xs i + x.w * (uu id x i * (u x.f - u x.t))
def EN (u v : Nat -> Rat) : List WL -> Rat
 | [] => 0
 | x :: xs => EN u v xs + x.w * ((u x.f - u x.t) * (v x.f - v x.t))
def dl (i v : Nat) : Rat := if v = i then 1 else 0
section
variable {n : Nat}
theorem yJ {u v : Nat -> Rat} : ∀ {ls : List WL}, (∀ x ∈ ls, x.f < n /\ x.t < n) -> sm n (fun i => v i * LU u ls i) = EN u v ls
 | [], _ => pR fun j _ => by simp only [LU]; grind
 | x :: xs, h => by
  obtain ⟨h1, h2⟩ := h x (List.mem_cons_self ..)
  have ih := yJ (u := u) (v := v) (ls := xs) fun y hy => h y (List.mem_cons_of_mem _ hy)
  rw [cx (g := fun i => v i * LU u xs i + (x.w * (u x.f - u x.t)) * (uu id x i * v i)) (fun j _ => by simp only [LU]; grind), uA, y4, ih, Ak v h1 h2];simp only [EN]; grind
theorem wY {u : Nat -> Rat} : ∀ {ls : List WL}, (∀ x ∈ ls, 0 < x.w) -> 0 <= EN u u ls
 | [], _ => by show (0 : Rat) <= 0; grind
 | x :: xs, h => by
  have h1 := wY (u := u) (ls := xs) fun y hy => h y (List.mem_cons_of_mem _ hy)
  have h2 := Rat.mul_nonneg (show 0 <= x.w by have := h x (List.mem_cons_self ..); grind) (uy (u x.f - u x.t))
  simp only [EN]; grind
theorem pF {u : Nat -> Rat} : ∀ {ls : List WL}, (∀ x ∈ ls, 0 < x.w) -> EN u u ls <= 0 -> ∀ x ∈ ls, u x.f = u x.t
 | [], _, _ => fun _ h => by cases h
 | x :: xs, h, hz => by
  have hw := h x (List.mem_cons_self ..)
  have h1 := wY (u := u) (ls := xs) fun y hy => h y (List.mem_cons_of_mem _ hy)
  have h2 := Rat.mul_nonneg (show 0 <= x.w by grind) (uy (u x.f - u x.t))
  simp only [EN] at hz
  have e2 : x.w * ((u x.f - u x.t) * (u x.f - u x.t)) = 0 := by grind
  intro z hz'
  rcases List.mem_cons.1 hz' with rfl | hz'
  ·rcases Rat.mul_eq_zero.1 e2 with e | e
   ·grind
   ·rcases Rat.mul_eq_zero.1 e with e | e <;> grind
  ·exact pF (ls := xs) (fun y hy => h y (List.mem_cons_of_mem _ hy)) (by grind) z hz'
theorem wW (a b : Rat) (u v : Nat -> Rat) : ∀ (ls : List WL) (i : Nat), LU (fun k => a * u k + b * v k) ls i = a * LU u ls i + b * LU v ls i
 | [], _ => by simp only [LU]; grind
 | x :: xs, i => by simp only [LU]; rw [wW a b u v xs i]; grind
theorem sV {u : Nat -> Rat} (i : Nat) : ∀ {ls : List WL}, (∀ x ∈ ls, u x.f = u x.t) -> LU u ls i = 0
 | [], _ => rfl
 | x :: xs, h => by
  simp only [LU];rw [sV i (ls := xs) (fun y hy => h y (List.mem_cons_of_mem _ hy)), h x (List.mem_cons_self ..)]; grind

def UF (n : Nat) (ls : List WL) (i j : Nat) (u : Nat -> Rat) : Prop := ∀ v, v < n -> LU u ls v = dl i v - dl j v
theorem yI {i : Nat} (f : Nat -> Rat) (hi : i < n) : sm n (fun v => f v * dl i v) = f i := by
 rw [q7 (j := i) _ hi (fun v _ h => by unfold dl; rw [if_neg h]; grind)]
 unfold dl; rw [if_pos rfl]; grind
theorem UF.en {ls : List WL} {i j : Nat} {u : Nat -> Rat} (h : UF n ls i j u) (hl : ∀ x ∈ ls, x.f < n /\ x.t < n) (hi : i < n) (hj : j < n) (v : Nat -> Rat) : EN u v ls = v i - v j := by
 rw [<- yJ hl, cx (g := fun k => 1 * (v k * dl i k) + (-1) * (v k * dl j k)) (fun k hk => by rw [h k hk]; grind), mg, yI v hi, yI v hj]
 grind
def IsR (n : Nat) (ls : List WL) (i j : Nat) (r : Rat) : Prop := ∃ u, UF n ls i j u /\ u i - u j = r
theorem UF.symm {ls : List WL} {i j : Nat} {u : Nat -> Rat} (h : UF n ls i j u) : UF n ls j i (fun k => - u k) := fun v hv => by
 have := wW (-1) 0 u u ls v
 have e : (fun k => - u k) = fun k => (-1) * u k + 0 * u k := by funext k; grind
 rw [e, this, h v hv]; grind
theorem IsR.symm {ls : List WL} {i j : Nat} {r : Rat} (h : IsR n ls i j r) : IsR n ls j i r := by
 obtain ⟨u, h1, rfl⟩ := h
 exact ⟨_, h1.symm, by grind⟩
theorem IsR.nn {ls : List WL} {i j : Nat} {r : Rat} (hw : ∀ x ∈ ls, 0 < x.w) (hl : ∀ x ∈ ls, x.f < n /\ x.t < n) (hi : i < n) (hj : j < n) (h : IsR n ls i j r) : 0 <= r := by
 obtain ⟨u, h1, rfl⟩ := h
 rw [<- h1.en hl hi hj u]; exact wY hw
theorem IsR.pos {ls : List WL} {i j : Nat} {r : Rat} (hw : ∀ x ∈ ls, 0 < x.w) (hl : ∀ x ∈ ls, x.f < n /\ x.t < n) (hi : i < n) (hj : j < n) (hij : i ≠ j) (h : IsR n ls i j r) : 0 < r := by
 have h0 := h.nn hw hl hi hj
 obtain ⟨u, h1, rfl⟩ := h
 refine Classical.byContradiction fun hc => ?_
 have e := h1.en hl hi hj u
 have hz := pF hw (u := u) (by grind)
 have := h1 i hi
 rw [sV i hz] at this
 unfold dl at this
 rw [if_pos rfl, if_neg hij] at this
 grind
theorem UF.max {ls : List WL} {i j k : Nat} {u : Nat -> Rat} (h : UF n ls i j u) (hw : ∀ x ∈ ls, 0 < x.w) (hl : ∀ x ∈ ls, x.f < n /\ x.t < n) (hi : i < n) (hj : j < n) (hc : Cnn (ls.map fun x => (x.f, x.t)) k i) : u k <= u i := by
 let y : Nat -> Rat := fun v => if u v <= u i then 0 else u v - u i
 have hy : ∀ v, 0 <= y v := fun v => by show 0 <= (if u v <= u i then 0 else u v - u i); split <;> grind
 have yi : y i = 0 := if_pos (by grind)
 have key : ∀ l : List WL, (∀ x ∈ l, 0 < x.w) -> EN y y l <= EN u y l := by
  intro l
  induction l with
  | nil => intro _; show (0 : Rat) <= 0; grind
  | cons x xs ih =>
   intro hw
   have ih := ih fun z hz => hw z (List.mem_cons_of_mem _ hz)
   simp only [EN]
   have hx := hw x (List.mem_cons_self ..)
   have h2 : 0 <= (u x.f - u x.t) * (y x.f - y x.t) - (y x.f - y x.t) * (y x.f - y x.t) := by
    have e : (u x.f - u x.t) * (y x.f - y x.t) - (y x.f - y x.t) * (y x.f - y x.t) = ((u x.f - y x.f) - (u x.t - y x.t)) * (y x.f - y x.t) := by grind
    rw [e]
    show 0 <= ((u x.f - (if u x.f <= u i then 0 else u x.f - u i)) - (u x.t - (if u x.t <= u i then 0 else u x.t - u i))) * ((if u x.f <= u i then 0 else u x.f - u i) - (if u x.t <= u i then 0 else u x.t - u i))
    by_cases h1 : u x.f <= u i <;> by_cases h2 : u x.t <= u i
    ·rw [if_pos h1, if_pos h2]; grind
    ·rw [if_pos h1, if_neg h2]
     have := Rat.mul_nonneg (show 0 <= u i - u x.f by grind) (show 0 <= u x.t - u i by grind)
     grind
    ·rw [if_neg h1, if_pos h2]
     have := Rat.mul_nonneg (show 0 <= u i - u x.t by grind) (show 0 <= u x.f - u i by grind)
     grind
    ·rw [if_neg h1, if_neg h2]; grind
   have h3 := Rat.mul_nonneg (show 0 <= x.w by grind) h2
   grind
 have e := h.en hl hi hj y
 have e2 := key ls hw
 have e3 := hy j
 have hz := pF hw (u := y) (by grind)
 have := zZ hz hc
 rw [yi] at this;refine Classical.byContradiction fun hn => ?_
 have : y k = u k - u i := if_neg hn
 grind
end
/-! ### One link apart -/
section
variable {n : Nat} {ls : List WL} {k : Nat} {r : Rat}
end
end Go.Proofs.YtnoildlijhapaaaGreatDoor

/- Elimination in place. No condition. -/
namespace Go.Proofs.YtnoildlijhapaaaGreatDoor

def stp (i k : Nat) (A : Nat -> Nat -> Rat) (r c : Nat) : Rat := if i < r /\ i <= c then A (swp i k r) c - A (swp i k r) i / A k i * A k c else A (swp i k r) c
end Go.Proofs.YtnoildlijhapaaaGreatDoor

/- Elimination over integers: all numbers of the way are small. No condition. -/
namespace Go.Proofs.YtnoildlijhapaaaGreatDoor

structure EI (n m i : Nat) (A A' t : Nat -> Nat -> Rat) : Prop where
 int : ∀ r c, r < n -> c < n -> IB m (A' r c)
 row : ∀ r c, r < n -> c < n -> A r c = A' r c + sm (min r i) (fun s => t r s * A' s c)
 low : ∀ r c, r < n -> c < r -> c < i -> A r c = 0
 nz : ∀ a, a < i -> A a a ≠ 0
section
variable {n m i : Nat} {A A' t : Nat -> Nat -> Rat}
theorem l9 {i k s : Nat} (h : s < i) (hk : i <= k) : swp i k s = s := by unfold swp; rw [if_neg (by omega), if_neg (by omega)]
theorem EI.step (h : EI n m i A A' t) {k : Nat} (hi : i < n) (hik : i <= k) (hk : k < n) (hp : A k i ≠ 0) :
  ∃ t', EI n m (i + 1) (stp i k A) (fun r c => A' (swp i k r) c) t' := by
 have hs : ∀ r, r < n -> swp i k r < n := fun r hr => yY hi hk hr
 have hs2 : ∀ r, i <= r -> i <= swp i k r := fun r hr => by unfold swp; (repeat' split) <;> omega
 have e0 : swp i k i = k := by unfold swp; rw [if_pos rfl]
 have rowS : ∀ r c, r < n -> c < n -> A (swp i k r) c = A' (swp i k r) c + sm (min r i) (fun s => t (swp i k r) s * A' (swp i k s) c) := fun r c hr hc => by
  rw [h.row _ c (hs r hr) hc]
  congr 1
  by_cases hri : r < i
  ·rw [l9 hri hik]
   exact cx fun s hs => by rw [l9 (show s < i by omega) hik]
  ·have := hs2 r (by omega)
   rw [Nat.min_eq_right (by omega), Nat.min_eq_right (by omega)]
   exact cx fun s hs => by rw [l9 hs hik]
 refine ⟨fun r s => if i < r then (if s < i then t (swp i k r) s - A (swp i k r) i / A k i * t k s else - (A (swp i k r) i / A k i)) else t (swp i k r) s, fun r c hr hc => h.int _ c (hs r hr) hc, fun r c hr hc => ?_, fun r c hr hcr hci => ?_, fun a ha => ?_⟩
 ·show stp i k A r c = A' (swp i k r) c + _
  by_cases hri : i < r
  ·rw [Nat.min_eq_right (by omega), xr];simp only [if_pos hri, if_neg (Nat.lt_irrefl i)];rw [cx (f := fun s => (if s < i then t (swp i k r) s - A (swp i k r) i / A k i * t k s else -(A (swp i k r) i / A k i)) * A' (swp i k s) c) (g := fun s => 1 * (t (swp i k r) s * A' (swp i k s) c) + (-(A (swp i k r) i / A k i)) * (t k s * A' (swp i k s) c)) (fun s hs => by rw [if_pos hs]; grind), mg, e0]
   have h1 := rowS r c hr hc
   have h2 := rowS i c hi hc
   rw [Nat.min_eq_right (by omega)] at h1;rw [Nat.min_self, e0] at h2
   have h3 : stp i k A r c = A (swp i k r) c - A (swp i k r) i / A k i * A k c := by
    simp only [stp]
    by_cases hc' : i <= c
    ·rw [if_pos ⟨hri, hc'⟩]
    ·rw [if_neg (by omega)]
     have z := h.low k c hk (by omega) (by omega)
     rw [z]; grind
   rw [h3, h1, h2]; grind
  ·rw [show min r (i + 1) = min r i by omega];simp only [if_neg hri, stp];rw [if_neg (by omega)];exact rowS r c hr hc
 ·by_cases hri : i < r
  ·by_cases e : c = i
   ·subst e; simp only [stp]; rw [if_pos ⟨hri, Nat.le_refl _⟩]; grind
   ·simp only [stp]; rw [if_neg (by omega)]
    have : r >= i := by omega
    exact h.low _ c (hs r hr) (by have := hs2 r this; omega) (by omega)
  ·simp only [stp]; rw [if_neg (by omega)]
   by_cases e : r = i
   ·subst e; rw [e0]; exact h.low k c hk (by omega) (by omega)
   ·rw [l9 (by omega) hik]; exact h.low r c hr hcr (by omega)
 ·simp only [stp]; rw [if_neg (by omega)]
  by_cases e : a = i
  ·subst e; rw [e0]; exact hp
  ·rw [l9 (by omega) hik]; exact h.nz a (by omega)
end
end Go.Proofs.YtnoildlijhapaaaGreatDoor

/- Labels of components; solutions over a part. No condition. -/
namespace Go.Proofs.YtnoildlijhapaaaGreatDoor

section
variable {r : List Nat} (h : RG r)
include h
end
/-! ### The grounded part -/
def kN (n : Nat) (S : Nat -> Bool) : Nat := ((List.range n).filter S).length
section
variable {n j : Nat} {ls : List WL} {S : Nat -> Bool} {B : Nat -> Nat -> Rat}
end
end Go.Proofs.YtnoildlijhapaaaGreatDoor

/- Words as sets of bits: the lowest bit, clearing it, differences. No condition. -/
namespace Go.Proofs.YtnoildlijhapaaaGreatDoor

def bdif (x y : Nat) : Nat := x ^^^ (x &&& y)
theorem pC (x y k : Nat) : (bdif x y).testBit k = (x.testBit k && !y.testBit k) := by
 rw [bdif, Nat.testBit_xor, Nat.testBit_and]
 cases x.testBit k <;> cases y.testBit k <;> rfl
theorem jW {x n : Nat} (h : ∀ k, n <= k -> x.testBit k = false) : x < 2 ^ n := Nat.lt_pow_two_of_testBit x h
theorem gJ {x n k : Nat} (h : x < 2 ^ n) (hk : n <= k) : x.testBit k = false := Nat.testBit_lt_two_pow (Nat.lt_of_lt_of_le h (Nat.pow_le_pow_right (by decide) hk))
theorem uv {x n k : Nat} (h : x < 2 ^ n) (hk : x.testBit k = true) : k < n := by
 rcases Nat.lt_or_ge k n with h' | h'
 ·exact h'
 ·rw [gJ h h'] at hk; cases hk
theorem yt {x y n : Nat} (h : x < 2 ^ n) : bdif x y < 2 ^ n := jW fun k hk => by rw [pC, gJ h hk]; rfl
theorem lU {x y n : Nat} (h : x < 2 ^ n) : x &&& y < 2 ^ n := jW fun k hk => by rw [Nat.testBit_and, gJ h hk]; rfl
theorem rT {x y n : Nat} (h : x < 2 ^ n) (h' : y < 2 ^ n) : x ||| y < 2 ^ n := jW fun k hk => by rw [Nat.testBit_or, gJ h hk, gJ h' hk]; rfl
theorem oQ (a k : Nat) : (2 ^ a).testBit k = decide (a = k) := Nat.testBit_two_pow
theorem lT {a n : Nat} (h : a < n) : 2 ^ a < 2 ^ n := Nat.pow_lt_pow_right (by decide) h
def clr (x : Nat) : Nat := x &&& (x - 1)
theorem iP {n x : Nat} (h0 : x ≠ 0) (h : x < 2 ^ n) : Go.Lib.ctz n x < n /\ x.testBit (Go.Lib.ctz n x) = true /\ (∀ k, k < Go.Lib.ctz n x -> x.testBit k = false) /\ ∀ k, (clr x).testBit k = (x.testBit k && decide (k ≠ Go.Lib.ctz n x)) := by
 obtain ⟨m, hm, hc⟩ := Go.Lib.ctzFrom_spec n x (by omega) h
 have e : Go.Lib.ctz n x = Go.Lib.ctzFrom n x := by rw [Go.Lib.ctz, if_neg h0]
 rw [e];generalize Go.Lib.ctzFrom n x = c at hm hc
 have tx : ∀ k, x.testBit k = if k < c then false else (2 * m + 1).testBit (k - c) := fun k => by
  have := Nat.testBit_two_pow_mul_add (2 * m + 1) (i := c) (b := 0) (Nat.pow_pos (by decide)) k
  rw [Nat.add_zero, <- hm] at this;rw [this]
  by_cases hk : k < c
  ·rw [if_pos hk, if_pos hk, Nat.zero_testBit]
  ·rw [if_neg hk, if_neg hk]
 have ty : ∀ k, (x - 1).testBit k = if k < c then (2 ^ c - 1).testBit k else (2 * m).testBit (k - c) := fun k => by
  have hp : 0 < 2 ^ c := Nat.pow_pos (by decide)
  have e1 : x - 1 = 2 ^ c * (2 * m) + (2 ^ c - 1) := by rw [hm, Nat.mul_add]; omega
  have := Nat.testBit_two_pow_mul_add (2 * m) (i := c) (b := 2 ^ c - 1) (by omega) k
  rw [e1, this]
 refine ⟨hc, ?_, fun k hk => by rw [tx, if_pos hk], fun k => ?_⟩
 ·rw [tx, if_neg (by omega), Nat.sub_self, Nat.testBit_zero]; simp
 ·rw [clr, Nat.testBit_and, tx, ty]
  by_cases hk : k < c
  ·rw [if_pos hk]; rfl
  ·rw [if_neg hk, if_neg hk]
   obtain ⟨d, hd⟩ : ∃ d, k = c + d := ⟨k - c, by omega⟩
   subst hd
   rw [Nat.add_sub_cancel_left]
   cases d with
   | zero => simp
   | succ d =>
    rw [Nat.testBit_succ, Nat.testBit_succ, show (2 * m + 1) / 2 = m by omega, show 2 * m / 2 = m by omega]
    have : decide (c + (d + 1) ≠ c) = true := by simp
    rw [this]; cases m.testBit d <;> rfl
theorem z6 {x : Nat} (h0 : x ≠ 0) : clr x < x := by
 have : x &&& (x - 1) <= x - 1 := Nat.and_le_right
 unfold clr; omega
theorem wC (x : Nat) : clr x <= x := Nat.and_le_left

/-! ### A graph as a word of neighbours for each vertex -/
end Go.Proofs.YtnoildlijhapaaaGreatDoor

/- A factor's element is 0 unless its two unknowns are joined by the matrix or by the fill. No condition. -/
namespace Go.Proofs.YtnoildlijhapaaaGreatDoor

end Go.Proofs.YtnoildlijhapaaaGreatDoor

/- Largest cliques: the first longest one in the order of lists; a search that leaves out what can't be longer finds it. No condition. -/
namespace Go.Proofs.YtnoildlijhapaaaGreatDoor

def btr (b x : List Nat) : List Nat := if b.length < x.length then x else b
theorem tO (a b c : List Nat) : btr (btr a b) c = btr a (btr b c) := by
 unfold btr
 by_cases h1 : a.length < b.length
 ·rw [if_pos h1]
  by_cases h2 : b.length < c.length
  ·rw [if_pos h2, if_pos (by omega)]
  ·rw [if_neg h2, if_pos h1]
 ·rw [if_neg h1]
  by_cases h2 : b.length < c.length
  ·rw [if_pos h2]
  ·rw [if_neg h2, if_neg h1, if_neg (by omega)]
theorem yr (b x : List Nat) : b.length <= (btr b x).length /\ x.length <= (btr b x).length /\ ((btr b x).length <= b.length \/ (btr b x).length <= x.length) := by
 unfold btr; split <;> omega
section
variable (A : Nat -> Nat -> Bool)
def gqB : Nat -> List Nat -> List Nat -> List Nat -> List Nat
 | 0, _, _, b => b
 | _ + 1, _, [], b => b
 | f + 1, cur, v :: c, b => gqB f cur c (btr b (gqB f (cur ++ [v]) (c.filter (A v)) (cur ++ [v])))
def lqB : Nat -> List Nat -> List Nat -> List Nat -> List Nat
 | 0, _, _, b => b
 | _ + 1, _, [], b => b
 | f + 1, cur, v :: c, b => if b.length < cur.length + (c.length + 1) then lqB f cur c (lqB f (cur ++ [v]) (c.filter (A v)) (btr b (cur ++ [v]))) else b
variable {A}
theorem xU (f : Nat) (cur b : List Nat) : lqB A f cur [] b = b := by cases f <;> rfl
theorem sI : ∀ (f : Nat) (cur c b x : List Nat), gqB A f cur c (btr b x) = btr b (gqB A f cur c x)
 | 0, _, _, _, _ => rfl
 | f + 1, cur, [], b, x => rfl
 | f + 1, cur, v :: c, b, x => by
  simp only [gqB];rw [tO, sI f cur c]
theorem po : ∀ (f : Nat) (cur c b : List Nat), b.length <= (gqB A f cur c b).length /\ ((gqB A f cur c b).length <= b.length \/ (gqB A f cur c b).length <= cur.length + c.length)
 | 0, _, _, _ => ⟨Nat.le_refl _, Or.inl (Nat.le_refl _)⟩
 | f + 1, cur, [], b => ⟨Nat.le_refl _, Or.inl (Nat.le_refl _)⟩
 | f + 1, cur, v :: c, b => by
  have h1 := po f (cur ++ [v]) (c.filter (A v)) (cur ++ [v])
  have h2 := yr b (gqB A f (cur ++ [v]) (c.filter (A v)) (cur ++ [v]))
  have h3 := po f cur c (btr b (gqB A f (cur ++ [v]) (c.filter (A v)) (cur ++ [v])))
  have h4 := List.length_filter_le (A v) c
  simp only [gqB];simp only [List.length_append, List.length_cons, List.length_nil] at h1 ⊢
  omega
theorem tD {f : Nat} {cur c b : List Nat} (h : cur.length + c.length <= b.length) : gqB A f cur c b = b := by
 induction f generalizing c with
 | zero => rfl
 | succ f ih =>
  cases c with
  | nil => rfl
  | cons v c =>
   simp only [List.length_cons] at h;simp only [gqB]
   have h1 := po (A := A) f (cur ++ [v]) (c.filter (A v)) (cur ++ [v])
   have h4 := List.length_filter_le (A v) c
   simp only [List.length_append, List.length_cons, List.length_nil] at h1
   have : btr b (gqB A f (cur ++ [v]) (c.filter (A v)) (cur ++ [v])) = b := if_neg (by omega)
   rw [this, ih (by omega)]
theorem ru : ∀ (f : Nat) (cur c b : List Nat), c.length <= f -> lqB A f cur c b = gqB A f cur c b
 | 0, _, _, _, _ => rfl
 | f + 1, cur, [], b, _ => rfl
 | f + 1, cur, v :: c, b, h => by
  have h4 := List.length_filter_le (A v) c
  simp only [List.length_cons] at h;simp only [lqB]
  split
  ·rw [ru f cur c _ (by omega), ru f (cur ++ [v]) _ _ (by omega), sI]; rfl
  ·exact (tD (by simp only [List.length_cons]; omega)).symm
def mxC (A : Nat -> Nat -> Bool) (n : Nat) : List Nat := gqB A n [] (List.range n) []
end
end Go.Proofs.YtnoildlijhapaaaGreatDoor

/- Sets of vertices as bits: their lists. No condition. -/
namespace Go.Proofs.YtnoildlijhapaaaGreatDoor

def bd (n x : Nat) : List Nat := (List.range n).filter fun k => x.testBit k
theorem iJ {n x k : Nat} : k ∈ bd n x ↔ k < n /\ x.testBit k = true := by
 unfold bd; rw [List.mem_filter, List.mem_range]
theorem gM (n x : Nat) : (bd n x).length <= n := by
 have := List.length_filter_le (fun k => x.testBit k) (List.range n)
 rwa [List.length_range] at this
theorem gL (n : Nat) : bd n 0 = [] := List.filter_eq_nil_iff.2 fun k _ => by rw [Nat.zero_testBit]; simp
theorem cp (n x : Nat) : (bd n x).Pairwise (· < ·) := List.Pairwise.filter _ List.pairwise_lt_range
theorem lQ {n x : Nat} {l : List Nat} (hs : l.Pairwise (· < ·)) (h : ∀ k, k ∈ l ↔ k < n /\ x.testBit k = true) : bd n x = l := by
 refine List.Perm.eq_of_pairwise (le := (· < ·)) (fun a b _ _ h1 h2 => absurd h1 (Nat.lt_asymm h2)) (cp n x) hs ?_;refine (List.perm_ext_iff_of_nodup ((cp n x).imp Nat.ne_of_lt) (hs.imp Nat.ne_of_lt)).2 fun k => ?_;rw [iJ, h]
theorem qg (n : Nat) : bd n (2 ^ n - 1) = List.range n := lQ List.pairwise_lt_range fun k => by
 rw [List.mem_range, Nat.testBit_two_pow_sub_one]; simp
theorem nZ {n m x : Nat} (h : x < 2 ^ n) (hm : n <= m) : bd m x = bd n x := lQ (cp n x) fun k => by
 rw [iJ]
 constructor
 ·rintro ⟨h1, h2⟩; exact ⟨by omega, h2⟩
 ·rintro ⟨h1, h2⟩; exact ⟨uv h h2, h2⟩
theorem ko {n x : Nat} (h0 : x ≠ 0) (h : x < 2 ^ n) : bd n x = Go.Lib.ctz n x :: bd n (clr x) := by
 obtain ⟨h1, h2, h3, h4⟩ := iP h0 h
 refine lQ (List.pairwise_cons.2 ⟨fun k hk => ?_, cp _ _⟩) fun k => ?_
 ·have hk := iJ.1 hk
  rw [h4 k] at hk;simp only [Bool.and_eq_true, decide_eq_true_eq] at hk
  rcases Nat.lt_or_ge k (Go.Lib.ctz n x) with g | g
  ·rw [h3 k g] at hk; simp at hk
  ·omega
 ·rw [List.mem_cons, iJ, h4 k];simp only [Bool.and_eq_true, decide_eq_true_eq]
  constructor
  ·rintro (rfl | ⟨g1, g2, _⟩)
   ·exact ⟨h1, h2⟩
   ·exact ⟨g1, g2⟩
  ·rintro ⟨g1, g2⟩
   by_cases e : k = Go.Lib.ctz n x
   ·exact Or.inl e
   ·exact Or.inr ⟨g1, g2, e⟩
theorem wD {n x : Nat} (h0 : x ≠ 0) (h : x < 2 ^ n) : bdif x (2 ^ Go.Lib.ctz n x) = clr x := Nat.eq_of_testBit_eq fun k => by
 obtain ⟨h1, h2, h3, h4⟩ := iP h0 h
 rw [pC, oQ, h4 k]
 congr 1
 by_cases e : k = Go.Lib.ctz n x
 ·rw [<- e]; simp
 ·have e' : ¬ Go.Lib.ctz n x = k := fun g => e g.symm
  simp [e, e']
theorem jX (n x y : Nat) : bd n (x &&& y) = (bd n x).filter fun k => y.testBit k := by
 unfold bd
 rw [List.filter_filter]
 congr 1
 funext k
 rw [Nat.testBit_and, Bool.and_comm]
theorem sF {n x v : Nat} (hv : v < n) (h : ∀ k, k ∈ bd n x -> k < v) : bd n (x ||| 2 ^ v) = bd n x ++ [v] := by
 refine lQ (List.pairwise_append.2 ⟨cp _ _, List.pairwise_singleton _ _, fun a ha b hb => ?_⟩) fun k => ?_
 ·rw [List.mem_singleton.1 hb]; exact h a ha
 ·rw [List.mem_append, List.mem_singleton, iJ, Nat.testBit_or, oQ];simp only [Bool.or_eq_true, decide_eq_true_eq]
  constructor
  ·rintro (⟨g1, g2⟩ | rfl)
   ·exact ⟨g1, Or.inl g2⟩
   ·exact ⟨hv, Or.inr rfl⟩
  ·rintro ⟨g1, g2 | rfl⟩
   ·exact Or.inl ⟨g1, g2⟩
   ·exact Or.inr rfl
def pcnt (x : Nat) : Nat := (bd 32 x).length
theorem ju {n m : Nat} (x : Nat) : (bd (m + n) x).length = (bd m x).length + (bd n (x / 2 ^ m)).length := by
 unfold bd
 rw [List.range_add, List.filter_append, List.length_append, List.filter_map, List.length_map]
 congr 2
 refine List.filter_congr fun k _ => ?_;simp only [Function.comp_def];rw [Nat.testBit_div_two_pow, Nat.add_comm]
theorem vG (m x : Nat) : bd m (x % 2 ^ m) = bd m x := by
 unfold bd
 refine List.filter_congr fun k hk => ?_;rw [Nat.testBit_mod_two_pow, decide_eq_true (List.mem_range.1 hk), Bool.true_and]
theorem tk (x : Nat) : pcnt x = (bd 8 (x / 16777216 % 256)).length + (bd 8 (x / 65536 % 256)).length + (bd 8 (x / 256 % 256)).length + (bd 8 (x % 256)).length := by
 have m : ∀ y, (bd 8 (y % 256)).length = (bd 8 y).length := fun y => congrArg List.length (vG 8 y)
 rw [m, m, m, m]
 have h1 := ju (n := 24) (m := 8) x
 have h2 := ju (n := 16) (m := 8) (x / 2 ^ 8)
 have h3 := ju (n := 8) (m := 8) (x / 2 ^ 8 / 2 ^ 8)
 have e2 : x / 2 ^ 8 / 2 ^ 8 = x / 65536 := by omega
 have e3 : x / 2 ^ 8 / 2 ^ 8 / 2 ^ 8 = x / 16777216 := by omega
 rw [e2] at h2;rw [e3, e2] at h3
 unfold pcnt
 show (bd (8 + 24) x).length = _
 rw [h1]
 show _ + (bd (8 + 16) (x / 2 ^ 8)).length = _
 rw [h2]
 show _ + (_ + (bd (8 + 8) (x / 65536)).length) = _
 rw [h3]
 show _ + ((bd 8 (x / 256)).length + _) = _
 omega
theorem sv (x : Nat) : pcnt x <= 32 := gM 32 x
def iQ (b x : Nat) : Nat := if pcnt b < pcnt x then x else b
theorem wK (b x : Nat) : bd 32 (iQ b x) = btr (bd 32 b) (bd 32 x) := by
 unfold iQ btr pcnt
 split <;> rfl
theorem pA {N b x : Nat} (hb : b < 2 ^ N) (hx : x < 2 ^ N) : iQ b x < 2 ^ N := by
 unfold iQ; split
 ·exact hx
 ·exact hb
def sM (G : Nat -> Nat) : Nat -> Nat -> Nat -> Nat -> Nat
 | 0, _, _, b => b
 | f + 1, cur, free, b => if free = 0 then b else
   if pcnt b < pcnt cur + pcnt free then sM G f cur (clr free) (sM G f (cur ||| 2 ^ Go.Lib.ctz 32 free) (clr free &&& G (Go.Lib.ctz 32 free)) (iQ b (cur ||| 2 ^ Go.Lib.ctz 32 free))) else b
theorem lK {N : Nat} (hN : N <= 32) (G : Nat -> Nat) : ∀ (f cur free b : Nat), cur < 2 ^ N -> free < 2 ^ N -> b < 2 ^ N -> (∀ k ∈ bd 32 cur, ∀ j ∈ bd 32 free, k < j) ->
  sM G f cur free b < 2 ^ N /\ bd 32 (sM G f cur free b) = lqB (fun v k => (G v).testBit k) f (bd 32 cur) (bd 32 free) (bd 32 b)
 | 0, _, _, b, _, _, hb, _ => ⟨hb, rfl⟩
 | f + 1, cur, free, b, hc, hf, hb, hlt => by
  by_cases h0 : free = 0
  ·subst h0
   simp only [sM, if_true];rw [gL, xU];exact ⟨hb, rfl⟩
  ·have hf32 : free < 2 ^ 32 := Nat.lt_of_lt_of_le hf (Nat.pow_le_pow_right (by decide) hN)
   have ec := ko h0 hf32
   obtain ⟨c1, c2, c3, c4⟩ := iP h0 hf32
   have hs := cp 32 free
   rw [ec] at hlt hs
   have hp := (List.pairwise_cons.1 hs).1
   simp only [sM, if_neg h0];rw [ec];simp only [lqB]
   have vN : Go.Lib.ctz 32 free < N := uv hf c2
   generalize Go.Lib.ctz 32 free = v at *
   have hv : ∀ k ∈ bd 32 cur, k < v := fun k hk => hlt k hk v List.mem_cons_self
   have e1 := sF c1 hv
   have hcl : clr free < 2 ^ N := Nat.lt_of_le_of_lt (wC free) hf
   have ecnd : (pcnt b < pcnt cur + pcnt free) = ((bd 32 b).length < (bd 32 cur).length + ((bd 32 (clr free)).length + 1)) := by
    unfold pcnt; rw [ec]; rfl
   simp only [ecnd]
   split
   ·have hc' : cur ||| 2 ^ v < 2 ^ N := rT hc (lT vN)
    have i1 := lK hN G f (cur ||| 2 ^ v) (clr free &&& G v) (iQ b (cur ||| 2 ^ v)) hc' (lU hcl) (pA hb hc') (fun k hk j hj => by
     rw [jX] at hj
     have hj := hp j (List.mem_filter.1 hj).1
     rw [e1] at hk
     rcases List.mem_append.1 hk with h | h
     ·have := hv k h; omega
     ·rw [List.mem_singleton.1 h]; exact hj)
    have i2 := lK hN G f cur (clr free) _ hc hcl i1.1 (fun k hk j hj => hlt k hk j (List.mem_cons_of_mem _ hj))
    refine ⟨i2.1, ?_⟩;rw [i2.2, i1.2, e1, jX, wK, e1]
   ·exact ⟨hb, rfl⟩
theorem y6 {N n : Nat} (hn : n <= N) (hN : N <= 32) (G : Nat -> Nat) : sM G n 0 (2 ^ n - 1) 0 < 2 ^ N /\ bd 32 (sM G n 0 (2 ^ n - 1) 0) = mxC (fun v k => (G v).testBit k) n := by
 have hp : 0 < 2 ^ n := Nat.pow_pos (by decide)
 have hp' : 2 ^ n <= 2 ^ N := Nat.pow_le_pow_right (by decide) hn
 have s := lK hN G n 0 (2 ^ n - 1) 0 (by omega) (by omega) (by omega) (fun k hk => by rw [gL] at hk; cases hk)
 refine ⟨s.1, ?_⟩;rw [s.2, gL, nZ (n := n) (m := 32) (by omega) (by omega), qg, ru _ _ _ _ (by rw [List.length_range]; omega)]
 rfl
theorem tA {A B : Nat -> Nat -> Bool} {n : Nat} (h : ∀ u v, u < n -> v < n -> A u v = B u v) : mxC A n = mxC B n := by
 have key : ∀ (f : Nat) (cur c b : List Nat), (∀ v ∈ c, v < n) -> gqB A f cur c b = gqB B f cur c b := by
  intro f
  induction f with
  | zero => intro cur c b _; rfl
  | succ f ih =>
   intro cur c b hc
   cases c with
   | nil => rfl
   | cons v c =>
    have h1 : c.filter (A v) = c.filter (B v) := List.filter_congr fun u hu => h v u (hc v List.mem_cons_self) (hc u (List.mem_cons_of_mem _ hu))
    simp only [gqB];rw [h1, ih (cur ++ [v]) _ _ (fun u hu => hc u (List.mem_cons_of_mem _ (List.mem_filter.1 hu).1)), ih cur c _ (fun u hu => hc u (List.mem_cons_of_mem _ hu))]
 exact key n [] (List.range n) [] fun v hv => List.mem_range.1 hv
end Go.Proofs.YtnoildlijhapaaaGreatDoor

/- A framework for functions over values: pure data, a simulation between an abstract state and the model's act and world. No condition. -/
namespace Go.Proofs.YtnoildlijhapaaaGreatDoor
open Go.RowKit

inductive DC where
 | lit (v : Value)
 | sl (es : List (List DC))

inductive SC where
 | d (c : DC)
 | nil
 | own (id sz off len : Nat)
 | bad

inductive VV where
 | one (c : SC)
 | agg (cs : List SC)

inductive SV where
 | none
 | val (x : VV)
 | tup (xs : List VV)
 | ptr (id off : Nat)
 | pe (id sz i j : Nat)
 | pd (cs : List DC)
 | clo (f : FuncId) (id : Nat)
 | fn (f : FuncId) (c : Option (List DC))

inductive OO where
 | box (cs : List SC)
 | arr (sz : Nat) (es : List (List DC))

abbrev ca := Nat -> Option OO

structure St where
 ρ : List SV
 σ : ca
 rb : List Nat

def at2 {α : Type} (es : List (List α)) (i j : Nat) : Option α := (es[i]?).bind (·[j]?)

def s8 : Value -> Bool
 | .bool _ | .int _ _ | .string _ => true
 | _ => false

inductive RdC (w : World) (X : Nat -> Prop) : Value -> DC -> Prop where
 | lit {v : Value} (h : s8 v = true) : RdC w X v (.lit v)
 | nil {a : Option Addr} {c : Nat} : RdC w X (.slice a 0 c) (.sl [])
 | sl {b off len cap sz : Nat} {cs : Array Value} {E : TypeId} {fr : Nat × Nat} {es : List (List DC)} (vs : Nat -> Nat -> Value)
   (hh : w.heap[b]? = some (.cells cs E fr)) (hx : ¬ X b) (hl : len = es.length) (hcap : len <= cap)
   (hs : ∀ (i : Nat) (e : List DC), es[i]? = some e -> e.length = sz)
   (hv : ∀ (i j : Nat) (d : DC), at2 es i j = some d -> cs[off + i * sz + j]? = some (vs i j))
   (hr : ∀ (i j : Nat) (d : DC), at2 es i j = some d -> RdC w X (vs i j) d) :
   RdC w X (.slice (some ⟨b, off, none⟩) len cap) (.sl es)

theorem bg {w : World} {b : Nat} {o : Obj} (h : w.heap[b]? = some o) : b < w.heap.size := by
 rcases Nat.lt_or_ge b w.heap.size with h' | h'
 ·exact h'
 ·simp [Array.getElem?_eq_none h'] at h

theorem RdC.mono {w w' : World} {X X' : Nat -> Prop} (hX : ∀ b, b < w.heap.size -> X' b -> X b)
  (hw : ∀ b, b < w.heap.size -> ¬ X b -> w'.heap[b]? = w.heap[b]?) {v : Value} {d : DC} (h : RdC w X v d) : RdC w' X' v d := by
 induction h with
 | lit h => exact .lit h
 | nil => exact .nil
 | sl vs hh hx hl hcap hs hv _ ih =>
  have hb := bg hh
  exact .sl vs ((hw _ hb hx).trans hh) (fun h' => hx (hX _ hb h')) hl hcap hs hv ih

theorem RdC.oneCell {w : World} {X : Nat -> Prop} {v : Value} {d : DC} (h : RdC w X v d) : v.oneCell' = true := by
 cases h with
 | lit h => cases v <;> simp_all [s8, Value.oneCell']
 | nil => rfl
 | sl => rfl

def RelC (w : World) (X : Nat -> Prop) (μ : Nat -> Nat) (v : Value) : SC -> Prop
 | .d c => RdC w X v c
 | .nil => ∃ a, v = .slice a 0 0
 | .own id sz off len => ∃ (cap : Nat) (cs : Array Value) (E : TypeId) (fr : Nat × Nat), v = .slice (some ⟨μ id, off * sz, none⟩) len cap /\ len <= cap /\
   w.heap[μ id]? = some (.cells cs E fr) /\ (off + cap) * sz <= cs.size
 | .bad => v.oneCell' = true

theorem RelC.oneCell {w : World} {X : Nat -> Prop} {μ : Nat -> Nat} {v : Value} {c : SC} (h : RelC w X μ v c) : v.oneCell' = true := by
 cases c with
 | d c => exact RdC.oneCell h
 | nil => obtain ⟨_, rfl⟩ := h; rfl
 | own => obtain ⟨_, _, _, _, rfl, _⟩ := h; rfl
 | bad => exact h

def RelL (w : World) (X : Nat -> Prop) (μ : Nat -> Nat) (vs : List Value) (cs : List SC) : Prop :=
 vs.length = cs.length /\ ∀ (i : Nat) (c : SC), cs[i]? = some c -> ∃ v, vs[i]? = some v /\ RelC w X μ v c

def RelVV (w : World) (X : Nat -> Prop) (μ : Nat -> Nat) (v : Value) : VV -> Prop
 | .one c => RelC w X μ v c
 | .agg cs => ∃ vs : List Value, v = .agg vs.toArray /\ RelL w X μ vs cs

def RelFn (w : World) (X : Nat -> Prop) (v : Value) (f : FuncId) : Option (List DC) -> Prop
 | none => v = .func (.func f) #[] #[]
 | some cs => ∃ (b off : Nat) (cells : Array Value) (E : TypeId) (fr : Nat × Nat), v = .func (.func f) #[] #[.pointer (some ⟨b, off, none⟩)] /\ w.heap[b]? = some (.cells cells E fr) /\ ¬ X b /\
   ∀ (j : Nat) (d : DC), cs[j]? = some d -> ∃ x, cells[off + j]? = some x /\ RdC w X x d
theorem RelFn.mono {w w' : World} {X X' : Nat -> Prop} (hX : ∀ b, b < w.heap.size -> X' b -> X b) (hw : ∀ b, b < w.heap.size -> ¬ X b -> w'.heap[b]? = w.heap[b]?) {v : Value} {f : FuncId} {c : Option (List DC)} (h : RelFn w X v f c) : RelFn w' X' v f c := by
 cases c with
 | none => exact h
 | some cs =>
  obtain ⟨b, off, cells, E, fr, h1, h2, h3, h4⟩ := h
  have hb := bg h2
  exact ⟨b, off, cells, E, fr, h1, (hw b hb h3).trans h2, fun h' => h3 (hX b hb h'), fun j d hd => let ⟨x, e1, e2⟩ := h4 j d hd; ⟨x, e1, e2.mono hX hw⟩⟩

def RelV (w : World) (X : Nat -> Prop) (μ : Nat -> Nat) (v : Value) : SV -> Prop
 | .none => True
 | .val x => RelVV w X μ v x
 | .tup xs => ∃ vs : List Value, v = .tuple vs.toArray /\ vs.length = xs.length /\ ∀ (i : Nat) (x : VV), xs[i]? = some x -> ∃ u, vs[i]? = some u /\ RelVV w X μ u x
 | .ptr id off => v = .pointer (some ⟨μ id, off, none⟩)
 | .pe id sz i j => v = .pointer (some ⟨μ id, i * sz + j, none⟩)
 | .clo f id => v = .func (.func f) #[] #[.pointer (some ⟨μ id, 0, none⟩)]
 | .fn f c => RelFn w X v f c
 | .pd cs => ∃ (b off : Nat) (cells : Array Value) (E : TypeId) (fr : Nat × Nat), v = .pointer (some ⟨b, off, none⟩) /\ w.heap[b]? = some (.cells cells E fr) /\ ¬ X b /\
   ∀ (j : Nat) (d : DC), cs[j]? = some d -> ∃ x, cells[off + j]? = some x /\ RdC w X x d

structure Fwd (X : Nat -> Prop) (w w' : World) : Prop where
 size : w.heap.size <= w'.heap.size
 keep : ∀ b, b < w.heap.size -> ¬ X b -> w'.heap[b]? = w.heap[b]?
 row : ∀ (b : Nat) (cs : Array Value) (E : TypeId) (fr : Nat × Nat), w.heap[b]? = some (Obj.cells cs E fr) -> ∃ (cs' : Array Value) (fr' : Nat × Nat), w'.heap[b]? = some (Obj.cells cs' E fr') /\ cs'.size = cs.size

theorem Fwd.refl (X : Nat -> Prop) (w : World) : Fwd X w w := ⟨Nat.le_refl _, fun _ _ _ => rfl, fun _ cs _ fr h => ⟨cs, fr, h, rfl⟩⟩

theorem Fwd.of_below {w w' : World} {X : Nat -> Prop} (h : Below w.heap.size w w') : Fwd X w w' :=
 ⟨h.size, fun b hb _ => h.block b hb, fun b cs _ fr hc => ⟨cs, fr, (h.block b (bg hc)).trans hc, rfl⟩⟩

theorem RelC.mono {w w' : World} {X X' : Nat -> Prop} {μ : Nat -> Nat} (hX : ∀ b, b < w.heap.size -> X' b -> X b) (hw : Fwd X w w') {v : Value} {c : SC}
  (h : RelC w X μ v c) : RelC w' X' μ v c := by
 cases c with
 | d c => exact RdC.mono hX hw.keep h
 | nil => exact h
 | own id sz off len =>
  obtain ⟨cap, cs, E, fr, hv, hle, hh, hsz⟩ := h
  obtain ⟨cs', fr', hh', hs'⟩ := hw.row _ _ _ _ hh
  exact ⟨cap, cs', E, fr', hv, hle, hh', by omega⟩
 | bad => exact h

theorem RelL.mono {w w' : World} {X X' : Nat -> Prop} {μ : Nat -> Nat} (hX : ∀ b, b < w.heap.size -> X' b -> X b) (hw : Fwd X w w') {vs : List Value} {cs : List SC}
  (h : RelL w X μ vs cs) : RelL w' X' μ vs cs :=
 ⟨h.1, fun i c hc => let ⟨v, h1, h2⟩ := h.2 i c hc; ⟨v, h1, h2.mono hX hw⟩⟩

theorem RelVV.mono {w w' : World} {X X' : Nat -> Prop} {μ : Nat -> Nat} (hX : ∀ b, b < w.heap.size -> X' b -> X b) (hw : Fwd X w w') {v : Value} {x : VV}
  (h : RelVV w X μ v x) : RelVV w' X' μ v x := by
 cases x with
 | one c => exact RelC.mono hX hw h
 | agg cs => obtain ⟨vs, h1, h2⟩ := h; exact ⟨vs, h1, h2.mono hX hw⟩

theorem RelV.mono {w w' : World} {X X' : Nat -> Prop} {μ : Nat -> Nat} (hX : ∀ b, b < w.heap.size -> X' b -> X b) (hw : Fwd X w w') {v : Value} {x : SV}
  (h : RelV w X μ v x) : RelV w' X' μ v x := by
 cases x with
 | none => trivial
 | val x => exact RelVV.mono hX hw h
 | tup xs =>
  obtain ⟨vs, h1, h2, h3⟩ := h
  exact ⟨vs, h1, h2, fun i x hx => let ⟨u, a, b⟩ := h3 i x hx; ⟨u, a, b.mono hX hw⟩⟩
 | ptr id off => exact h
 | pe id sz i j => exact h
 | clo f id => exact h
 | fn f c => exact RelFn.mono hX hw.keep h
 | pd cs =>
  obtain ⟨b, off, cells, E, fr, h1, h2, h3, h4⟩ := h
  have hb := bg h2
  exact ⟨b, off, cells, E, fr, h1, (hw.keep b hb h3).trans h2, fun h' => h3 (hX b hb h'), fun j d hd => let ⟨x, e1, e2⟩ := h4 j d hd; ⟨x, e1, e2.mono hX hw.keep⟩⟩

/-! ### References to an object's number -/
def SC.noRef (id : Nat) : SC -> Bool
 | .own id' _ _ _ => id' != id
 | _ => true
def VV.noRef (id : Nat) : VV -> Bool
 | .one c => c.noRef id
 | .agg cs => cs.all (SC.noRef id)
def SV.noRef (id : Nat) : SV -> Bool
 | .none | .pd _ | .fn _ _ => true
 | .val x => x.noRef id
 | .tup xs => xs.all (VV.noRef id)
 | .ptr id' _ => id' != id
 | .pe id' _ _ _ => id' != id
 | .clo _ id' => id' != id
def OO.noRef (id : Nat) : OO -> Bool
 | .box cs => cs.all (SC.noRef id)
 | .arr _ _ => true

theorem RelC.ren {w : World} {X : Nat -> Prop} {μ μ' : Nat -> Nat} {v : Value} {c : SC} (h : RelC w X μ v c) {id : Nat} (hc : c.noRef id = true)
  (hm : ∀ k, k ≠ id -> μ' k = μ k) : RelC w X μ' v c := by
 cases c with
 | own id' sz off len =>
  have hne : id' ≠ id := by simpa [SC.noRef] using hc
  obtain ⟨cap, cs, E, fr, hv, hle, hh, hsz⟩ := h
  exact ⟨cap, cs, E, fr, by rw [hm _ hne]; exact hv, hle, by rw [hm _ hne]; exact hh, hsz⟩
 | d c => exact h
 | nil => exact h
 | bad => exact h

theorem RelL.ren {w : World} {X : Nat -> Prop} {μ μ' : Nat -> Nat} {vs : List Value} {cs : List SC} (h : RelL w X μ vs cs) {id : Nat} (hc : cs.all (SC.noRef id) = true)
  (hm : ∀ k, k ≠ id -> μ' k = μ k) : RelL w X μ' vs cs :=
 ⟨h.1, fun i c hi => let ⟨v, h1, h2⟩ := h.2 i c hi; ⟨v, h1, h2.ren (List.all_eq_true.1 hc c (List.mem_of_getElem? hi)) hm⟩⟩

theorem RelVV.ren {w : World} {X : Nat -> Prop} {μ μ' : Nat -> Nat} {v : Value} {x : VV} (h : RelVV w X μ v x) {id : Nat} (hc : x.noRef id = true)
  (hm : ∀ k, k ≠ id -> μ' k = μ k) : RelVV w X μ' v x := by
 cases x with
 | one c => exact RelC.ren h hc hm
 | agg cs => obtain ⟨vs, h1, h2⟩ := h; exact ⟨vs, h1, h2.ren hc hm⟩

theorem RelV.ren {w : World} {X : Nat -> Prop} {μ μ' : Nat -> Nat} {v : Value} {x : SV} (h : RelV w X μ v x) {id : Nat} (hc : x.noRef id = true)
  (hm : ∀ k, k ≠ id -> μ' k = μ k) : RelV w X μ' v x := by
 cases x with
 | none => trivial
 | val x => exact RelVV.ren h hc hm
 | tup xs =>
  obtain ⟨vs, h1, h2, h3⟩ := h
  exact ⟨vs, h1, h2, fun i x hx => let ⟨u, a, b⟩ := h3 i x hx; ⟨u, a, b.ren (List.all_eq_true.1 hc x (List.mem_of_getElem? hx)) hm⟩⟩
 | ptr id' off =>
  have hne : id' ≠ id := by simpa [SV.noRef] using hc
  show v = _; rw [hm _ hne]; exact h
 | pe id' sz i j =>
  have hne : id' ≠ id := by simpa [SV.noRef] using hc
  show v = _; rw [hm _ hne]; exact h
 | clo f id' =>
  have hne : id' ≠ id := by simpa [SV.noRef] using hc
  show v = _; rw [hm _ hne]; exact h
 | fn f c => exact h
 | pd cs => exact h

/-! ### The simulation -/
def St.get (st : St) (i : Nat) : SV := st.ρ.getD i .none
def St.put (st : St) (dst : Option Tmp) (v : SV) : St :=
 match dst with
 | some d => { st with ρ := st.ρ.set d v }
 | none => st

def Mut (X : Nat -> Prop) (μ : Nat -> Nat) (σ : ca) (b : Nat) : Prop := X b \/ ∃ id o, σ id = some o /\ μ id = b

def RelO (w : World) (X : Nat -> Prop) (μ : Nat -> Nat) (cs : Array Value) : OO -> Prop
 | .box o => o.length <= cs.size /\ ∀ (i : Nat) (c : SC), o[i]? = some c -> ∃ x, cs[i]? = some x /\ RelC w X μ x c
 | .arr sz es => es.length * sz <= cs.size /\ (∀ (i : Nat) (e : List DC), es[i]? = some e -> e.length = sz) /\
   ∀ (i j : Nat) (d : DC), at2 es i j = some d -> ∃ x, cs[i * sz + j]? = some x /\ RdC w X x d

structure Base where
 w : World
 z : Nat -> Prop
def Base.of (w : World) : Base := ⟨w, fun _ => False⟩

def TbW (w : World) : Prop := ∀ p ∈ ji, p.1 < w.heap.size /\ (∀ j, j < p.2.length -> w.cell? ⟨p.1, j, none⟩ = some (.int .u8 (p.2.getD j 0))) /\ (p.2 = [] -> ∃ t fr, w.heap[p.1]? = some (.cells (mK.map fun z => Value.int .u64 z).toArray t fr))
theorem TbW.of {w w' : World} (h : TbW w) (hs : w.heap.size <= w'.heap.size) (hb : ∀ p ∈ ji, w'.heap[p.1]? = w.heap[p.1]?) : TbW w' :=
 fun p hp => ⟨Nat.lt_of_lt_of_le (h p hp).1 hs, fun j hj => (World.cell?_of_block (w := w) (hb p hp)).trans ((h p hp).2.1 j hj), fun e => by rw [hb p hp]; exact (h p hp).2.2 e⟩
theorem TbW.below {w w' : World} (h : TbW w) (hb : Below w.heap.size w w') : TbW w' := h.of hb.size fun p hp => hb.block _ (h p hp).1

structure BelZ (w0 : Base) (w : World) : Prop where
 os : w.os = w0.w.os
 tape : w.tape = w0.w.tape
 output : w.output = w0.w.output
 size : w0.w.heap.size <= w.heap.size
 block : ∀ k, k < w0.w.heap.size -> ¬ w0.z k -> w.heap[k]? = w0.w.heap[k]?
 lw : TbW w0.w
 lz : ∀ p ∈ ji, ¬ w0.z p.1
 row : ∀ (b : Nat) (cs : Array Value) (E : TypeId) (fr : Nat × Nat), w0.z b -> w0.w.heap[b]? = some (Obj.cells cs E fr) -> ∃ cs' : Array Value, w.heap[b]? = some (Obj.cells cs' E fr) /\ cs'.size = cs.size

theorem BelZ.refl (w0 : Base) (hL : TbW w0.w) (hz : ∀ p ∈ ji, ¬ w0.z p.1) : BelZ w0 w0.w := ⟨rfl, rfl, rfl, Nat.le_refl _, fun _ _ _ => rfl, hL, hz, fun _ cs _ _ _ h => ⟨cs, h, rfl⟩⟩
theorem BelZ.trans {w0 : Base} {w w' : World} (h : BelZ w0 w) (k : Below w.heap.size w w') : BelZ w0 w' :=
 ⟨k.os.trans h.os, k.tape.trans h.tape, k.output.trans h.output, Nat.le_trans h.size k.size, fun i hi hz => (k.block i (Nat.lt_of_lt_of_le hi h.size)).trans (h.block i hi hz), h.lw, h.lz,
  fun b cs E fr hz hc => let ⟨cs', h1, h2⟩ := h.row b cs E fr hz hc; ⟨cs', (k.block b (bg h1)).trans h1, h2⟩⟩
theorem BelZ.below {w w' : World} (h : BelZ (.of w) w') : Below w.heap.size w w' := ⟨h.os, h.tape, h.output, h.size, fun k hk => h.block k hk (fun h => h)⟩

theorem BelZ.now {w0 : Base} {w : World} (h : BelZ w0 w) : TbW w := h.lw.of h.size fun p hp => h.block _ (h.lw p hp).1 (h.lz p hp)

def Own (w0 : Base) (id b : Nat) : Prop := (w0.w.heap.size <= b \/ w0.z b) /\ (id = 999 -> ∀ k, w0.z k -> b = k)
structure Sim (w0 : Base) (X : Nat -> Prop) (μ : Nat -> Nat) (a : Act) (w : World) (st : St) : Prop where
 xlt : ∀ b, X b -> b < w0.w.heap.size /\ ¬ w0.z b
 dfr : a.defers = []
 bel : BelZ w0 w
 len : a.tmps.size = st.ρ.length
 slots : ∀ i, RelV w (Mut X μ st.σ) μ (a.tmps.getD i undef) (st.get i)
 objs : ∀ (id : Nat) (o : OO), st.σ id = some o -> Own w0 id (μ id) /\ ∃ (cs : Array Value) (E : TypeId), w.heap[μ id]? = some (Obj.cells cs E (0, 0)) /\ RelO w (Mut X μ st.σ) μ cs o
 inj : ∀ (i j : Nat) (o o' : OO), st.σ i = some o -> st.σ j = some o' -> μ i = μ j -> i = j
 rbs : ∀ (id : Nat) (cs : List SC), st.σ id = some (.box cs) -> id ∉ st.rb -> ∀ k, cs.all (SC.noRef k) = true

def AWP (P : Program) (w0 : Base) (X : Nat -> Prop) (c : Code) (Q : Exit -> St -> Prop) (st : St) : Prop :=
 ∀ μ a w, Sim w0 X μ a w st -> c.wp P (fun e a' w' => ∃ μ' st', Sim w0 X μ' a' w' st' /\ Q e st') a w

theorem RelO.mono {w w' : World} {X X' : Nat -> Prop} {μ : Nat -> Nat} (hX : ∀ b, b < w.heap.size -> X' b -> X b) (hw : Fwd X w w') {cs : Array Value} {o : OO}
  (h : RelO w X μ cs o) : RelO w' X' μ cs o := by
 cases o with
 | box o => exact ⟨h.1, fun i c hc => let ⟨x, h1, h2⟩ := h.2 i c hc; ⟨x, h1, h2.mono hX hw⟩⟩
 | arr sz es => exact ⟨h.1, h.2.1, fun i j d hd => let ⟨x, h1, h2⟩ := h.2.2 i j d hd; ⟨x, h1, h2.mono hX hw.keep⟩⟩

theorem RelO.ren {w : World} {X : Nat -> Prop} {μ μ' : Nat -> Nat} {cs : Array Value} {o : OO} (h : RelO w X μ cs o) {id : Nat} (hc : o.noRef id = true)
  (hm : ∀ k, k ≠ id -> μ' k = μ k) : RelO w X μ' cs o := by
 cases o with
 | box o => exact ⟨h.1, fun i c hi => let ⟨x, h1, h2⟩ := h.2 i c hi; ⟨x, h1, h2.ren (List.all_eq_true.1 hc c (List.mem_of_getElem? hi)) hm⟩⟩
 | arr sz es => exact h

end Go.Proofs.YtnoildlijhapaaaGreatDoor

/- Memory: loading and storing rows of cells. No condition. -/
namespace Go.Proofs.YtnoildlijhapaaaGreatDoor

theorem d6 (b off n : Nat) : (Addr.add ⟨b, off, none⟩ n) = ⟨b, off + n, none⟩ := by
 unfold Addr.add
 split
 ·rename_i h; simp [h]
 ·rfl

theorem il {w : World} {b : Nat} {cs : Array Value} {E : TypeId} {fr : Nat × Nat} (h : w.heap[b]? = some (.cells cs E fr)) (off : Nat) :
  w.cell? ⟨b, off, none⟩ = cs[off]? := by
 simp [World.cell?, h]

theorem jN {P : Program} {w : World} {b : Nat} {cs : Array Value} {E : TypeId} {fr : Nat × Nat} (h : w.heap[b]? = some (.cells cs E fr)) (off : Nat) :
  ∀ (n i : Nat) (acc : Array Value), off + i + n <= cs.size ->
   (loadCellsFrom ⟨b, off, none⟩ i n acc).run P w = .ok (acc ++ cs.extract (off + i) (off + i + n)) w := by
 intro n
 induction n with
 | zero => intro i acc _; simp only [loadCellsFrom, Sem.run_pure, Nat.add_zero, Array.extract_eq_empty_of_le (show min (off + i) cs.size <= off + i by omega), Array.append_empty]
 | succ n ih =>
  intro i acc hle
  have hlt : off + i < cs.size := by omega
  simp only [loadCellsFrom, Sem.run_bind, d6, run_load, il h, Array.getElem?_eq_getElem hlt, Result.andThen_ok];rw [ih (i + 1) _ (by omega)]
  congr 1
  apply Array.ext'
  simp only [Array.toList_append, Array.toList_push, Array.toList_extract, List.append_assoc]
  congr 1
  have e1 : off + (i + 1) = off + i + 1 := by omega
  have e2 : off + i + 1 + n = off + i + (n + 1) := by omega
  rw [e1, e2, List.extract_eq_take_drop, List.extract_eq_take_drop]
  have hlt' : off + i < cs.toList.length := by simpa using hlt
  rw [List.drop_eq_getElem_cons hlt']
  have e3 : off + i + (n + 1) - (off + i) = n + 1 := by omega
  have e4 : off + i + (n + 1) - (off + i + 1) = n := by omega
  rw [e3, e4, List.take_succ_cons]
  simp

theorem gr {P : Program} {w : World} {b : Nat} {cs : Array Value} {E : TypeId} {fr : Nat × Nat} (h : w.heap[b]? = some (.cells cs E fr)) (off n : Nat) (hle : off + n <= cs.size) :
  (loadCells ⟨b, off, none⟩ n).run P w = .ok (cs.extract off (off + n)) w := by
 unfold loadCells
 rw [jN h off n 0 #[] (by omega)]
 simp

def spl (cs : Array Value) : Nat -> List Value -> Array Value
 | _, [] => cs
 | k, v :: vs => spl (cs.setIfInBounds k v) (k + 1) vs

theorem bT : ∀ (vs : List Value) (cs : Array Value) (k : Nat), (spl cs k vs).size = cs.size
 | [], _, _ => rfl
 | v :: vs, cs, k => by rw [spl, bT vs]; simp

theorem g6 : ∀ (vs : List Value) (cs : Array Value) (k m : Nat), k + vs.length <= cs.size ->
  (spl cs k vs)[m]? = if k <= m /\ m < k + vs.length then vs[m - k]? else cs[m]?
 | [], cs, k, m, _ => by rw [spl, if_neg (by simp)]
 | v :: vs, cs, k, m, h => by
  simp only [List.length_cons] at h;rw [spl, g6 vs _ _ _ (by simp; omega)];simp only [List.length_cons]
  by_cases hm : m = k
  ·subst hm
   rw [if_neg (by omega), if_pos (by omega)]
   have hlt : m < cs.size := by omega
   simp [hlt]
  ·by_cases h1 : k + 1 <= m /\ m < k + 1 + vs.length
   ·rw [if_pos h1, if_pos (by omega)]
    have : m - k = (m - (k + 1)) + 1 := by omega
    rw [this, List.getElem?_cons_succ]
   ·rw [if_neg h1, if_neg (by omega)];rw [Array.getElem?_setIfInBounds_ne (Ne.symm hm)]

def setRow (w : World) (b : Nat) (cs : Array Value) : World :=
 { w with heap := w.heap.modify b fun
   | .cells _ E fr => .cells cs E fr
   | o => o }

theorem bK (w : World) (b : Nat) (cs : Array Value) {k : Nat} (h : k ≠ b) : (setRow w b cs).heap[k]? = w.heap[k]? := by
 simp only [setRow, Array.getElem?_modify];rw [if_neg (Ne.symm h)]

theorem b7 {w : World} {b : Nat} {cs : Array Value} {E : TypeId} {fr : Nat × Nat} (h : w.heap[b]? = some (.cells cs E fr)) (cs' : Array Value) :
  (setRow w b cs').heap[b]? = some (.cells cs' E fr) := by
 simp only [setRow, Array.getElem?_modify, if_true, h, Option.map_some]

theorem iD (w : World) (b : Nat) (cs : Array Value) : (setRow w b cs).heap.size = w.heap.size := by simp [setRow]

theorem kK {w : World} {b : Nat} {cs : Array Value} {E : TypeId} {fr : Nat × Nat} (h : w.heap[b]? = some (.cells cs E fr)) : setRow w b cs = w := by
 have : w.heap.modify b (fun | .cells _ E fr => .cells cs E fr | o => o) = w.heap := by
  apply Array.ext_getElem?
  intro i
  rw [Array.getElem?_modify]
  split
  ·rename_i hi; subst hi; simp [h]
  ·rfl
 unfold setRow; rw [this]

theorem gq {w : World} {b : Nat} {cs cs' cs'' : Array Value} {E : TypeId} {fr : Nat × Nat} (h : w.heap[b]? = some (.cells cs E fr)) :
  setRow (setRow w b cs') b cs'' = setRow w b cs'' := by
 have : (setRow w b cs').heap.modify b (fun | .cells _ E fr => .cells cs'' E fr | o => o) = w.heap.modify b (fun | .cells _ E fr => .cells cs'' E fr | o => o) := by
  apply Array.ext_getElem?
  intro i
  rw [Array.getElem?_modify, Array.getElem?_modify]
  split
  ·rename_i hi; subst hi; rw [b7 h, h]; rfl
  ·rename_i hi; exact bK _ _ _ (Ne.symm hi)
 unfold setRow at this ⊢
 simp only [this]

theorem iE {w : World} {b : Nat} {cs : Array Value} {E : TypeId} {fr : Nat × Nat} (h : w.heap[b]? = some (.cells cs E fr)) (off : Nat) (v : Value) :
  w.setCell ⟨b, off, none⟩ v = setRow w b (cs.setIfInBounds off v) := by
 have : w.heap.modify b (fun | .cells c elem frozen => .cells (if (none : Option Nat).isSome then c else c.setIfInBounds off v) elem frozen | o => o) =
   w.heap.modify b (fun | .cells _ E fr => .cells (cs.setIfInBounds off v) E fr | o => o) := by
  apply Array.ext_getElem?
  intro i
  rw [Array.getElem?_modify, Array.getElem?_modify]
  split
  ·rename_i hi; subst hi; simp [h]
  ·rfl
 unfold World.setCell setRow
 exact congrArg (fun hp => ({ w with heap := hp } : World)) this

theorem iM {w : World} {b : Nat} {cs : Array Value} {E : TypeId} (h : w.heap[b]? = some (.cells cs E (0, 0))) (off : Nat) :
  w.frozen? ⟨b, off, none⟩ = false := by
 simp [World.frozen?, h]

theorem eW {P : Program} : ∀ (vs : List Value) {w : World} {b : Nat} {cs : Array Value} {E : TypeId} (_ : w.heap[b]? = some (.cells cs E (0, 0))) (off i : Nat),
  off + i + vs.length <= cs.size -> (∀ v ∈ vs, v.oneCell' = true) ->
   (storeCells ⟨b, off, none⟩ vs i).run P w = .ok () (setRow w b (spl cs (off + i) vs))
 | [], w, b, cs, E, h, off, i, _, _ => by
  simp only [storeCells, Sem.run_pure, spl];rw [kK h]
 | v :: vs, w, b, cs, E, h, off, i, hle, hv => by
  simp only [List.length_cons] at hle
  have hlt : off + i < cs.size := by omega
  simp only [storeCells, Sem.run_bind, d6];rw [run_store P w _ v _ (hv v (by simp))];simp only [il h, Array.getElem?_eq_getElem hlt, iM h];rw [if_neg (by simp), iE h];simp only [Result.andThen_ok];rw [eW vs (b7 h _) off (i + 1) (by simp; omega) (fun v hv' => hv v (by simp [hv']))];rw [gq h]
  rfl

theorem g8 {w : World} {b : Nat} {X : Nat -> Prop} {cs cs' : Array Value} {E : TypeId} {fr : Nat × Nat} (h : w.heap[b]? = some (.cells cs E fr)) (hs : cs'.size = cs.size) (hX : X b) :
  Fwd X w (setRow w b cs') := by
 refine ⟨by rw [iD]; exact Nat.le_refl _, fun k _ hk => bK _ _ _ (fun e => hk (e ▸ hX)), fun k c E' fr' hc => ?_⟩
 by_cases hk : k = b
 ·subst hk
  rw [h] at hc; cases hc;exact ⟨cs', fr, b7 h cs', hs⟩
 ·exact ⟨c, fr', by rw [bK _ _ _ hk]; exact hc, rfl⟩

theorem oO (X : Nat -> Prop) (w : World) (o : Obj) : Fwd X w (w.alloc o) :=
 ⟨by simp, fun b hb _ => RowKit.Below.heap_alloc w o b hb, fun b cs E fr hc => ⟨cs, fr, by rw [RowKit.Below.heap_alloc w o b (bg hc)]; exact hc, rfl⟩⟩

theorem dP (w : World) (o : Obj) : (w.alloc o).heap[w.heap.size]? = some o := by show (w.heap.push o)[w.heap.size]? = _; simp

/-! ### The types' table -/
inductive TD where
 | slice (e : TypeId)
 | array (n : Nat) (e : TypeId)
 | struct (fs : List (Nat × TypeId))
 | int (k : IntKind)
 | bool
 | string
 | other

structure TI where
 size : Nat
 bytes : Nat
 agg : Bool
 zero : List SC
 und : TD

def jK : TypeDesc -> TD
 | .slice e => .slice e
 | .array n e => .array n e
 | .struct fs => .struct (fs.toList.map fun f => (f.offset, f.type))
 | .int k => .int k
 | .bool => .bool
 | .string => .string
 | _ => .other

def eN : SC -> Value
 | .d (.lit v) => v
 | _ => .slice none 0 0

def mkV (agg : Bool) (vs : List Value) : Value := if agg then .agg vs.toArray else vs.headD undef

def vL : TypeDesc -> Bool
 | .struct _ | .array _ _ => true
 | _ => false

structure TF (P : Program) (t : TypeId) (ti : TI) : Prop where
 info : (P.info? t).map (fun i => (i.size, i.bytes, i.zero)) = some (ti.size, ti.bytes, some (mkV ti.agg (ti.zero.map eN)))
 und : (P.underlying t).map jK = some ti.und
 agg : (P.underlying t).map vL = some ti.agg
 zsz : ti.zero.length = ti.size
 zok : ti.zero.all (fun c => match c with | .d (.lit v) => s8 v | .nil => true | _ => false) = true
 one : ti.agg = false -> ti.size = 1

structure Res where
 v : SV
 ob : Option (Nat × List (List DC)) := none

def rnC (d : Nat) : SC -> SC
 | .own _ sz off len => .own d sz off len
 | c => c
def pU (d : Nat) : VV -> VV
 | .one c => .one (rnC d c)
 | .agg cs => .agg (cs.map (rnC d))
def uL (d : Nat) : SV -> SV
 | .val x => .val (pU d x)
 | .tup xs => .tup (xs.map (pU d))
 | x => x

def yM : DC -> Bool
 | .lit _ => true
 | .sl _ => false
def SC.flat : SC -> Bool
 | .d (.lit _) => true
 | .d (.sl []) => true
 | .nil => true
 | .own _ _ _ _ => true
 | _ => false
def VV.flat : VV -> Bool
 | .one c => c.flat
 | .agg cs => cs.all SC.flat
def SV.flat : SV -> Bool
 | .val x => x.flat
 | .tup xs => xs.all VV.flat
 | .none => true
 | _ => false
def wX (r : Res) : Prop := r.v.flat = true /\ ∀ (sz : Nat) (es : List (List DC)), r.ob = some (sz, es) -> ∀ e ∈ es, ∀ d ∈ e, yM d = true

def Xp (X : Nat -> Prop) (r : Res) (b c : Nat) : Prop := X c \/ (r.ob.isSome = true /\ c = b)
def rY (w : World) (X : Nat -> Prop) (base : Nat) (v : Value) (r : Res) : Prop :=
 ∃ b, (∀ (sz : Nat) (es : List (List DC)), r.ob = some (sz, es) -> base <= b /\ ∃ (cs : Array Value) (E : TypeId), w.heap[b]? = some (Obj.cells cs E (0, 0)) /\ RelO w (Xp X r b) (fun _ => b) cs (.arr sz es)) /\
  RelV w (Xp X r b) (fun _ => b) v r.v

def Con (P : Program) (f : FuncId) (args : List SV) (r : Res) : Prop :=
 (∃ fn, P.funcs[f]? = some fn /\ (fn.name == "runtime.NumGoroutine") = false /\ fn.body.isSome = true) /\
  ∀ (w : World) (X : Nat -> Prop) (μ : Nat -> Nat) (vs : List Value), TbW w -> (∀ b, X b -> b < w.heap.size) -> vs.length = args.length -> (∀ (i : Nat) (x : SV), args[i]? = some x -> ∃ v, vs[i]? = some v /\ RelV w X μ v x) ->
   Calls P f vs.toArray w (fun e w' => ∃ v, e = .returned v /\ RowKit.Below w.heap.size w w' /\ rY w' X w.heap.size v r)

def SC.noOwn : SC -> Bool
 | .own _ _ _ _ => false
 | _ => true
def VV.noOwn : VV -> Bool
 | .one c => c.noOwn
 | .agg cs => cs.all SC.noOwn
def SV.noOwn : SV -> Bool
 | .val x => x.noOwn
 | .tup xs => xs.all VV.noOwn
 | _ => true

def SV.noAddr : SV -> Bool
 | .ptr _ _ | .pe _ _ _ _ | .clo _ _ => false
 | _ => true
structure Tab where
 ty : Nat -> Option TI
 clo : FuncId -> List SV -> Option SV
 dat : Nat -> Bool := fun _ => false
 eqs : Nat -> Option Nat := fun _ => none
instance : CoeFun Tab (fun _ => Nat -> Option TI) := ⟨Tab.ty⟩
def Af (P : Program) (t : TypeId) (n : Nat) : Prop :=
 ∀ (w : World) (ox oy : Operand) (a b : List Int), a.length = n -> b.length = n ->
  ((do eqGuard .eql t ox oy (.agg (a.map (Value.int .i64)).toArray) (.agg (b.map (Value.int .i64)).toArray); binOp .eql t (.agg (a.map (Value.int .i64)).toArray) (.agg (b.map (Value.int .i64)).toArray)) : Sem Value).run P w = .ok (.bool (a == b)) w /\
  ((do eqGuard .neq t ox oy (.agg (a.map (Value.int .i64)).toArray) (.agg (b.map (Value.int .i64)).toArray); binOp .neq t (.agg (a.map (Value.int .i64)).toArray) (.agg (b.map (Value.int .i64)).toArray)) : Sem Value).run P w = .ok (.bool (!(a == b))) w
structure TOK (P : Program) (T : Tab) : Prop where
 ty : ∀ t ti, T.ty t = some ti -> TF P t ti
 clo : ∀ f args v, T.clo f args = some v -> Con P f args { v := v } /\ v.flat = true /\ v.noOwn = true /\ v.noAddr = true
 eqs : ∀ t n, T.eqs t = some n -> Af P t n

section
variable {P : Program} {t : TypeId} {ti : TI} (h : TF P t ti) (w : World)
include h
theorem TF.run_sizeOf : (sizeOf t).run P w = .ok ti.size w := by
 have h1 := h.info
 cases hi : P.info? t with
 | none => rw [hi] at h1; cases h1
 | some i =>
  rw [hi] at h1; simp only [Option.map_some, Option.some.injEq, Prod.mk.injEq] at h1;simp only [sizeOf, typeInfo, Sem.run_bind, run_program, Result.andThen_ok, hi, Sem.run_pure, h1.1]
theorem TF.run_zero : (zeroValue t).run P w = .ok (mkV ti.agg (ti.zero.map eN)) w := by
 have h1 := h.info
 cases hi : P.info? t with
 | none => rw [hi] at h1; cases h1
 | some i =>
  rw [hi] at h1; simp only [Option.map_some, Option.some.injEq, Prod.mk.injEq] at h1;simp only [zeroValue, typeInfo, Sem.run_bind, run_program, Result.andThen_ok, hi, Sem.run_pure, h1.2.2]
theorem TF.run_bytes : ∃ i, (typeInfo t).run P w = .ok i w /\ i.bytes = ti.bytes /\ i.size = ti.size := by
 have h1 := h.info
 cases hi : P.info? t with
 | none => rw [hi] at h1; cases h1
 | some i =>
  rw [hi] at h1; simp only [Option.map_some, Option.some.injEq, Prod.mk.injEq] at h1;exact ⟨i, by simp only [typeInfo, Sem.run_bind, run_program, Result.andThen_ok, hi, Sem.run_pure], h1.2.1, h1.1⟩
theorem TF.run_und : ∃ u, (underlying t).run P w = .ok u w /\ jK u = ti.und /\ vL u = ti.agg := by
 have h1 := h.und
 have h2 := h.agg
 cases hi : P.underlying t with
 | none => rw [hi] at h1; cases h1
 | some u =>
  rw [hi] at h1 h2; simp only [Option.map_some, Option.some.injEq] at h1 h2;exact ⟨u, by simp only [underlying, Sem.run_bind, run_program, Result.andThen_ok, hi, Sem.run_pure], h1, h2⟩
theorem TF.run_isAgg : (isAgg t).run P w = .ok ti.agg w := by
 obtain ⟨u, hu, _, ha⟩ := h.run_und w
 simp only [isAgg, Sem.run_bind, hu, Result.andThen_ok];rw [<- ha]
 cases u <;> rfl
theorem TF.run_slice {e : TypeId} (he : ti.und = .slice e) : (underlying t).run P w = .ok (.slice e) w := by
 obtain ⟨u, hu, hd, _⟩ := h.run_und w
 rw [he] at hd
 cases u <;> simp only [jK] at hd <;> cases hd
 exact hu
theorem TF.run_array {m : Nat} {e : TypeId} (he : ti.und = .array m e) : (underlying t).run P w = .ok (.array m e) w := by
 obtain ⟨u, hu, hd, _⟩ := h.run_und w
 rw [he] at hd
 cases u <;> simp only [jK] at hd <;> cases hd
 exact hu
theorem TF.run_int {k : IntKind} (he : ti.und = .int k) : (underlying t).run P w = .ok (.int k) w := by
 obtain ⟨u, hu, hd, _⟩ := h.run_und w
 rw [he] at hd
 cases u <;> simp only [jK] at hd <;> cases hd
 exact hu
theorem TF.run_string (he : ti.und = .string) : (underlying t).run P w = .ok .string w := by
 obtain ⟨u, hu, hd, _⟩ := h.run_und w
 rw [he] at hd
 cases u <;> simp only [jK] at hd <;> cases hd
 exact hu
theorem TF.run_bool (he : ti.und = .bool) : (underlying t).run P w = .ok .bool w := by
 obtain ⟨u, hu, hd, _⟩ := h.run_und w
 rw [he] at hd
 cases u <;> simp only [jK] at hd <;> cases hd
 exact hu
theorem TF.run_struct {fs : List (Nat × TypeId)} (he : ti.und = .struct fs) : ∃ fields : Array Field, (underlying t).run P w = .ok (.struct fields) w /\
  fields.toList.map (fun f => (f.offset, f.type)) = fs := by
 obtain ⟨u, hu, hd, _⟩ := h.run_und w
 rw [he] at hd
 cases u <;> simp only [jK] at hd <;> cases hd
 exact ⟨_, hu, rfl⟩
end

end Go.Proofs.YtnoildlijhapaaaGreatDoor

/- What each operation does to the abstract state. No condition. -/
namespace Go.Proofs.YtnoildlijhapaaaGreatDoor

def lS (v : Value) : SC :=
 match v with
 | .slice none 0 0 => .nil
 | .bool _ | .int _ _ | .string _ => .d (.lit v)
 | _ => .bad

def nk : Value -> SV
 | .slice none 0 0 => .val (.one .nil)
 | .bool b => .val (.one (.d (.lit (.bool b))))
 | .int k n => .val (.one (.d (.lit (.int k n))))
 | .string s => .val (.one (.d (.lit (.string s))))
 | .agg cs => if cs.toList.all Value.oneCell' then .val (.agg (cs.toList.map lS)) else .none
 | _ => .none

def opd (st : St) : Operand -> SV
 | .tmp t => st.get t
 | .const v => nk v
 | .func f => .fn f none
 | _ => .none

def cellsOf : VV -> List SC
 | .one c => [c]
 | .agg cs => cs
def qe (agg : Bool) (cs : List SC) : Option VV :=
 if agg then some (.agg cs) else match cs with
  | [c] => some (.one c)
  | _ => none
def SC.data? : SC -> Option DC
 | .d c => some c
 | .nil => some (.sl [])
 | _ => none
def eD : List SC -> Option (List DC)
 | [] => some []
 | c :: cs => match c.data?, eD cs with
  | some d, some ds => some (d :: ds)
  | _, _ => none
def iC {α : Type} (l : List α) : Nat -> List α -> List α
 | _, [] => l
 | k, v :: vs => iC (l.set k v) (k + 1) vs

inductive Eff where
 | set (v : SV)
 | new (o : OO) (v : Nat -> SV)
 | upd (σ : ca) (rb : List Nat)
 | app (id : Option Nat) (sz : Nat) (es : List (List DC))
 | call (f : FuncId) (args : List SV)
 | stuck

def eK : BinOp -> Value -> Value -> Option Value
 | .shl, .int k a, .int _ b => if b < 0 then none else some (.int k (k.wrap (a * 2 ^ (min b.toNat k.bits))))
 | .shr, .int k a, .int _ b => if b < 0 then none else some (.int k (a.fdiv (2 ^ (min b.toNat k.bits))))
 | .add, .int k a, .int k' b => if k = k' then some (.int k (k.wrap (a + b))) else none
 | .sub, .int k a, .int k' b => if k = k' then some (.int k (k.wrap (a - b))) else none
 | .mul, .int k a, .int k' b => if k = k' then some (.int k (k.wrap (a * b))) else none
 | .quo, .int k a, .int k' b => if k = k' then if b = 0 then none else some (.int k (k.wrap (a.tdiv b))) else none
 | .rem, .int k a, .int k' b => if k = k' then if b = 0 then none else some (.int k (a.tmod b)) else none
 | .and, .int k a, .int k' b => if k = k' then some (.int k (k.wrap ((BitVec.ofInt k.bits a &&& BitVec.ofInt k.bits b).toNat))) else none
 | .or, .int k a, .int k' b => if k = k' then some (.int k (k.wrap ((BitVec.ofInt k.bits a ||| BitVec.ofInt k.bits b).toNat))) else none
 | .xor, .int k a, .int k' b => if k = k' then some (.int k (k.wrap ((BitVec.ofInt k.bits a ^^^ BitVec.ofInt k.bits b).toNat))) else none
 | .andNot, .int k a, .int k' b => if k = k' then some (.int k (k.wrap ((BitVec.ofInt k.bits a &&& ~~~ BitVec.ofInt k.bits b).toNat))) else none
 | .eql, .int k a, .int k' b => if k = k' then some (.bool (a == b)) else none
 | .neq, .int k a, .int k' b => if k = k' then some (.bool (a != b)) else none
 | .lss, .int k a, .int k' b => if k = k' then some (.bool (a < b)) else none
 | .leq, .int k a, .int k' b => if k = k' then some (.bool (a <= b)) else none
 | .gtr, .int k a, .int k' b => if k = k' then some (.bool (a > b)) else none
 | .geq, .int k a, .int k' b => if k = k' then some (.bool (a >= b)) else none
 | .eql, .string a, .string b => some (.bool (a.toList == b.toList))
 | .neq, .string a, .string b => some (.bool (!(a.toList == b.toList)))
 | .add, .string a, .string b => if a.size + b.size <= 4611686018427387904 then some (.string (a ++ b)) else none
 | _, _, _ => none

def unA : UnOp -> Value -> Option Value
 | .neg, .int k n => some (.int k (k.wrap (0 - n)))
 | .xor, .int k n => some (.int k (k.wrap ((BitVec.ofInt k.bits (if k.signed then -1 else k.max) ^^^ BitVec.ofInt k.bits n).toNat)))
 | .not, .bool b => some (.bool !b)
 | _, _ => none

def b6 : SV -> Option Value
 | .val (.one (.d (.lit v))) => some v
 | _ => none
def bX : SV -> Option (IntKind × Int)
 | .val (.one (.d (.lit (.int k n)))) => some (k, n)
 | _ => none
def aT (v : Value) : Eff := .set (.val (.one (.d (.lit v))))

def lR (T : Tab) (t : TypeId) : Bool :=
 match T t with
 | some ti => match ti.und with
  | .bool => true
  | _ => false
 | none => false
def mH : List SC -> Option (List Int)
 | [] => some []
 | .d (.lit (.int .i64 n)) :: cs => match mH cs with
  | some l => some (n :: l)
  | none => none
 | _ => none
def qG (T : Tab) (op : BinOp) (t : TypeId) (x y : SV) : Eff :=
 match T.eqs t, x, y with
 | some n, .val (.agg cs), .val (.agg ds) => match mH cs, mH ds with
  | some a, some b => if a.length = n /\ b.length = n then match op with
    | .eql => aT (.bool (a == b))
    | .neq => aT (.bool (!(a == b)))
    | _ => .stuck else .stuck
  | _, _ => .stuck
 | _, _, _ => .stuck
def aF (T : Tab) (op : BinOp) (t : TypeId) (x y : SV) : Eff :=
 match b6 x, b6 y with
 | some a, some b => match eK op a b with
  | some v => aT v
  | none => match op, a, b with
   | .eql, .bool p, .bool q => if lR T t then aT (.bool (p == q)) else .stuck
   | .neq, .bool p, .bool q => if lR T t then aT (.bool (!(p == q))) else .stuck
   | _, _, _ => .stuck
 | _, _ => qG T op t x y
def mU (op : UnOp) (x : SV) : Eff :=
 match b6 x with
 | some a => match unA op a with
  | some v => aT v
  | none => .stuck
 | none => .stuck
def ii (c a b : SV) : Eff :=
 match b6 c with
 | some (.bool t) => .set (if t then a else b)
 | _ => .stuck
def gi (T : Tab) (src dst : TypeId) (x : SV) : Eff :=
 match T src, T dst, bX x with
 | some _, some td, some (_, n) => match td.und with
  | .int k => aT (.int k (k.wrap n))
  | _ => .stuck
 | _, _, _ => .stuck
def bp (T : Tab) (st : St) (t : TypeId) (x : SV) : Eff :=
 match T t with
 | none => .stuck
 | some ti => match x with
  | .ptr id off => match st.σ id with
   | some (.box cs) => if off + ti.size <= cs.length then match qe ti.agg ((cs.drop off).take ti.size) with
    | some v => .set (.val v)
    | none => .stuck else .stuck
   | _ => .stuck
  | .pe id sz i j => match st.σ id with
   | some (.arr sz' es) => if sz' = sz then match es[i]? with
    | some e => if j + ti.size <= e.length then match qe ti.agg (((e.drop j).take ti.size).map .d) with
     | some v => .set (.val v)
     | none => .stuck else .stuck
    | none => .stuck else .stuck
   | some (.box cs) => if i * sz + j + ti.size <= cs.length then match qe ti.agg ((cs.drop (i * sz + j)).take ti.size) with
    | some v => .set (.val v)
    | none => .stuck else .stuck
   | _ => .stuck
  | .pd cs => if 0 < ti.size /\ ti.size <= cs.length then match qe ti.agg ((cs.take ti.size).map .d) with
    | some v => .set (.val v)
    | none => .stuck else .stuck
  | _ => .stuck
def aQ (σ : ca) (id : Nat) (o : OO) : ca := fun k => if k = id then some o else σ k
def bu (T : Tab) (st : St) (t : TypeId) (x y : SV) : Eff :=
 match T t, y with
 | some ti, .val v => if (cellsOf v).length = ti.size then match x with
  | .ptr id off => match st.σ id with
   | some (.box cs) => if off + ti.size <= cs.length then
     .upd (aQ st.σ id (.box (iC cs off (cellsOf v)))) (if (cellsOf v).all SC.noOwn then st.rb else id :: st.rb) else .stuck
   | _ => .stuck
  | .pe id sz i j => match st.σ id, eD (cellsOf v) with
   | some (.arr sz' es), some ds => if sz' = sz then match es[i]? with
    | some e => if j + ti.size <= e.length then .upd (aQ st.σ id (.arr sz (es.set i (iC e j ds)))) st.rb else .stuck
    | none => .stuck else .stuck
   | some (.box cs), _ => if i * sz + j + ti.size <= cs.length then
     .upd (aQ st.σ id (.box (iC cs (i * sz + j) (cellsOf v)))) (if (cellsOf v).all SC.noOwn then st.rb else id :: st.rb) else .stuck
   | _, _ => .stuck
  | _ => .stuck else .stuck
 | _, _ => .stuck
def b9 (T : Tab) (s : TypeId) (x : SV) (f : Nat) : Eff :=
 match T s with
 | some si => match si.und with
  | .struct fs => match fs[f]? with
   | some (off, t) => match T t with
    | some ti => if ti.size = 0 then .stuck else match x with
     | .ptr id o => .set (.ptr id (o + off))
     | .pe id sz i j => .set (.pe id sz i (j + off))
     | .pd cs => .set (.pd (cs.drop off))
     | _ => .stuck
    | none => .stuck
   | none => .stuck
  | _ => .stuck
 | none => .stuck
def gP (T : Tab) (s : TypeId) (x : SV) (f : Nat) : Eff :=
 match T s, x with
 | some si, .val (.agg cs) => match si.und with
  | .struct fs => match fs[f]? with
   | some (off, t) => match T t with
    | some ti => if off + ti.size <= cs.length then match qe ti.agg ((cs.drop off).take ti.size) with
     | some v => .set (.val v)
     | none => .stuck else .stuck
    | none => .stuck
   | none => .stuck
  | _ => .stuck
 | _, _ => .stuck
def aU (T : Tab) (t : TypeId) (x i : SV) : Eff :=
 match T t, bX i with
 | some ti, some (_, n) => match ti.und with
  | .slice e => match T e with
   | some ei => if 0 <= n then match x with
    | .val (.one (.own id sz off len)) => if sz = ei.size /\ n < len then .set (.pe id sz (off + n.toNat) 0) else .stuck
    | .val (.one (.d (.sl es))) => match es[n.toNat]? with
     | some el => if el.length = ei.size then .set (.pd el) else .stuck
     | none => .stuck
    | _ => .stuck else .stuck
   | none => .stuck
  | .array m e => match T e with
   | some ei => if 0 <= n /\ n < m then match x with
    | .ptr id o => .set (.ptr id (o + n.toNat * ei.size))
    | _ => .stuck else .stuck
   | none => .stuck
  | _ => .stuck
 | _, _ => .stuck
def dO (x : SV) (i : Nat) : Eff :=
 match x with
 | .tup xs => match xs[i]? with
  | some v => .set (.val v)
  | none => .stuck
 | _ => .stuck
def eh : SV -> Option Nat
 | .val (.one (.own _ _ _ len)) => some len
 | .val (.one (.d (.sl es))) => some es.length
 | .val (.one .nil) => some 0
 | _ => none
def kq (T : Tab) (t : TypeId) (x : SV) : Eff :=
 match T t with
 | some ti => match ti.und with
  | .slice _ => match eh x with
   | some n => aT (.int .i64 n)
   | none => .stuck
  | _ => .stuck
 | none => .stuck
def og (T : Tab) (fs : List (Nat × TypeId)) : List SC -> List (Nat × SV) -> Option (List SC)
 | cs, [] => some cs
 | cs, (i, .val v) :: rest => match fs[i]? with
  | some (off, t) => match T t with
   | some ti => if (cellsOf v).length = ti.size /\ off + ti.size <= cs.length then og T fs (iC cs off (cellsOf v)) rest else none
   | none => none
  | none => none
 | _, _ => none
def gS (T : Tab) (t : TypeId) (parts : List (Nat × SV)) : Eff :=
 match T t with
 | some ti => match ti.und with
  | .struct fs => if fs.all (fun p => (T p.2).isSome) then match og T fs ti.zero parts with
   | some cs => .set (.val (.agg cs))
   | none => .stuck else .stuck
  | _ => .stuck
 | none => .stuck
def nH (ei : TI) : List DC := (eD ei.zero).getD []
def kU (sz : Nat) : List (List DC) -> List (Nat × SV) -> Option (List (List DC))
 | es, [] => some es
 | es, (i, .val v) :: rest => match eD (cellsOf v) with
  | some ds => if ds.length = sz /\ i < es.length then kU sz (es.set i ds) rest else none
  | none => none
 | _, _ => none
def aR (T : Tab) (t : TypeId) (len : Nat) (parts : List (Nat × SV)) : Eff :=
 match T t with
 | some ti => match ti.und with
  | .slice e => match T e with
   | some ei => if len * ei.size <= 2 ^ 24 /\ ei.size ≠ 0 then match kU ei.size (List.replicate len (nH ei)) parts with
    | some es => .new (.arr ei.size es) (fun d => .val (.one (.own d ei.size 0 len)))
    | none => .stuck else .stuck
   | none => .stuck
  | _ => .stuck
 | none => .stuck
def lW (ei : TI) (n : Nat) : OO :=
 match ei.zero with
 | [.nil] => .box (List.replicate n .nil)
 | _ => .arr ei.size (List.replicate n (nH ei))
def bM (T : Tab) (t : TypeId) (len : Nat) (parts : List (Nat × SV)) : Eff :=
 match aR T t len parts with
 | .new (.arr _ es) _ => .set (.val (.one (.d (.sl es))))
 | _ => .stuck
def aY (T : Tab) (t : TypeId) (l c : SV) : Eff :=
 match T t, bX l, bX c with
 | some ti, some (_, n), some (_, m) => match ti.und with
  | .slice e => match T e with
   | some ei => if 0 <= n /\ n <= m /\ Nat.ble m.toNat 1099511627776 = true /\ ei.bytes <= 256 /\ ei.size ≠ 0 then
     .new (lW ei n.toNat) (fun d => .val (.one (.own d ei.size 0 n.toNat))) else .stuck
   | none => .stuck
  | _ => .stuck
 | _, _, _ => .stuck
def sb : SV -> Option ByteArray
 | .val (.one (.d (.lit (.string s)))) => some s
 | _ => none
def ci (T : Tab) (t : TypeId) (x : SV) (l h : Int) : Eff :=
 match T t with
 | some ti => match ti.und with
  | .string => match sb x with
   | some s => if 0 <= l /\ l <= h /\ h <= s.size then aT (.string (s.extract l.toNat h.toNat)) else .stuck
   | none => .stuck
  | .slice e => match T e with
   | some ei => match eh x with
    | some n => if 0 <= l /\ l <= h /\ h <= n then
      if l = h then .set (.val (.one (.d (.sl [])))) else match x with
      | .val (.one (.own id sz off _)) => if sz = ei.size then .set (.val (.one (.own id sz (off + l.toNat) (h - l).toNat))) else .stuck
      | .val (.one (.d (.sl es))) => if es.all (fun e => e.length == ei.size) then .set (.val (.one (.d (.sl ((es.take h.toNat).drop l.toNat))))) else .stuck
      | _ => .stuck else .stuck
    | none => .stuck
   | none => .stuck
  | _ => .stuck
 | none => .stuck
def loI (f : Operand -> SV) : Option Operand -> Option Int
 | none => some 0
 | some o => (bX (f o)).map (·.2)
def hiI (f : Operand -> SV) (x : SV) : Option Operand -> Option Int
 | none => (eh x).map fun n => (n : Int)
 | some o => (bX (f o)).map (·.2)
def dw (T : Tab) (st : St) (t : TypeId) (x : SV) (lo hi : Option Operand) : Eff :=
 match loI (opd st) lo, hiI (opd st) x hi with
 | some l, some h => ci T t x l h
 | _, _ => .stuck
def dt (st : St) : SV -> Option (List (List DC))
 | .val (.one (.d (.sl es))) => some es
 | .val (.one .nil) => some []
 | .val (.one (.own id sz off len)) => match st.σ id with
  | some (.arr sz' es) => if sz' = sz /\ off + len <= es.length then some ((es.drop off).take len) else none
  | _ => none
 | _ => none
def aP (T : Tab) (st : St) (t t2 : TypeId) (s x : SV) : Eff :=
 match T t, T t2 with
 | some ti, some ti2 => match ti.und, ti2.und with
  | .slice e, .slice _ => match T e, dt st x with
   | some ei, some new => if ei.size ≠ 0 /\ ei.bytes <= 256 /\ new.all (fun e => e.length == ei.size) then match s with
    | .val (.one .nil) => if 0 < new.length /\ new.length <= 2 ^ 36 then .app none ei.size new else .stuck
    | .val (.one (.own id sz 0 len)) => match st.σ id with
     | some (.arr sz' es) => if sz = ei.size /\ sz' = sz /\ len = es.length /\ len + new.length <= 2 ^ 36 then .app (some id) sz (es ++ new) else .stuck
     | _ => .stuck
    | _ => .stuck else .stuck
   | _, _ => .stuck
  | _, _ => .stuck
 | _, _ => .stuck
def ow (max : Bool) (x y : SV) : Eff :=
 match bX x, bX y with
 | some (k, a), some (k', b) => if k = k' then aT (.int k (if max then (if b > a then b else a) else (if b < a then b else a))) else .stuck
 | _, _ => .stuck
def cG (st : St) : SC -> Option DC
 | .d c => some c
 | .nil => some (.sl [])
 | .own id sz off len => match st.σ id with
  | some (.arr sz' es) => if sz' = sz /\ off + len <= es.length then some (.sl ((es.drop off).take len)) else none
  | _ => none
 | .bad => none
def bw (st : St) : List SC -> Option (List SC)
 | [] => some []
 | c :: cs => match cG st c, bw st cs with
  | some d, some ds => some (.d d :: ds)
  | _, _ => none
def j6 (st : St) (id : Nat) : Option (List DC) :=
 match st.σ id with
 | some (.box cs) => match bw st cs with
  | some ds => eD ds
  | none => none
 | _ => none
def eE (st : St) : SV -> Option SV
 | .val (.one c) => match cG st c with
  | some d => some (.val (.one (.d d)))
  | none => none
 | .val (.agg cs) => match bw st cs with
  | some ds => some (.val (.agg ds))
  | none => none
 | .pd cs => some (.pd cs)
 | .fn f c => some (.fn f c)
 | _ => none
def bR (st : St) : List SV -> Option (List SV)
 | [] => some []
 | x :: xs => match eE st x, bR st xs with
  | some y, some ys => some (y :: ys)
  | _, _ => none
def iN (T : Tab) (st : St) (x : SV) (xs : List SV) : Eff :=
 match x with
 | .clo f id => match bR st xs, j6 st id with
  | some ys, some ds => match T.clo f (ys ++ [.pd ds]) with
   | some v => .set v
   | none => .stuck
  | _, _ => .stuck
 | _ => .stuck
def cD (T : Tab) (t : TypeId) (x i : SV) : Eff :=
 match T t, b6 x, bX i with
 | some ti, some (.string s), some (_, n) => match ti.und with
  | .string => if 0 <= n then match s[n.toNat]? with
   | some b => aT (.int .u8 b.toNat)
   | none => .stuck else .stuck
  | _ => .stuck
 | _, _, _ => .stuck
def b8 (f : FuncId) (captured : List SV) : Eff :=
 match captured with
 | [.ptr id 0] => .set (.clo f id)
 | _ => .stuck
def vK : SV -> Bool
 | .ptr _ _ | .pe _ _ _ _ | .pd _ => true
 | _ => false

def aV (T : Tab) (st : St) (callee : Callee) (xs : List SV) (ts : List TypeId) : Eff :=
 match callee, xs, ts with
 | .builtin .len, [x], [t] => kq T t x
 | .builtin .append, [s, x], [t, t2] => aP T st t t2 s x
 | .builtin .max, [x, y], _ => ow true x y
 | .builtin .min, [x, y], _ => ow false x y
 | .value (.func f), xs, _ => .call f xs
 | .value (.tmp t), xs, _ => iN T st (st.get t) xs
 | _, _, _ => .stuck

def eff (T : Tab) (st : St) (o : Oper) : Eff :=
 match o.op with
 | .move x | .assign x => .set (opd st x)
 | .pick c a b => ii (opd st c) (opd st a) (opd st b)
 | .box _ x => match opd st x with
  | .val v => .new (.box (cellsOf v)) (fun d => .ptr d 0)
  | _ => .stuck
 | .alloc e => match T e with
  | some ti => .new (.box ti.zero) (fun d => .ptr d 0)
  | none => .stuck
 | .build t parts => gS T t (parts.toList.map fun p => (p.1, opd st p.2))
 | .buildSlice t len parts => if T.dat t then bM T t len (parts.toList.map fun p => (p.1, opd st p.2)) else aR T t len (parts.toList.map fun p => (p.1, opd st p.2))
 | .load t x => bp T st t (opd st x)
 | .store t x y => bu T st t (opd st x) (opd st y)
 | .nilCheck x => if vK (opd st x) then .set (opd st x) else .stuck
 | .binOp op t x y _ => aF T op t (opd st x) (opd st y)
 | .unOp op _ x => mU op (opd st x)
 | .convert src dst x => gi T src dst (opd st x)
 | .makeSlice t l c => aY T t (opd st l) (opd st c)
 | .slice t x lo hi none => dw T st t (opd st x) lo hi
 | .fieldAddr s x f => b9 T s (opd st x) f
 | .field s x f => gP T s (opd st x) f
 | .indexAddr t x i => aU T t (opd st x) (opd st i)
 | .index t x i => cD T t (opd st x) (opd st i)
 | .makeFunc (.func f) first captured => if first.isEmpty then b8 f (captured.toList.map (opd st)) else .stuck
 | .extract x i => dO (opd st x) i
 | .call c => aV T st c.callee (c.args.toList.map (opd st)) c.argTypes.toList
 | _ => .stuck

end Go.Proofs.YtnoildlijhapaaaGreatDoor

/- Operations that only yield a value: what they yield in the model is what the abstract state says. No condition. -/
namespace Go.Proofs.YtnoildlijhapaaaGreatDoor

section
variable {P : Program} {T : Tab} {w : World} {X : Nat -> Prop} {μ : Nat -> Nat}

theorem oX {v : Value} (h : v.oneCell' = true) : RelC w X μ v (lS v) := by
 unfold lS
 split
 ·exact ⟨none, rfl⟩
 ·exact RdC.lit rfl
 ·exact RdC.lit rfl
 ·exact RdC.lit rfl
 ·exact h

theorem rf (v : Value) : RelV w X μ v (nk v) := by
 unfold nk
 split
 ·exact ⟨none, rfl⟩
 ·exact RdC.lit rfl
 ·exact RdC.lit rfl
 ·exact RdC.lit rfl
 ·rename_i cs
  split
  ·rename_i hall
   refine ⟨cs.toList, by simp, by simp, fun i c hc => ?_⟩;rw [List.getElem?_map] at hc
   cases hv : cs.toList[i]? with
   | none => rw [hv] at hc; cases hc
   | some v =>
    rw [hv] at hc; simp at hc; subst hc;exact ⟨v, rfl, oX (List.all_eq_true.1 hall v (List.mem_of_getElem? hv))⟩
  ·trivial
 ·trivial

theorem dT {w0 : Base} {a : Act} {st : St} (hs : Sim w0 X μ a w st) (x : Operand) : RelV w (Mut X μ st.σ) μ (a.eval x) (opd st x) := by
 cases x with
 | tmp t => exact hs.slots t
 | const v => exact rf v
 | global g => trivial
 | func f => rfl

theorem ib {v : Value} {x : SV} {u : Value} (h : RelV w X μ v x) (hl : b6 x = some u) : v = u := by
 unfold b6 at hl
 split at hl
 ·cases hl; cases h; rfl
 ·cases hl

theorem eI {v : Value} {x : SV} {k : IntKind} {n : Int} (h : RelV w X μ v x) (hl : bX x = some (k, n)) : v = .int k n := by
 unfold bX at hl
 split at hl
 ·cases hl; cases h; rfl
 ·cases hl

theorem dh {v : Value} (h : s8 v = true) : RelV w X μ v (.val (.one (.d (.lit v)))) := RdC.lit h

/-! #### Arithmetic -/
theorem tQ {op : BinOp} {x y v : Value} (h : eK op x y = some v) : s8 v = true := by
 unfold eK at h
 split at h <;> first
  | (cases h; done)
  | (cases h; rfl)
  | (split at h <;> first | (cases h; done) | (cases h; rfl) | (split at h <;> first | (cases h; done) | (cases h; rfl)))

theorem wO {op : BinOp} {x y v : Value} (h : eK op x y = some v) (t : TypeId) (ox oy : Operand) :
  ((do eqGuard op t ox oy x y; binOp op t x y) : Sem Value).run P w = .ok v w := by
 unfold eK at h
 split at h <;> first
  | (cases h; done)
  | (cases h; simp [eqGuard, binOp, Op.stringOp]; done)
  | (split at h <;> first
    | (cases h; done)
    | (rename_i hk; subst hk; split at h <;> first
      | (cases h; done)
      | (rename_i hb; cases h; simp [eqGuard, binOp, Op.intDiv, hb]))
    | (rename_i hk; subst hk; cases h; simp [eqGuard, binOp, Op.intArith, Op.intBits, Op.intCmp])
    | (rename_i hb; cases h; simp [eqGuard, binOp, Op.shift, hb]; done)
    | (rename_i hb; cases h; simp [eqGuard, binOp, Op.stringOp, IntKind.max, IntKind.signed, IntKind.bits]; omega))

theorem uj {op : UnOp} {x v : Value} (h : unA op x = some v) : s8 v = true := by
 unfold unA at h
 split at h <;> first | (cases h; done) | (cases h; rfl)

theorem xf {op : UnOp} {x v : Value} (h : unA op x = some v) : (Op.unary op x).run P w = .ok v w := by
 unfold unA at h
 split at h <;> first | (cases h; done) | (cases h; simp [Op.unary, Op.intArith, Op.intBits])

def Yv (P : Program) (w : World) (X : Nat -> Prop) (μ : Nat -> Nat) (s : Sem Value) (v : SV) : Prop := ∃ u, s.run P w = .ok u w /\ RelV w X μ u v

theorem mR (hT : TOK P T) {t : TypeId} (h : lR T t = true) (p q : Bool) : (Op.equal t (.bool p) (.bool q)).run P w = .ok (p == q) w := by
 unfold lR at h
 split at h
 ·rename_i ti hti
  split at h
  ·rename_i hu
   have := (hT.ty _ _ hti).run_bool w hu
   have e : Op.maxDepth = 9999 + 1 := rfl
   unfold Op.equal
   rw [e, Op.equalIn];simp only [Sem.run_bind, this, Result.andThen_ok]
   rfl
  ·cases h
 ·cases h

theorem n4 {vs : List Value} {cs : List SC} {a : List Int} (hr : RelL w X μ vs cs) (h : mH cs = some a) : vs = a.map (Value.int .i64) := by
 induction cs generalizing vs a with
 | nil =>
  simp only [mH, Option.some.injEq] at h; subst h;exact List.length_eq_zero_iff.1 hr.1
 | cons c cs ih =>
  match vs, hr with
  | [], hr => have := hr.1; simp at this
  | v :: vs, hr =>
   have hr' : RelL w X μ vs cs := ⟨by simpa using hr.1, fun i c hc => by have := hr.2 (i + 1) c (by simpa using hc); simpa using this⟩
   obtain ⟨u, hu, hcu⟩ := hr.2 0 c rfl
   simp at hu; subst hu
   unfold mH at h
   split at h
   ·cases ‹_ :: _ = []›
   ·rename_i n cs' heq
    cases heq
    split at h
    ·rename_i l hl
     cases h
     have e : v = .int .i64 n := by
      have hcu : RdC w X v (.lit (.int .i64 n)) := hcu
      cases hcu; rfl
     rw [ih hr' hl, e]; rfl
    ·cases h
   ·cases h
theorem qF (hT : TOK P T) {op : BinOp} {t : TypeId} {ox oy : Operand} {vx vy : Value} {x y v : SV} (hx : RelV w X μ vx x) (hy : RelV w X μ vy y) (h : qG T op t x y = .set v) :
  Yv P w X μ (do eqGuard op t ox oy vx vy; binOp op t vx vy) v := by
 unfold qG at h
 split at h
 ·rename_i n cs ds hn
  split at h
  ·rename_i a b ha hb
   split at h
   ·rename_i hl
    obtain ⟨us, rfl, hu⟩ := hx
    obtain ⟨vs, rfl, hv⟩ := hy
    have := hT.eqs _ _ hn w ox oy a b hl.1 hl.2
    rw [n4 hu ha, n4 hv hb]
    split at h
    ·cases h; exact ⟨_, this.1, dh rfl⟩
    ·cases h; exact ⟨_, this.2, dh rfl⟩
    ·cases h
   ·cases h
  ·cases h
 ·cases h

theorem pw (hT : TOK P T) {op : BinOp} {t : TypeId} {ox oy : Operand} {vx vy : Value} {x y v : SV} (hx : RelV w X μ vx x) (hy : RelV w X μ vy y) (h : aF T op t x y = .set v) :
  Yv P w X μ (do eqGuard op t ox oy vx vy; binOp op t vx vy) v := by
 unfold aF at h
 split at h
 ·rename_i a b ha hb
  have e1 := ib hx ha
  have e2 := ib hy hb
  subst e1; subst e2
  split at h
  ·rename_i u hu
   cases h
   exact ⟨u, wO hu t ox oy, dh (tQ hu)⟩
  ·split at h
   ·split at h
    ·rename_i p q _ hb
     cases h
     refine ⟨_, ?_, dh rfl⟩
     have := mR (w := w) hT hb p q
     simp [eqGuard, binOp, this]
    ·cases h
   ·split at h
    ·rename_i p q _ hb
     cases h
     refine ⟨_, ?_, dh rfl⟩
     have := mR (w := w) hT hb p q
     simp [eqGuard, binOp, this]
    ·cases h
   ·cases h
 ·exact qF hT hx hy h

theorem qE {op : UnOp} {vx : Value} {x v : SV} (hx : RelV w X μ vx x) (h : mU op x = .set v) : Yv P w X μ (Op.unary op vx) v := by
 unfold mU at h
 split at h
 ·rename_i a ha
  have e1 := ib hx ha
  subst e1
  split at h
  ·rename_i u hu; cases h; exact ⟨u, xf hu, dh (uj hu)⟩
  ·cases h
 ·cases h

theorem nC {vc va vb : Value} {c a b v : SV} (hc : RelV w X μ vc c) (ha : RelV w X μ va a) (hb : RelV w X μ vb b) (h : ii c a b = .set v) :
  Yv P w X μ (do pure (if <- asBool vc then va else vb)) v := by
 unfold ii at h
 split at h
 ·rename_i t ht
  have e1 := ib hc ht
  subst e1
  cases h
  refine ⟨if t then va else vb, by simp [asBool], ?_⟩
  cases t
  ·exact hb
  ·exact ha
 ·cases h

theorem nD (hT : TOK P T) {src dst : TypeId} {vx : Value} {x v : SV} (hx : RelV w X μ vx x) (h : gi T src dst x = .set v) : Yv P w X μ (convert src dst vx) v := by
 unfold gi at h
 split at h
 ·rename_i ts td k n hs hd hi
  have e1 := eI hx hi
  subst e1
  split at h
  ·rename_i k' hk
   cases h
   obtain ⟨us, hus, _, _⟩ := (hT.ty _ _ hs).run_und w
   have hud := (hT.ty _ _ hd).run_int w hk
   refine ⟨_, ?_, dh rfl⟩;simp only [convert, Sem.run_bind, hus, hud, Result.andThen_ok]
   cases us <;> rfl
  ·cases h
 ·cases h

theorem kr {vx : Value} {x v : SV} {i : Nat} (hx : RelV w X μ vx x) (h : dO x i = .set v) : Yv P w X μ (Instr.extract vx i) v := by
 unfold dO at h
 split at h
 ·rename_i xs
  split at h
  ·rename_i v' hv
   cases h
   obtain ⟨vs, rfl, _, h3⟩ := hx
   obtain ⟨u, hu, hr⟩ := h3 i v' hv
   exact ⟨u, by simp [Instr.extract, hu], hr⟩
  ·cases h
 ·cases h

theorem pu (hT : TOK P T) {t t' : TypeId} {tys : Array TypeId} {vx : Value} {x v : SV} (ht : tys[0]? = some t) (hx : RelV w X μ vx x) (h : kq T t x = .set v) :
  Yv P w X μ (Builtin.len_ tys t' #[vx]) v := by
 unfold kq at h
 split at h
 ·rename_i ti hti
  split at h
  ·rename_i e he
   split at h
   ·rename_i n hn
    cases h
    have hu := (hT.ty _ _ hti).run_slice w he
    have hv : ∃ a c, vx = .slice a n c := by
     unfold eh at hn
     split at hn
     ·cases hn; obtain ⟨cap, cs, E, fr, rfl, _⟩ := hx; exact ⟨_, _, rfl⟩
     ·cases hn
      cases hx with
      | nil => exact ⟨_, _, rfl⟩
      | sl vs hh hxx hl => subst hl; exact ⟨_, _, rfl⟩
     ·cases hn; obtain ⟨ad, rfl⟩ : ∃ ad, vx = .slice ad 0 0 := hx; exact ⟨_, _, rfl⟩
     ·cases hn
    obtain ⟨a, c, rfl⟩ := hv
    refine ⟨_, ?_, dh rfl⟩;simp only [Builtin.len_, ht, List.getElem?_toArray, List.getElem?_cons_zero, Sem.run_bind, hu, Result.andThen_ok]
    rfl
   ·cases h
  ·cases h
 ·cases h

theorem kV {m : Bool} {vx vy : Value} {x y v : SV} {tys : Array TypeId} {t : TypeId} (hx : RelV w X μ vx x) (hy : RelV w X μ vy y) (h : ow m x y = .set v) :
  Yv P w X μ (if m then Builtin.max_ tys t #[vx, vy] else Builtin.min_ tys t #[vx, vy]) v := by
 unfold ow at h
 split at h
 ·rename_i k a k' b ha hb
  have e1 := eI hx ha
  have e2 := eI hy hb
  subst e1; subst e2
  split at h
  ·rename_i hk; subst hk
   cases h
   refine ⟨_, ?_, dh rfl⟩
   cases m <;> rfl
  ·cases h
 ·cases h

/-! #### Memory -/
theorem iI {agg : Bool} {vs : List Value} {cs : List SC} {v : VV} (h : qe agg cs = some v) (hr : RelL w X μ vs cs) (one : agg = false -> cs.length = 1) :
  RelVV w X μ (mkV agg vs) v := by
 unfold qe at h
 cases agg with
 | true => cases h; exact ⟨vs, rfl, hr⟩
 | false =>
  have h1 := one rfl
  match cs, h1 with
  | [c], _ =>
   simp at h; subst h
   have hl := hr.1
   match vs, hl with
   | [u], _ =>
    obtain ⟨u', hu, hc⟩ := hr.2 0 c rfl
    simp at hu; subst hu
    exact hc

theorem gf {t : TypeId} {ti : TI} (ht : TF P t ti) {b off : Nat} {cs : Array Value} {E : TypeId} {fr : Nat × Nat} (hh : w.heap[b]? = some (.cells cs E fr)) (hle : off + ti.size <= cs.size) :
  (loadVar t ⟨b, off, none⟩).run P w = .ok (mkV ti.agg (cs.extract off (off + ti.size)).toList) w := by
 unfold loadVar
 simp only [Sem.run_bind, ht.run_isAgg, Result.andThen_ok]
 cases ha : ti.agg with
 | true =>
  simp only [if_true, Sem.run_bind, ht.run_sizeOf, Result.andThen_ok, gr hh off ti.size hle, Sem.run_pure, mkV, Array.toArray_toList]
 | false =>
  have h1 := ht.one ha
  rw [h1] at hle ⊢
  have hlt : off < cs.size := by omega
  simp [il hh, hlt, mkV]
  rw [List.drop_eq_getElem_cons (by simpa using hlt)]
  simp

theorem dm {cs : Array Value} {off n : Nat} {l : List SC} (hle : off + n <= cs.size) (hl : l.length = n)
  (h : ∀ (i : Nat) (c : SC), l[i]? = some c -> ∃ x, cs[off + i]? = some x /\ RelC w X μ x c) : RelL w X μ (cs.extract off (off + n)).toList l := by
 refine ⟨by simp; omega, fun i c hc => ?_⟩
 obtain ⟨x, hx, hr⟩ := h i c hc
 refine ⟨x, ?_, hr⟩
 have hi : i < n := by
  rcases Nat.lt_or_ge i n with h' | h'
  ·exact h'
  ·rw [List.getElem?_eq_none (by omega)] at hc; cases hc
 rw [Array.getElem?_toList, Array.getElem?_extract];rw [if_pos (by omega)];exact hx

theorem jj {w0 : Base} {a : Act} {st : St} (hT : TOK P T) (hs : Sim w0 X μ a w st) {t : TypeId} {vx : Value} {x v : SV}
  (hx : RelV w (Mut X μ st.σ) μ vx x) (h : bp T st t x = .set v) : Yv P w (Mut X μ st.σ) μ (Instr.loadAt t vx) v := by
 unfold bp at h
 split at h
 ·cases h
 ·rename_i ti hti
  have ht := hT.ty _ _ hti
  split at h
  ·rename_i id off
   have hx' : vx = .pointer (some ⟨μ id, off, none⟩) := hx
   subst hx'
   split at h
   ·rename_i cs hcs
    split at h
    ·rename_i hle
     split at h
     ·rename_i u hu
      cases h
      obtain ⟨_, cells, E, hh, hsz, hrel⟩ := hs.objs _ _ hcs
      refine ⟨_, ?_, iI hu (vs := (cells.extract off (off + ti.size)).toList) (dm (by omega) (by simp; omega) ?_) ?_⟩
      ·simp only [Instr.loadAt, Instr.sureAddr, Sem.run_bind, Sem.run_pure, Result.andThen_ok, gf ht hh (show off + ti.size <= cells.size by omega)]
      ·intro i c hc
       rw [List.getElem?_take] at hc
       split at hc
       ·rw [List.getElem?_drop] at hc; exact hrel _ _ hc
       ·cases hc
      ·intro ha; have := ht.one ha; simp; omega
     ·cases h
    ·cases h
   ·cases h
  ·rename_i id sz i j
   have hx' : vx = .pointer (some ⟨μ id, i * sz + j, none⟩) := hx
   subst hx'
   split at h
   ·rename_i sz' es hes
    split at h
    ·rename_i hsz; subst hsz
     split at h
     ·rename_i e he
      split at h
      ·rename_i hle
       split at h
       ·rename_i u hu
        cases h
        obtain ⟨_, cells, E, hh, hsz, hlen, hrel⟩ := hs.objs _ _ hes
        have hel := hlen _ _ he
        have hi : i < es.length := (List.getElem?_eq_some_iff.1 he).1
        have hmul : i * sz' + sz' <= es.length * sz' := by rw [<- Nat.succ_mul]; exact Nat.mul_le_mul_right _ hi
        refine ⟨_, ?_, iI hu (vs := (cells.extract (i * sz' + j) (i * sz' + j + ti.size)).toList) (dm (by omega) (by simp; omega) ?_) ?_⟩
        ·simp only [Instr.loadAt, Instr.sureAddr, Sem.run_bind, Sem.run_pure, Result.andThen_ok, gf ht hh (show i * sz' + j + ti.size <= cells.size by omega)]
        ·intro k c hc
         rw [List.getElem?_map] at hc
         cases hd : ((e.drop j).take ti.size)[k]? with
         | none => rw [hd] at hc; cases hc
         | some d =>
          rw [hd] at hc; simp at hc; subst hc;rw [List.getElem?_take] at hd
          split at hd
          ·rw [List.getElem?_drop] at hd
           obtain ⟨x, hx1, hx2⟩ := hrel i (j + k) d (by simp [at2, he, hd])
           exact ⟨x, by rw [<- hx1]; congr 1; omega, hx2⟩
          ·cases hd
        ·intro ha; have := ht.one ha; simp; omega
       ·cases h
      ·cases h
     ·cases h
    ·cases h
   ·rename_i cs hcs
    split at h
    ·rename_i hle
     split at h
     ·rename_i u hu
      cases h
      obtain ⟨_, cells, E, hh, hsz, hrel⟩ := hs.objs _ _ hcs
      refine ⟨_, ?_, iI hu (vs := (cells.extract (i * sz + j) (i * sz + j + ti.size)).toList) (dm (by omega) (by simp; omega) ?_) ?_⟩
      ·simp only [Instr.loadAt, Instr.sureAddr, Sem.run_bind, Sem.run_pure, Result.andThen_ok, gf ht hh (show i * sz + j + ti.size <= cells.size by omega)]
      ·intro i c hc
       rw [List.getElem?_take] at hc
       split at hc
       ·rw [List.getElem?_drop] at hc; exact hrel _ _ hc
       ·cases hc
      ·intro ha; have := ht.one ha; simp; omega
     ·cases h
    ·cases h
   ·cases h
  ·rename_i cs
   obtain ⟨b, off, cells, E, fr, hv, hh, _, hrel⟩ := hx
   subst hv
   split at h
   ·rename_i hle
    split at h
    ·rename_i u hu
     cases h
     have hsz : off + ti.size <= cells.size := by
      have : ti.size - 1 < cs.length := by omega
      obtain ⟨x, hx1, _⟩ := hrel (ti.size - 1) _ (List.getElem?_eq_getElem this)
      have := (Array.getElem?_eq_some_iff.1 hx1).1
      omega
     refine ⟨_, ?_, iI hu (vs := (cells.extract off (off + ti.size)).toList) (dm hsz (by simp; omega) ?_) ?_⟩
     ·simp only [Instr.loadAt, Instr.sureAddr, Sem.run_bind, Sem.run_pure, Result.andThen_ok, gf ht hh hsz]
     ·intro k c hc
      rw [List.getElem?_map] at hc
      cases hd : (cs.take ti.size)[k]? with
      | none => rw [hd] at hc; cases hc
      | some d =>
       rw [hd] at hc; simp at hc; subst hc;rw [List.getElem?_take] at hd
       split at hd
       ·exact hrel _ _ hd
       ·cases hd
     ·intro ha; have := ht.one ha; simp; omega
    ·cases h
   ·cases h
  ·cases h

theorem jz (hT : TOK P T) {s : TypeId} {vx : Value} {x v : SV} {f : Nat} (hx : RelV w X μ vx x) (h : b9 T s x f = .set v) :
  Yv P w X μ (Instr.fieldAt s vx f) v := by
 unfold b9 at h
 split at h
 ·rename_i si hsi
  split at h
  ·rename_i fs hfs
   split at h
   ·rename_i off t hf
    split at h
    ·rename_i ti hti
     split at h
     ·cases h
     ·rename_i hne
      obtain ⟨fields, hu, hfl⟩ := (hT.ty _ _ hsi).run_struct w hfs
      rw [<- hfl, List.getElem?_map] at hf
      cases hfi : fields.toList[f]? with
      | none => rw [hfi] at hf; cases hf
      | some fd =>
       rw [hfi] at hf;simp only [Option.map_some, Option.some.injEq, Prod.mk.injEq] at hf;rw [Array.getElem?_toList] at hfi
       have hsize := (hT.ty _ _ hti).run_sizeOf w
       have go : ∀ b o, (Instr.fieldAt s (.pointer (some ⟨b, o, none⟩)) f).run P w = .ok (.pointer (some ⟨b, o + off, none⟩)) w := by
        intro b o
        simp only [Instr.fieldAt, Sem.run_bind, hu, Result.andThen_ok, hfi, Instr.sureAddr, Sem.run_pure, fieldPlace, hf.1, hf.2, hsize, if_neg hne, d6]
       split at h
       ·cases h; cases hx; exact ⟨_, go _ _, rfl⟩
       ·cases h; cases hx; exact ⟨_, go _ _, by show _ = _; rw [Nat.add_assoc]⟩
       ·rename_i cs
        cases h
        obtain ⟨b, o, cells, E, fr, rfl, hh, hX, hrel⟩ := hx
        refine ⟨_, go _ _, b, o + off, cells, E, fr, rfl, hh, hX, fun j d hd => ?_⟩;rw [List.getElem?_drop] at hd
        obtain ⟨x, h1, h2⟩ := hrel _ _ hd
        exact ⟨x, by rw [<- h1]; congr 1; omega, h2⟩
       ·cases h
    ·cases h
   ·cases h
  ·cases h
 ·cases h

theorem uI {t : TypeId} {ti : TI} (ht : TF P t ti) (cs : Array Value) {off : Nat} (hle : off + ti.size <= cs.size) :
  (part t cs off).run P w = .ok (mkV ti.agg (cs.extract off (off + ti.size)).toList) w := by
 unfold part
 simp only [Sem.run_bind, ht.run_isAgg, Result.andThen_ok]
 cases ha : ti.agg with
 | true => simp only [if_true, Sem.run_bind, ht.run_sizeOf, Result.andThen_ok, Sem.run_pure, mkV, Array.toArray_toList]
 | false =>
  have h1 := ht.one ha
  rw [h1] at hle ⊢
  have hlt : off < cs.size := by omega
  simp [hlt, mkV]
  rw [List.drop_eq_getElem_cons (by simpa using hlt)]
  simp

theorem mX (hT : TOK P T) {s : TypeId} {vx : Value} {x v : SV} {f : Nat} (hx : RelV w X μ vx x) (h : gP T s x f = .set v) :
  Yv P w X μ (Instr.field s vx f) v := by
 unfold gP at h
 split at h
 ·rename_i si cs hsi
  split at h
  ·rename_i fs hfs
   split at h
   ·rename_i off t hf
    split at h
    ·rename_i ti hti
     split at h
     ·rename_i hle
      split at h
      ·rename_i u hu
       cases h
       obtain ⟨fields, hun, hfl⟩ := (hT.ty _ _ hsi).run_struct w hfs
       rw [<- hfl, List.getElem?_map] at hf
       cases hfi : fields.toList[f]? with
       | none => rw [hfi] at hf; cases hf
       | some fd =>
        rw [hfi] at hf;simp only [Option.map_some, Option.some.injEq, Prod.mk.injEq] at hf;rw [Array.getElem?_toList] at hfi
        obtain ⟨vs, rfl, hl, hrel⟩ := hx
        have ht := hT.ty _ _ hti
        refine ⟨_, ?_, iI hu (vs := (vs.toArray.extract off (off + ti.size)).toList) (dm (by simp; omega) (by simp; omega) ?_) ?_⟩
        ·simp only [Instr.field, Sem.run_bind, hun, Result.andThen_ok, hfi, asAgg, Sem.run_pure, hf.1, hf.2];exact uI ht _ (by simp; omega)
        ·intro i c hc
         rw [List.getElem?_take] at hc
         split at hc
         ·rw [List.getElem?_drop] at hc
          obtain ⟨x, h1, h2⟩ := hrel _ _ hc
          exact ⟨x, by simpa using h1, h2⟩
         ·cases hc
        ·intro ha; have := ht.one ha; simp; omega
      ·cases h
     ·cases h
    ·cases h
   ·cases h
  ·cases h
 ·cases h

theorem mW (hT : TOK P T) {t : TypeId} {vx vi : Value} {x i v : SV} (hx : RelV w X μ vx x) (hi : RelV w X μ vi i) (h : cD T t x i = .set v) :
  Yv P w X μ (Instr.index t vx vi) v := by
 unfold cD at h
 split at h
 ·rename_i ti s k n hti hs hn
  have e1 := eI hi hn
  have e2 := ib hx hs
  subst e1 e2
  have ht := hT.ty _ _ hti
  split at h
  ·rename_i hu
   split at h
   ·rename_i h0
    split at h
    ·rename_i b hb
     cases h
     refine ⟨.int .u8 b.toNat, ?_, .lit rfl⟩;simp only [Instr.index, asIntOf, Sem.run_bind, Sem.run_pure, Result.andThen_ok, ht.run_string w hu, if_pos h0, hb]
    ·cases h
   ·cases h
  ·cases h
 ·cases h
theorem j2 {f : FuncId} {vs : List Value} {xs : List SV} {v : SV} (hl : vs.length = xs.length) (hx : ∀ (i : Nat) (x : SV), xs[i]? = some x -> ∃ u, vs[i]? = some u /\ RelV w X μ u x) (h : b8 f xs = .set v) :
  Yv P w X μ (Instr.makeFunc (.func f) #[] vs.toArray) v := by
 unfold b8 at h
 split at h
 ·rename_i id
  cases h
  obtain ⟨u, h1, h2⟩ := hx 0 _ rfl
  match vs, hl with
  | [u'], _ =>
   simp at h1; subst h1
   exact ⟨_, rfl, by show _ = _; rw [show u' = _ from h2]⟩
 ·cases h
theorem jy (hT : TOK P T) {t : TypeId} {vx vi : Value} {x i v : SV} (hx : RelV w X μ vx x) (hi : RelV w X μ vi i) (h : aU T t x i = .set v) :
  Yv P w X μ (Instr.indexAt t vx vi) v := by
 unfold aU at h
 split at h
 ·rename_i ti k n hti hn
  have e1 := eI hi hn
  subst e1
  split at h
  ·rename_i e he
   split at h
   ·rename_i ei hei
    split at h
    ·rename_i h0
     have hu := (hT.ty _ _ hti).run_slice w he
     have hsz := (hT.ty _ _ hei).run_sizeOf w
     have go : ∀ b o len cap, n < (len : Nat) -> (Instr.indexAt t (.slice (some ⟨b, o, none⟩) len cap) (.int k n)).run P w = .ok (.pointer (some ⟨b, o + n.toNat * ei.size, none⟩)) w := by
      intro b o len cap hlt
      simp only [Instr.indexAt, asIntOf, Sem.run_bind, Sem.run_pure, Result.andThen_ok, hu, if_pos (And.intro h0 hlt), hsz, d6]
     split at h
     ·rename_i id sz off len
      split at h
      ·rename_i hc
       cases h
       obtain ⟨cap, cs, E, fr, rfl, hle, hh, hcap⟩ := hx
       refine ⟨_, go _ _ _ _ hc.2, ?_⟩
       show _ = _
       rw [hc.1, Nat.add_mul]
       rfl
      ·cases h
     ·rename_i es
      split at h
      ·rename_i el hel
       split at h
       ·rename_i hsz'
        cases h
        cases hx with
        | nil => simp at hel
        | sl vs hh hX hl hcap hs hv hr =>
         rename_i b off len cap sz cs E fr
         have hlt := (List.getElem?_eq_some_iff.1 hel).1
         have hs' := hs _ _ hel
         refine ⟨_, go _ _ _ _ (by omega), b, off + n.toNat * ei.size, cs, E, fr, rfl, hh, hX, fun j d hd => ?_⟩
         have hat : at2 es n.toNat j = some d := by simp [at2, hel, hd]
         refine ⟨vs n.toNat j, ?_, hr _ _ _ hat⟩;rw [<- hv _ _ _ hat, <- hs', hsz']
       ·cases h
      ·cases h
     ·cases h
    ·cases h
   ·cases h
  ·rename_i m e he
   split at h
   ·rename_i ei hei
    split at h
    ·rename_i h0
     have hu := (hT.ty _ _ hti).run_array w he
     have hsz := (hT.ty _ _ hei).run_sizeOf w
     split at h
     ·rename_i id o
      cases h
      cases hx
      refine ⟨.pointer (some ⟨μ id, o + n.toNat * ei.size, none⟩), ?_, rfl⟩;simp only [Instr.indexAt, asIntOf, Instr.sureAddr, Sem.run_bind, Sem.run_pure, Result.andThen_ok, hu, if_pos h0, hsz, d6]
     ·cases h
    ·cases h
   ·cases h
  ·cases h
 ·cases h

end
end Go.Proofs.YtnoildlijhapaaaGreatDoor

/- Operations that build values, slices and new objects. No condition. -/
namespace Go.Proofs.YtnoildlijhapaaaGreatDoor

section
variable {P : Program} {T : Tab} {w : World} {X : Nat -> Prop} {μ : Nat -> Nat}

theorem dS {α : Type} : ∀ (vs l : List α) (k : Nat), (iC l k vs).length = l.length
 | [], _, _ => rfl
 | v :: vs, l, k => by rw [iC, dS vs]; simp

theorem eV {α : Type} : ∀ (vs l : List α) (k m : Nat), k + vs.length <= l.length ->
  (iC l k vs)[m]? = if k <= m /\ m < k + vs.length then vs[m - k]? else l[m]?
 | [], l, k, m, _ => by rw [iC, if_neg (by simp)]
 | v :: vs, l, k, m, h => by
  simp only [List.length_cons] at h;rw [iC, eV vs _ _ _ (by simp; omega)];simp only [List.length_cons]
  by_cases hm : m = k
  ·subst hm
   rw [if_neg (by omega), if_pos (by omega)]
   have hlt : m < l.length := by omega
   simp [hlt]
  ·by_cases h1 : k + 1 <= m /\ m < k + 1 + vs.length
   ·rw [if_pos h1, if_pos (by omega)]
    have : m - k = (m - (k + 1)) + 1 := by omega
    rw [this, List.getElem?_cons_succ]
   ·rw [if_neg h1, if_neg (by omega)];rw [List.getElem?_set_ne (Ne.symm hm)]

theorem dV {v : Value} {x : VV} (h : RelVV w X μ v x) : RelL w X μ v.cells.toList (cellsOf x) := by
 cases x with
 | one c =>
  have h1 := RelC.oneCell h
  have : v.cells = #[v] := by cases v <;> first | rfl | (simp [Value.oneCell'] at h1)
  rw [this];refine ⟨rfl, fun i c' hc => ?_⟩
  match i with
  | 0 => simp [cellsOf] at hc; subst hc; exact ⟨v, rfl, h⟩
  | i + 1 => simp [cellsOf] at hc
 | agg cs =>
  obtain ⟨vs, rfl, hr⟩ := h
  simpa [Value.cells, cellsOf] using hr

theorem pX {vs : List Value} {cs : List SC} (h : RelL w X μ vs cs) : ∀ v ∈ vs, v.oneCell' = true := by
 intro v hv
 obtain ⟨i, hi⟩ := List.mem_iff_getElem?.1 hv
 have hlt := (List.getElem?_eq_some_iff.1 hi).1
 have hlt' : i < cs.length := by rw [<- h.1]; exact hlt
 obtain ⟨u, hu, hr⟩ := h.2 i cs[i] (List.getElem?_eq_getElem hlt')
 rw [hi] at hu; cases hu;exact hr.oneCell

theorem oc (off : Nat) : ∀ (vs : List Value) (k : Nat) (cs : Array Value),
  (vs.zipIdx k).foldl (fun cs (x : Value × Nat) => cs.setIfInBounds (off + x.2) x.1) cs = spl cs (off + k) vs
 | [], _, _ => rfl
 | v :: vs, k, cs => by
  simp only [List.zipIdx_cons, List.foldl_cons];rw [oc off vs (k + 1)]
  rfl

theorem jY (cs : Array Value) (vs : Array Value) (off : Nat) :
  vs.zipIdx.foldl (fun cs (x : Value × Nat) => cs.setIfInBounds (off + x.2) x.1) cs = spl cs off vs.toList := by
 rw [<- Array.foldl_toList, Array.toList_zipIdx];exact oc off vs.toList 0 cs

theorem uW {cs : Array Value} {l : List SC} {vs : List Value} {ls : List SC} {k : Nat} (h : RelL w X μ cs.toList l) (hv : RelL w X μ vs ls) (hk : k + ls.length <= l.length) :
  RelL w X μ (spl cs k vs).toList (iC l k ls) := by
 have hl := h.1
 rw [Array.length_toList] at hl;refine ⟨by rw [Array.length_toList, bT, dS, hl], fun i c hc => ?_⟩;rw [eV _ _ _ _ hk] at hc;rw [Array.getElem?_toList, g6 _ _ _ _ (by rw [hv.1]; omega), hv.1]
 split at hc
 ·rename_i hi
  rw [if_pos hi];exact hv.2 _ _ hc
 ·rename_i hi
  rw [if_neg hi]
  obtain ⟨v, h1, h2⟩ := h.2 _ _ hc
  exact ⟨v, by simpa using h1, h2⟩

theorem iU {ti : TI} {t : TypeId} (ht : TF P t ti) : RelL w X μ (ti.zero.map eN) ti.zero := by
 refine ⟨by simp, fun i c hc => ⟨eN c, by rw [List.getElem?_map, hc]; rfl, ?_⟩⟩
 have := List.all_eq_true.1 ht.zok c (List.mem_of_getElem? hc)
 cases c with
 | d c => cases c with
  | lit v => exact RdC.lit this
  | sl es => simp at this
 | nil => exact ⟨none, rfl⟩
 | own => simp at this
 | bad => simp at this

theorem gK {ti : TI} {t : TypeId} (ht : TF P t ti) : (mkV ti.agg (ti.zero.map eN)).cells.toList = ti.zero.map eN := by
 unfold mkV
 cases ha : ti.agg with
 | true => simp [Value.cells]
 | false =>
  have h1 := ht.one ha
  have h2 := ht.zsz
  match hz : ti.zero, h2 with
  | [c], _ =>
   have hr := (iU (w := default) (X := fun _ => False) (μ := id) ht)
   have := pX hr (eN c) (by rw [hz]; simp)
   simp
   cases hv : eN c <;> first | rfl | (rw [hv] at this; simp [Value.oneCell'] at this)
  | [], h => rw [h1] at h; simp at h
  | _ :: _ :: _, h => rw [h1] at h; simp at h

/-! #### Structs -/
theorem mQ (hT : TOK P T) {fields : Array Field} {fs : List (Nat × TypeId)} (hfl : fields.toList.map (fun f => (f.offset, f.type)) = fs)
  {places : Array (Nat × Nat)} (hp : ∀ (i off : Nat) (t : TypeId) (ti : TI), fs[i]? = some (off, t) -> T t = some ti -> places[i]? = some (off, ti.size)) :
  ∀ (parts : List (Nat × SV)) (ps : List (Nat × Value)) (cs : Array Value) (l l' : List SC), ps.length = parts.length ->
   (∀ (k : Nat) (p : Nat × SV), parts[k]? = some p -> ∃ u, ps[k]? = some (p.1, u) /\ RelV w X μ u p.2) -> RelL w X μ cs.toList l -> og T fs l parts = some l' ->
   ∃ cs', Instr.fill (places[·]?) cs ps = some cs' /\ RelL w X μ cs'.toList l'
 | [], ps, cs, l, l', hlen, _, hr, h => by
  have : ps = [] := by simpa using hlen
  subst this
  simp [og] at h; subst h
  exact ⟨cs, rfl, hr⟩
 | (i, x) :: parts, ps, cs, l, l', hlen, hps, hr, h => by
  match ps, hlen with
  | p :: ps, hlen =>
   obtain ⟨u, hu, hru⟩ := hps 0 _ rfl
   simp at hu; subst hu
   cases x with
   | val v =>
    simp only [og] at h
    split at h
    ·rename_i off t hf
     split at h
     ·rename_i ti hti
      split at h
      ·rename_i hc
       have hcells := dV hru
       have hpl := hp _ _ _ _ hf hti
       have hsz : u.cells.size = ti.size := by have := hcells.1; rw [Array.length_toList] at this; omega
       have hcs := hr.1
       rw [Array.length_toList] at hcs;simp only [Instr.fill, hpl];rw [if_neg (by simp [hsz]; omega), jY]
       exact mQ hT hfl hp parts ps _ _ _ (by simpa using hlen) (fun k p hk => by
        have := hps (k + 1) p (by simpa using hk); simpa using this) (uW hr hcells (by omega)) h
      ·cases h
     ·cases h
    ·cases h
   | _ => simp [og] at h

theorem mo (hT : TOK P T) : ∀ (fields : List Field), (∀ f ∈ fields, (T f.type).isSome) ->
  ∃ ps : List (Nat × Nat), (fields.mapM (fun f => do pure (f.offset, <- sizeOf f.type)) : Sem (List (Nat × Nat))).run P w = .ok ps w /\
   ∀ (i off : Nat) (t : TypeId) (ti : TI), (fields.map (fun f => (f.offset, f.type)))[i]? = some (off, t) -> T t = some ti -> ps[i]? = some (off, ti.size)
 | [], _ => ⟨[], rfl, fun i off t ti h => by simp at h⟩
 | f :: fields, h => by
  obtain ⟨ps, hps, hget⟩ := mo hT fields (fun g hg => h g (by simp [hg]))
  obtain ⟨ti, hti⟩ := Option.isSome_iff_exists.1 (h f (by simp))
  have hs := (hT.ty _ _ hti).run_sizeOf w
  refine ⟨(f.offset, ti.size) :: ps, ?_, ?_⟩
  ·simp only [List.mapM_cons, Sem.run_bind, hs, Result.andThen_ok, Sem.run_pure, hps]
  ·intro i off t ti' hi ht'
   match i with
   | 0 =>
    simp at hi
    obtain ⟨rfl, rfl⟩ := hi
    rw [hti] at ht'; cases ht'
    rfl
   | i + 1 => exact hget i off t ti' (by simpa using hi) ht'

theorem mY (hT : TOK P T) {t : TypeId} {parts : List (Nat × SV)} {ps : Array (Nat × Value)} {v : SV} (hlen : ps.toList.length = parts.length)
  (hps : ∀ (k : Nat) (p : Nat × SV), parts[k]? = some p -> ∃ u, ps.toList[k]? = some (p.1, u) /\ RelV w X μ u p.2) (h : gS T t parts = .set v) :
  Yv P w X μ (Instr.build t ps) v := by
 unfold gS at h
 split at h
 ·rename_i ti hti
  split at h
  ·rename_i fs hfs
   split at h
   ·rename_i hall
    split at h
    ·rename_i cs hcs
     cases h
     have ht := hT.ty _ _ hti
     obtain ⟨fields, hu, hfl⟩ := ht.run_struct w hfs
     have hall' : ∀ f ∈ fields.toList, (T f.type).isSome := by
      intro f hf
      have := List.all_eq_true.1 hall (f.offset, f.type) (by rw [<- hfl]; exact List.mem_map.2 ⟨f, hf, rfl⟩)
      exact this
     obtain ⟨pl, hpl, hget⟩ := mo (w := w) hT fields.toList hall'
     rw [hfl] at hget
     obtain ⟨cs', hfill, hrel⟩ := mQ (w := w) (X := X) (μ := μ) hT hfl (places := pl.toArray) (fun i off t ti h1 h2 => by simpa using hget i off t ti h1 h2)
      parts ps.toList (mkV ti.agg (ti.zero.map eN)).cells ti.zero cs hlen hps (by rw [gK ht]; exact iU ht) hcs
     refine ⟨.agg cs', ?_, cs'.toList, by simp, hrel⟩;simp only [Instr.build, Sem.run_bind, ht.run_zero, Result.andThen_ok, hu, Array.mapM_eq_mapM_toList, Sem.run_map, hpl, hfill, Sem.run_pure]
    ·cases h
   ·cases h
  ·cases h
 ·cases h

/-! #### Slices of slices -/
theorem co {k : IntKind} {n : Int} {y : Nat} {c : BoundsCode} (h : 0 <= n /\ n <= y) : (Instr.sliceBound (.int k n) y c).run P w = .ok n.toNat w := by
 simp only [Instr.sliceBound, asIntOf, Sem.run_bind, Sem.run_pure, Result.andThen_ok, if_pos h]

theorem rx {vx : Value} {x : SV} {n : Nat} (hx : RelV w X μ vx x) (hn : eh x = some n) : ∃ a c, vx = .slice a n c /\ n <= c := by
 unfold eh at hn
 split at hn
 ·cases hn; obtain ⟨cap, cs, E, fr, rfl, hle, _⟩ := hx; exact ⟨_, _, rfl, hle⟩
 ·cases hn
  cases hx with
  | nil => exact ⟨_, _, rfl, Nat.zero_le _⟩
  | sl vs hh hxx hl hc => subst hl; exact ⟨_, _, rfl, hc⟩
 ·cases hn; obtain ⟨ad, rfl⟩ : ∃ ad, vx = .slice ad 0 0 := hx; exact ⟨_, _, rfl, Nat.le_refl _⟩
 ·cases hn

theorem lm (hT : TOK P T) {t : TypeId} {vx : Value} {x v : SV} {l h : Int} {vlo vhi : Option Value} (hx : RelV w X μ vx x)
  (hlo : vlo = none /\ l = 0 \/ ∃ k, vlo = some (.int k l)) (hhi : (vhi = none /\ ∃ n : Nat, eh x = some n /\ h = n) \/ ∃ k, vhi = some (.int k h))
  (he : ci T t x l h = .set v) : Yv P w X μ (Instr.sliceAt t vx vlo vhi none) v := by
 unfold ci at he
 split at he
 ·rename_i ti hti
  split at he
  ·rename_i hee
   split at he
   ·rename_i s hss
    split at he
    ·rename_i hb
     cases he
     have hxs : vx = .string s := by
      unfold sb at hss
      split at hss
      ·cases hss; cases hx; rfl
      ·cases hss
     subst hxs
     have hu := (hT.ty _ _ hti).run_string w hee
     rcases hhi with ⟨_, m, hm, _⟩ | ⟨k, rfl⟩
     ·exfalso
      unfold sb at hss
      split at hss
      ·cases hm
      ·cases hss
     ·have e1 := co (P := P) (w := w) (k := k) (n := h) (y := s.size) (c := .sliceAlen) ⟨by omega, by omega⟩
      refine ⟨_, ?_, RdC.lit rfl⟩
      rcases hlo with ⟨rfl, rfl⟩ | ⟨k', rfl⟩
      ·simp [Instr.sliceAt, Instr.slice, Sem.run_bind, hu, Result.andThen_ok, Instr.sliceBounds, e1]
      ·have e2 := co (P := P) (w := w) (k := k') (n := l) (y := h.toNat) (c := .sliceB) ⟨by omega, by omega⟩
       simp [Instr.sliceAt, Instr.slice, Sem.run_bind, hu, Result.andThen_ok, Instr.sliceBounds, e1, e2]
    ·cases he
   ·cases he
  ·rename_i e hee
   split at he
   ·rename_i ei hei
    split at he
    ·rename_i n hn
     split at he
     ·rename_i hb
      obtain ⟨a, c, rfl, hnc⟩ := rx hx hn
      have hu := (hT.ty _ _ hti).run_slice w hee
      have hsz := (hT.ty _ _ hei).run_sizeOf w
      have hbounds : (Instr.sliceBounds true n c vlo vhi none).run P w = .ok (l.toNat, h.toNat, c) w := by
       rcases hhi with ⟨rfl, m, hm, rfl⟩ | ⟨k, rfl⟩
       ·rw [hn] at hm; cases hm
        rcases hlo with ⟨rfl, rfl⟩ | ⟨k, rfl⟩
        ·simp [Instr.sliceBounds]
        ·simp [Instr.sliceBounds, co (P := P) (w := w) (k := k) (n := l) (y := n) (c := .sliceB) ⟨hb.1, hb.2.1⟩]
       ·have e1 := co (P := P) (w := w) (k := k) (n := h) (y := c) (c := .sliceAcap) ⟨by omega, by omega⟩
        rcases hlo with ⟨rfl, rfl⟩ | ⟨k', rfl⟩
        ·simp [Instr.sliceBounds, e1]
        ·simp [Instr.sliceBounds, e1, co (P := P) (w := w) (k := k') (n := l) (y := h.toNat) (c := .sliceB) ⟨by omega, by omega⟩]
      have hrun : (Instr.sliceAt t (.slice a n c) vlo vhi none).run P w = .ok (.slice (if c = l.toNat then a else a.map (·.add (l.toNat * ei.size))) (h.toNat - l.toNat) (c - l.toNat)) w := by
       simp only [Instr.sliceAt, Instr.slice, Sem.run_bind, hu, Result.andThen_ok, hbounds, hsz, Sem.run_pure]
      split at he
      ·rename_i heq
       cases he
       refine ⟨_, hrun, ?_⟩
       have : h.toNat - l.toNat = 0 := by omega
       rw [this];exact RdC.nil
      ·rename_i hne
       have hcl : ¬ c = l.toNat := by omega
       rw [if_neg hcl] at hrun
       split at he
       ·rename_i id sz off len
        have hn' : len = n := by simpa [eh] using hn
        split at he
        ·rename_i hs
         cases he
         obtain ⟨cap, cs, E, fr, hv, hle, hh, hcap⟩ := hx
         cases hv
         refine ⟨_, hrun, c - l.toNat, cs, E, fr, ?_, by omega, hh, ?_⟩
         ·simp only [Option.map_some, d6]
          congr 1
          ·rw [<- hs, Nat.add_mul]
          ·omega
         ·have : off + l.toNat + (c - l.toNat) = off + c := by omega
          rw [this]; exact hcap
        ·cases he
       ·rename_i es
        split at he
        ·rename_i hall
         cases he
         have hn' : es.length = n := by simpa [eh] using hn
         cases hx with
         | nil => simp at hn'; omega
         | sl vs hh hX hl hcap hs hv hr =>
          rename_i b off sz cs E fr
          refine ⟨_, hrun, ?_⟩;simp only [Option.map_some, d6]
          have hat : ∀ i j d, at2 ((es.take h.toNat).drop l.toNat) i j = some d -> at2 es (l.toNat + i) j = some d := by
           intro i j d hd
           unfold at2 at hd ⊢
           rw [List.getElem?_drop, List.getElem?_take] at hd
           split at hd
           ·exact hd
           ·simp at hd
          have hszz : ∀ (i : Nat) (el : List DC), es[i]? = some el -> el.length = ei.size := fun i el hel => by
           have := List.all_eq_true.1 hall el (List.mem_of_getElem? hel); simpa using this
          refine RdC.sl (sz := ei.size) (fun i j => vs (l.toNat + i) j) hh hX ?_ (by omega) ?_ ?_ ?_
          ·simp; omega
          ·intro i el hel
           rw [List.getElem?_drop, List.getElem?_take] at hel
           split at hel
           ·exact hszz _ _ hel
           ·cases hel
          ·intro i j d hd
           have h1 := hat i j d hd
           rw [<- hv _ _ _ h1]
           have : sz = ei.size := by
            unfold at2 at h1
            cases hel : es[l.toNat + i]? with
            | none => rw [hel] at h1; cases h1
            | some el => rw [<- hs _ _ hel, hszz _ _ hel]
           rw [this, Nat.add_mul]
           congr 1; omega
          ·intro i j d hd; exact hr _ _ _ (hat i j d hd)
        ·cases he
       ·cases he
     ·cases he
    ·cases he
   ·cases he
  ·cases he
 ·cases he

end
end Go.Proofs.YtnoildlijhapaaaGreatDoor

/- The simulation goes on: values put into slots, new objects, stores, appends. No condition. -/
namespace Go.Proofs.YtnoildlijhapaaaGreatDoor
open Go.RowKit

def OO.noOwn : OO -> Bool
 | .box cs => cs.all SC.noOwn
 | .arr _ _ => true
def St.noRef (st : St) (d : Nat) : Bool :=
 (!Nat.beq d 999) && (st.ρ.all (SV.noRef d) && st.rb.all (fun id => match st.σ id with | some o => o.noRef d | none => true))
theorem mD {st : St} {d : Nat} (h : st.noRef d = true) : d ≠ 999 := by
 simp only [St.noRef, Bool.and_eq_true] at h
 intro e; subst e; exact absurd h.1 (by decide)
def St.new (st : St) (d : Nat) (o : OO) (v : SV) : St :=
 { ρ := st.ρ.set d v, σ := aQ st.σ d o, rb := if o.noOwn then st.rb else d :: st.rb }
def St.app (st : St) (d : Nat) (id : Option Nat) (o : OO) (v : SV) : St :=
 { ρ := st.ρ.set d v, σ := aQ (fun k => if some k = id then none else st.σ k) d o, rb := st.rb }

section
variable {P : Program} {T : Tab} {w w' : World} {w0 : Base} {X : Nat -> Prop} {μ : Nat -> Nat} {a : Act} {st : St}

theorem mJ {α : Type} (l : List α) (d i : Nat) (v x : α) : (l.set d v).getD i x = if i = d /\ d < l.length then v else l.getD i x := by
 simp only [List.getD_eq_getElem?_getD, List.getElem?_set]
 by_cases h : d = i
 ·subst h
  by_cases h2 : d < l.length
  ·simp [h2]
  ·simp [h2]
 ·rw [if_neg h, if_neg (by intro h'; exact h h'.1.symm)]

theorem j7 (l : Array Value) (d i : Nat) (v x : Value) : (l.setIfInBounds d v).getD i x = if i = d /\ d < l.size then v else l.getD i x := by
 simp only [Array.getD_eq_getD_getElem?, Array.getElem?_setIfInBounds]
 by_cases h : d = i
 ·subst h
  by_cases h2 : d < l.size
  ·simp [h2]
  ·simp [h2]
 ·rw [if_neg h, if_neg (by intro h'; exact h h'.1.symm)]

theorem Sim.put (hs : Sim w0 X μ a w st) {dst : Option Tmp} {u : Value} {v : SV} (hv : RelV w (Mut X μ st.σ) μ u v) : Sim w0 X μ (a.put dst u) w (st.put dst v) := by
 cases dst with
 | none => exact hs
 | some d =>
  refine ⟨hs.xlt, hs.dfr, hs.bel, by simp [Act.put, St.put, hs.len], fun i => ?_, hs.objs, hs.inj, hs.rbs⟩;simp only [Act.put, St.put, St.get, j7, mJ, hs.len]
  split
  ·exact hv
  ·exact hs.slots i

theorem Sim.below (hs : Sim w0 X μ a w st) (h : Below w.heap.size w w') : Sim w0 X μ a w' st := by
 have hf : Fwd (Mut X μ st.σ) w w' := Fwd.of_below h
 refine ⟨hs.xlt, hs.dfr, hs.bel.trans h, hs.len, fun i => (hs.slots i).mono (fun _ _ h => h) hf, fun id o ho => ?_, hs.inj, hs.rbs⟩
 obtain ⟨h1, cs, E, hh, hr⟩ := hs.objs id o ho
 exact ⟨h1, cs, E, (h.block _ (bg hh)).trans hh, hr.mono (fun _ _ h => h) hf⟩

theorem BelZ.setRow {b : Nat} {cs cs' : Array Value} {E : TypeId} {fr : Nat × Nat} (h : BelZ w0 w) (hh : w.heap[b]? = some (.cells cs E fr)) (hsz : cs'.size = cs.size) (hb : w0.w.heap.size <= b \/ w0.z b) : BelZ w0 (setRow w b cs') := by
 refine ⟨h.os, h.tape, h.output, by rw [iD]; exact h.size, fun k hk hz => ?_, h.lw, h.lz, fun k c1 E1 fr1 hz hc => ?_⟩
 ·rw [bK _ _ _ (fun e => by subst e; rcases hb with hb | hb; exact absurd hb (by omega); exact hz hb)]; exact h.block k hk hz
 ·obtain ⟨c2, h1, h2⟩ := h.row k c1 E1 fr1 hz hc
  by_cases hk : k = b
  ·subst hk; rw [hh] at h1; cases h1; exact ⟨cs', b7 hh _, hsz.trans h2⟩
  ·exact ⟨c2, by rw [bK _ _ _ hk]; exact h1, h2⟩

def upm (μ : Nat -> Nat) (d b : Nat) : Nat -> Nat := fun k => if k = d then b else μ k

theorem bQ {d b k : Nat} (h : k ≠ d) : upm μ d b k = μ k := by simp [upm, h]

theorem nV (hs : Sim w0 X μ a w st) {d : Nat} (hno : st.noRef d = true) {id : Nat} {o : OO} (ho : st.σ id = some o) : o.noRef d = true := by
 cases o with
 | arr => rfl
 | box cs =>
  by_cases hr : id ∈ st.rb
  ·simp only [St.noRef, Bool.and_eq_true] at hno
   have := List.all_eq_true.1 hno.2.2 id hr
   rw [ho] at this; exact this
  ·exact hs.rbs id cs ho hr d

theorem g7 {d : Nat} (hno : st.noRef d = true) (i : Nat) : (st.get i).noRef d = true := by
 simp only [St.noRef, Bool.and_eq_true] at hno
 unfold St.get
 rw [List.getD_eq_getElem?_getD]
 cases h : st.ρ[i]? with
 | none => rfl
 | some v => exact List.all_eq_true.1 hno.2.1 v (List.mem_of_getElem? h)

theorem c8 {cs : List SC} (h : cs.all SC.noOwn = true) (k : Nat) : cs.all (SC.noRef k) = true := by
 rw [List.all_eq_true] at h ⊢
 intro c hc
 have := h c hc
 cases c <;> simp_all [SC.noOwn, SC.noRef]

theorem Sim.new (hs : Sim w0 X μ a w st) {d b : Nat} (hno : st.noRef d = true) {cs : Array Value} {E : TypeId} {o : OO} {u : Value} {v : SV}
  (hf : Fwd (Mut X μ st.σ) w w') (hbel : BelZ w0 w') (hkeep : ∀ id o, st.σ id = some o -> w'.heap[μ id]? = w.heap[μ id]?) (hb : w.heap.size <= b) (hh : w'.heap[b]? = some (.cells cs E (0, 0)))
  (ho : RelO w' (Mut X (upm μ d b) (aQ st.σ d o)) (upm μ d b) cs o) (hv : RelV w' (Mut X (upm μ d b) (aQ st.σ d o)) (upm μ d b) u v) :
  Sim w0 X (upm μ d b) (a.put (some d) u) w' (st.new d o v) := by
 have hX : ∀ k, k < w.heap.size -> Mut X (upm μ d b) (aQ st.σ d o) k -> Mut X μ st.σ k := by
  intro k hk hm
  rcases hm with hm | ⟨id, o', h1, h2⟩
  ·exact Or.inl hm
  ·by_cases hid : id = d
   ·subst hid; simp [upm] at h2; omega
   ·simp only [aQ, if_neg hid] at h1;rw [bQ hid] at h2;exact Or.inr ⟨id, o', h1, h2⟩
 refine ⟨hs.xlt, hs.dfr, hbel, by simp [Act.put, St.new, hs.len], fun i => ?_, fun id o' h' => ?_, fun i j oi oj hi hj hij => ?_, fun id cs' h' hid k => ?_⟩
 ·simp only [Act.put, St.new, St.get, j7, mJ, hs.len]
  split
  ·exact hv
  ·exact ((hs.slots i).mono hX hf).ren (g7 hno i) (fun k hk => bQ hk)
 ·simp only [St.new] at h' ⊢
  by_cases hid : id = d
  ·subst hid
   simp only [aQ, if_true] at h'; cases h';refine ⟨?_, cs, E, ?_, ho⟩
   ·refine ⟨Or.inl ?_, fun e => absurd e (mD hno)⟩; simp [upm]; have := hs.bel.size; omega
   ·simpa [upm] using hh
  ·simp only [aQ, if_neg hid] at h'
   obtain ⟨h1, cs', E', hh', hr⟩ := hs.objs id o' h'
   rw [bQ hid];refine ⟨h1, cs', E', (hkeep _ _ h').trans hh', (hr.mono hX hf).ren (nV hs hno h') (fun k hk => bQ hk)⟩
 ·simp only [St.new, aQ] at hi hj
  by_cases hid : i = d
  ·by_cases hjd : j = d
   ·rw [hid, hjd]
   ·rw [if_neg hjd] at hj
    obtain ⟨_, _, _, hh', _⟩ := hs.objs j oj hj
    have := bg hh'
    rw [bQ hjd] at hij
    subst hid
    simp [upm] at hij; omega
  ·rw [if_neg hid] at hi
   by_cases hjd : j = d
   ·obtain ⟨_, _, _, hh', _⟩ := hs.objs i oi hi
    have := bg hh'
    rw [bQ hid] at hij
    subst hjd
    simp [upm] at hij; omega
   ·rw [if_neg hjd] at hj;rw [bQ hid, bQ hjd] at hij;exact hs.inj i j oi oj hi hj hij
 ·simp only [St.new] at h' hid
  by_cases hidd : id = d
  ·subst hidd
   simp only [aQ, if_true] at h'; cases h'
   by_cases hno' : (OO.box cs').noOwn = true
   ·exact c8 hno' k
   ·rw [if_neg hno'] at hid; simp at hid
  ·simp only [aQ, if_neg hidd] at h';refine hs.rbs id cs' h' (fun hm => hid ?_) k
   split
   ·exact hm
   ·exact List.mem_cons_of_mem _ hm

theorem Sim.alloc (hs : Sim w0 X μ a w st) {d : Nat} (hno : st.noRef d = true) {cs : Array Value} {E : TypeId} {o : OO} {u : Value} {v : SV}
  (ho : RelO w (Mut X μ st.σ) μ cs o) (hor : o.noRef d = true)
  (hv : RelV (w.alloc (.cells cs E)) (Mut X (upm μ d w.heap.size) (aQ st.σ d o)) (upm μ d w.heap.size) u v) :
  Sim w0 X (upm μ d w.heap.size) (a.put (some d) u) (w.alloc (.cells cs E)) (st.new d o v) := by
 have hf := oO (Mut X μ st.σ) w (.cells cs E)
 refine hs.new hno hf (hs.bel.trans ((Below.refl _ _).alloc (Nat.le_refl _) _)) (fun id o' h' => ?_) (Nat.le_refl _) (dP w _) ?_ hv
 ·obtain ⟨_, _, _, hh, _⟩ := hs.objs id o' h'
  exact Below.heap_alloc _ _ _ (bg hh)
 ·refine (ho.mono ?_ hf).ren hor (fun k hk => bQ hk)
  intro k hk hm
  rcases hm with hm | ⟨id, o', h1, h2⟩
  ·exact Or.inl hm
  ·by_cases hid : id = d
   ·subst hid; simp [upm] at h2; omega
   ·simp only [aQ, if_neg hid] at h1;rw [bQ hid] at h2;exact Or.inr ⟨id, o', h1, h2⟩

theorem Sim.upd (hs : Sim w0 X μ a w st) {id : Nat} {o o' : OO} (hid : st.σ id = some o) {cs cs' : Array Value} {E : TypeId} (hh : w.heap[μ id]? = some (.cells cs E (0, 0)))
  (hsz : cs'.size = cs.size) (ho : RelO w (Mut X μ st.σ) μ cs' o') {rb' : List Nat} (hrb : ∀ k ∈ st.rb, k ∈ rb') (hrb' : ∀ l, o' = .box l -> id ∉ rb' -> ∀ k, l.all (SC.noRef k) = true) :
  Sim w0 X μ a (setRow w (μ id) cs') ⟨st.ρ, aQ st.σ id o', rb'⟩ := by
 have hMi : Mut X μ st.σ (μ id) := Or.inr ⟨id, o, hid, rfl⟩
 have hM : ∀ k, Mut X μ (aQ st.σ id o') k -> Mut X μ st.σ k := by
  intro k hm
  rcases hm with hm | ⟨j, oj, h1, h2⟩
  ·exact Or.inl hm
  ·by_cases hj : j = id
   ·subst hj; exact Or.inr ⟨j, o, hid, h2⟩
   ·simp only [aQ, if_neg hj] at h1; exact Or.inr ⟨j, oj, h1, h2⟩
 have hf := g8 (X := Mut X μ st.σ) hh hsz hMi
 have hid' := hs.objs id o hid
 refine ⟨hs.xlt, hs.dfr, hs.bel.setRow hh hsz hid'.1.1, hs.len, fun i => (hs.slots i).mono (fun k _ h => hM k h) hf, fun j oj hj => ?_, fun i j oi oj hi hj hij => ?_, fun j l hj hnr k => ?_⟩
 ·by_cases hjid : j = id
  ·subst hjid
   simp only [aQ, if_true] at hj; cases hj;exact ⟨hid'.1, cs', E, b7 hh _, ho.mono (fun k _ h => hM k h) hf⟩
  ·simp only [aQ, if_neg hjid] at hj
   obtain ⟨h1, csj, Ej, hhj, hr⟩ := hs.objs j oj hj
   have hne : μ j ≠ μ id := fun e => hjid (hs.inj j id oj o hj hid e)
   exact ⟨h1, csj, Ej, by rw [bK _ _ _ hne]; exact hhj, hr.mono (fun k _ h => hM k h) hf⟩
 ·have fi : ∃ o1, st.σ i = some o1 := by
   by_cases h : i = id
   ·exact ⟨o, h ▸ hid⟩
   ·simp only [aQ, if_neg h] at hi; exact ⟨_, hi⟩
  have fj : ∃ o1, st.σ j = some o1 := by
   by_cases h : j = id
   ·exact ⟨o, h ▸ hid⟩
   ·simp only [aQ, if_neg h] at hj; exact ⟨_, hj⟩
  obtain ⟨o1, h1⟩ := fi
  obtain ⟨o2, h2⟩ := fj
  exact hs.inj i j o1 o2 h1 h2 hij
 ·by_cases hjid : j = id
  ·subst hjid
   simp only [aQ, if_true] at hj;exact hrb' l (by simpa using hj) hnr k
  ·simp only [aQ, if_neg hjid] at hj;exact hs.rbs j l hj (fun hm => hnr (hrb _ hm)) k

theorem je : ∀ {cs : List SC} {ds : List DC}, eD cs = some ds -> ∀ {vs : List Value}, RelL w X μ vs cs ->
  ds.length = cs.length /\ ∀ (i : Nat) (d : DC), ds[i]? = some d -> ∃ v, vs[i]? = some v /\ RdC w X v d
 | [], ds, h, vs, _ => by simp [eD] at h; subst h; exact ⟨rfl, fun i d hd => by simp at hd⟩
 | c :: cs, ds, h, vs, hr => by
  simp only [eD] at h
  split at h
  ·rename_i d' ds' hc hds
   cases h
   match vs, hr with
   | v :: vs, hr =>
    have hr' : RelL w X μ vs cs := ⟨by simpa using hr.1, fun i c hc => by have := hr.2 (i + 1) c (by simpa using hc); simpa using this⟩
    obtain ⟨h1, h2⟩ := je (vs := vs) hds hr'
    refine ⟨by simp [h1], fun i d hd => ?_⟩
    match i with
    | 0 =>
     simp at hd; subst hd
     obtain ⟨u, hu, hcu⟩ := hr.2 0 c rfl
     simp at hu; subst hu
     refine ⟨v, rfl, ?_⟩
     cases c with
     | d c => simp [SC.data?] at hc; subst hc; exact hcu
     | nil => simp [SC.data?] at hc; subst hc; obtain ⟨ad, rfl⟩ := hcu; exact .nil
     | own => simp [SC.data?] at hc
     | bad => simp [SC.data?] at hc
    | i + 1 => exact h2 i d (by simpa using hd)
   | [], hr => have := hr.1; simp at this
  ·cases h

theorem iF {t : TypeId} {ti : TI} (ht : TF P t ti) {b off : Nat} {cs : Array Value} {E : TypeId} (hh : w.heap[b]? = some (.cells cs E (0, 0))) {v : Value} {x : VV}
  (hv : RelVV w X μ v x) (hsz : (cellsOf x).length = ti.size) (hle : off + ti.size <= cs.size) :
  (Instr.storeAt t (.pointer (some ⟨b, off, none⟩)) v).run P w = .ok () (setRow w b (spl cs off v.cells.toList)) := by
 have hc := dV hv
 have hcs : v.cells.size = ti.size := by have := hc.1; rw [Array.length_toList] at this; omega
 simp only [Instr.storeAt, Instr.sureAddr, Sem.run_bind, Sem.run_pure, Result.andThen_ok, storeVar, ht.run_sizeOf, ne_eq, hcs, not_true, if_false, Sem.run_ite]
 have := eW (P := P) v.cells.toList hh off 0 (by rw [Array.length_toList]; omega) (pX hc)
 simpa using this

theorem mV (hT : TOK P T) (hs : Sim w0 X μ a w st) {t : TypeId} {vx vy : Value} {x y : SV} {σ' : ca} {rb' : List Nat}
  (hx : RelV w (Mut X μ st.σ) μ vx x) (hy : RelV w (Mut X μ st.σ) μ vy y) (h : bu T st t x y = .upd σ' rb') :
  ∃ w', (Instr.storeAt t vx vy).run P w = .ok () w' /\ Sim w0 X μ a w' ⟨st.ρ, σ', rb'⟩ := by
 unfold bu at h
 split at h
 ·rename_i ti v hti
  have ht := hT.ty _ _ hti
  have hc := dV (show RelVV w _ μ vy v from hy)
  split at h
  ·rename_i hsz
   split at h
   ·rename_i id off
    have hx' : vx = .pointer (some ⟨μ id, off, none⟩) := hx
    subst hx'
    split at h
    ·rename_i cs hcs
     split at h
     ·rename_i hle
      cases h
      obtain ⟨_, cells, E, hh, hl, hrel⟩ := hs.objs _ _ hcs
      refine ⟨_, iF ht hh hy hsz (by omega), ?_⟩;refine hs.upd (o' := .box (iC cs off (cellsOf v))) hcs hh (bT _ _ _) ⟨by rw [dS, bT]; exact hl, fun i c hi => ?_⟩ (fun k hk => ?_) (fun l hl hid k => ?_)
      ·rw [eV _ _ _ _ (by omega)] at hi;rw [g6 _ _ _ _ (by rw [hc.1]; omega), hc.1]
       split at hi
       ·rename_i hii; rw [if_pos hii]; exact hc.2 _ _ hi
       ·rename_i hii; rw [if_neg hii]; exact hrel _ _ hi
      ·split
       ·exact hk
       ·exact List.mem_cons_of_mem _ hk
      ·cases hl
       split at hid
       ·rename_i hno
        rw [List.all_eq_true]
        intro c hmem
        obtain ⟨i, hi⟩ := List.mem_iff_getElem?.1 hmem
        rw [eV _ _ _ _ (by omega)] at hi
        split at hi
        ·exact List.all_eq_true.1 (c8 hno k) c (List.mem_of_getElem? hi)
        ·exact List.all_eq_true.1 (hs.rbs id cs hcs hid k) c (List.mem_of_getElem? hi)
       ·simp at hid
     ·cases h
    ·cases h
   ·rename_i id sz i j
    have hx' : vx = .pointer (some ⟨μ id, i * sz + j, none⟩) := hx
    subst hx'
    split at h
    ·rename_i sz' es ds hes hds
     split at h
     ·rename_i hsz'; subst hsz'
      split at h
      ·rename_i e he
       split at h
       ·rename_i hle
        cases h
        obtain ⟨_, cells, E, hh, hl, hlen, hrel⟩ := hs.objs _ _ hes
        have hel := hlen _ _ he
        have hi : i < es.length := (List.getElem?_eq_some_iff.1 he).1
        have hmul : i * sz' + sz' <= es.length * sz' := by rw [<- Nat.succ_mul]; exact Nat.mul_le_mul_right _ hi
        obtain ⟨hd1, hd2⟩ := je hds hc
        refine ⟨_, iF ht hh hy hsz (by omega), ?_⟩;refine hs.upd (o' := .arr sz' (es.set i (iC e j ds))) hes hh (bT _ _ _) ⟨by simp only [List.length_set, bT]; exact hl, fun k e' hk => ?_, fun k m d hkm => ?_⟩ (fun k hk => hk) (fun l hl => by cases hl)
        ·rw [List.getElem?_set] at hk
         by_cases hik : i = k
         ·subst hik; rw [if_pos rfl, if_pos hi] at hk; cases hk; rw [dS]; exact hel
         ·rw [if_neg hik] at hk; exact hlen _ _ hk
        ·rw [g6 _ _ _ _ (by rw [hc.1]; omega), hc.1]
         unfold at2 at hkm
         rw [List.getElem?_set] at hkm
         by_cases hki : i = k
         ·subst hki
          rw [if_pos rfl, if_pos hi] at hkm;simp only [Option.bind_some] at hkm;rw [eV _ _ _ _ (by omega)] at hkm
          by_cases hm : j <= m /\ m < j + ds.length
          ·rw [if_pos hm] at hkm;rw [if_pos (by omega)]
           obtain ⟨v, h1, h2⟩ := hd2 _ _ hkm
           exact ⟨v, by rw [<- h1]; congr 1; omega, h2⟩
          ·rw [if_neg hm] at hkm;rw [if_neg (by omega)];exact hrel i m d (by simp [at2, he, hkm])
         ·rw [if_neg hki] at hkm
          have hat : at2 es k m = some d := hkm
          have hmlt : m < sz' := by
           unfold at2 at hat
           cases hek : es[k]? with
           | none => rw [hek] at hat; cases hat
           | some ek =>
            rw [hek] at hat
            have := (List.getElem?_eq_some_iff.1 (show ek[m]? = some d from hat)).1
            rw [hlen _ _ hek] at this; exact this
          rw [if_neg ?_]
          ·exact hrel k m d hat
          ·intro hcon
           rcases Nat.lt_or_gt_of_ne hki with hlt | hgt
           ·have : i * sz' + sz' <= k * sz' := by rw [<- Nat.succ_mul]; exact Nat.mul_le_mul_right _ hlt
            omega
           ·have : k * sz' + sz' <= i * sz' := by rw [<- Nat.succ_mul]; exact Nat.mul_le_mul_right _ hgt
            omega
       ·cases h
      ·cases h
     ·cases h
    ·rename_i cs hcs
     split at h
     ·rename_i hle
      cases h
      obtain ⟨_, cells, E, hh, hl, hrel⟩ := hs.objs _ _ hcs
      refine ⟨_, iF ht hh hy hsz (by omega), ?_⟩;refine hs.upd (o' := .box (iC cs (i * sz + j) (cellsOf v))) hcs hh (bT _ _ _) ⟨by rw [dS, bT]; exact hl, fun i c hi => ?_⟩ (fun k hk => ?_) (fun l hl hid k => ?_)
      ·rw [eV _ _ _ _ (by omega)] at hi;rw [g6 _ _ _ _ (by rw [hc.1]; omega), hc.1]
       split at hi
       ·rename_i hii; rw [if_pos hii]; exact hc.2 _ _ hi
       ·rename_i hii; rw [if_neg hii]; exact hrel _ _ hi
      ·split
       ·exact hk
       ·exact List.mem_cons_of_mem _ hk
      ·cases hl
       split at hid
       ·rename_i hno
        rw [List.all_eq_true]
        intro c hmem
        obtain ⟨i, hi⟩ := List.mem_iff_getElem?.1 hmem
        rw [eV _ _ _ _ (by omega)] at hi
        split at hi
        ·exact List.all_eq_true.1 (c8 hno k) c (List.mem_of_getElem? hi)
        ·exact List.all_eq_true.1 (hs.rbs id cs hcs hid k) c (List.mem_of_getElem? hi)
       ·simp at hid
     ·cases h
    ·cases h
   ·cases h
  ·cases h
 ·cases h

/-! #### Making slices -/
theorem rM {t : TypeId} {ti : TI} (ht : TF P t ti) : ∃ ds, eD ti.zero = some ds /\ ds.length = ti.size := by
 have h1 := ht.zok
 have h2 := ht.zsz
 rw [<- h2];generalize ti.zero = l at h1;clear h2
 induction l with
 | nil => exact ⟨[], rfl, rfl⟩
 | cons c l ih =>
  simp only [List.all_cons, Bool.and_eq_true] at h1
  obtain ⟨ds, hd, hl⟩ := ih h1.2
  cases c with
  | d c => exact ⟨c :: ds, by simp [eD, SC.data?, hd], by simp [hl]⟩
  | nil => exact ⟨.sl [] :: ds, by simp [eD, SC.data?, hd], by simp [hl]⟩
  | own => simp at h1
  | bad => simp at h1

theorem nF {n i j : Nat} {l : List DC} {d : DC} (h : at2 (List.replicate n l) i j = some d) : i < n /\ l[j]? = some d := by
 unfold at2 at h
 rw [List.getElem?_replicate] at h
 split at h
 ·rename_i hi; exact ⟨hi, h⟩
 ·cases h

theorem nG {z : Array Value} {n sz i j : Nat} (hz : z.size = sz) (hj : j < sz) (hi : i < n) :
  ((Array.range (n * sz)).map (fun k => z[k % z.size]!))[i * sz + j]? = z[j]? := by
 have hlt : i * sz + j < n * sz := by
  have : i * sz + sz <= n * sz := by rw [<- Nat.succ_mul]; exact Nat.mul_le_mul_right _ hi
  omega
 have hmod : (i * sz + j) % z.size = j := by
  rw [hz, Nat.add_comm, Nat.add_mul_mod_self_right, Nat.mod_eq_of_lt hj]
 have hj' : j < z.size := by omega
 simp [hlt, hmod, hj']

theorem mq {t : TypeId} {ti : TI} (ht : TF P t ti) (n c : Nat) (hnc : n <= c) {z : Array Value} (hz : z = (mkV ti.agg (ti.zero.map eN)).cells) :
  RelO w X μ ((Array.range (c * ti.size)).map (fun k => z[k % z.size]!)) (.arr ti.size (List.replicate n (nH ti))) := by
 obtain ⟨ds, hds, hdl⟩ := rM ht
 have hzd : nH ti = ds := by simp [nH, hds]
 have hzl : z.toList = ti.zero.map eN := by rw [hz]; exact gK ht
 have hzs : z.size = ti.size := by have := congrArg List.length hzl; simpa [ht.zsz] using this
 obtain ⟨h1, h2⟩ := je (w := w) (X := X) (μ := μ) hds (iU ht)
 refine ⟨by simp; exact Nat.mul_le_mul_right _ hnc, fun i e he => ?_, fun i j d hd => ?_⟩
 ·rw [List.getElem?_replicate] at he
  split at he
  ·cases he; rw [hzd]; exact hdl
  ·cases he
 ·obtain ⟨hi, hj⟩ := nF hd
  rw [hzd] at hj
  obtain ⟨v, hv, hr⟩ := h2 _ _ hj
  have hjl := (List.getElem?_eq_some_iff.1 hj).1
  refine ⟨v, ?_, hr⟩;rw [nG hzs (by omega) (by omega : i < c)];rw [<- hzl] at hv
  simpa using hv

theorem ri {t : TypeId} {ti : TI} (ht : TF P t ti) (n c : Nat) (hnc : n <= c) {z : Array Value} (hz : z = (mkV ti.agg (ti.zero.map eN)).cells) :
  RelO w X μ ((Array.range (c * ti.size)).map (fun k => z[k % z.size]!)) (lW ti n) := by
 unfold lW
 split
 ·rename_i hzero
  have hzl : z.toList = ti.zero.map eN := by rw [hz]; exact gK ht
  have hs1 : ti.size = 1 := by rw [<- ht.zsz, hzero]; rfl
  rw [hzero] at hzl
  have hz0 : z = #[.slice none 0 0] := by
   apply Array.toList_inj.1; rw [hzl]; rfl
  refine ⟨by simp [hs1]; omega, fun i c' hc => ?_⟩;rw [List.getElem?_replicate] at hc
  split at hc
  ·rename_i hi
   cases hc
   refine ⟨.slice none 0 0, ?_, none, rfl⟩
   have h := nG (z := z) (n := c) (sz := ti.size) (i := i) (j := 0) (by rw [hz0, hs1]; rfl) (by omega) (by omega)
   rw [hs1, Nat.mul_one, Nat.add_zero, Nat.mul_one] at h;rw [hs1, Nat.mul_one, h, hz0]; rfl
  ·cases hc
 ·exact mq ht n c hnc hz
theorem kH (ti : TI) (n d : Nat) : (lW ti n).noRef d = true := by
 unfold lW
 split
 ·simp only [OO.noRef, List.all_eq_true]
  intro c hc
  rw [List.eq_of_mem_replicate hc]; rfl
 ·rfl

theorem jx (hT : TOK P T) {t : TypeId} {vl vc : Value} {l c : SV} {o : OO} {f : Nat -> SV} (hl : RelV w X μ vl l) (hc : RelV w X μ vc c)
  (h : aY T t l c = .new o f) :
  ∃ cs E u, (Instr.makeSlice t vl vc).run P w = .ok u (w.alloc (.cells cs E)) /\ RelO w X μ cs o /\ o.noRef 0 = true /\ (∀ d, o.noRef d = true) /\
   ∀ (d : Nat) (X' : Nat -> Prop), RelV (w.alloc (.cells cs E)) X' (upm μ d w.heap.size) u (f d) := by
 unfold aY at h
 split at h
 ·rename_i ti k n k' m hti hn hm
  have e1 := eI hl hn
  have e2 := eI hc hm
  subst e1; subst e2
  split at h
  ·rename_i e he
   split at h
   ·rename_i ei hei
    split at h
    ·rename_i hcond
     obtain ⟨h0, hnm, hm40', hby, hsz0⟩ := hcond
     have hm40 : m <= 2 ^ 40 := by have := Nat.le_of_ble_eq_true hm40'; omega
     cases h
     have ht := hT.ty _ _ hei
     have hu := (hT.ty _ _ hti).run_slice w he
     obtain ⟨inf, hinf, hb, _⟩ := ht.run_bytes w
     have hz := ht.run_zero w
     have hsz := ht.run_sizeOf w
     have hwl : IntKind.i64.wrap n = n := IntWalk.i64_in _ (by omega)
     have hwc : IntKind.i64.wrap m = m := IntWalk.i64_in _ (by omega)
     have hbm : (inf.bytes : Int) * m <= 2 ^ 48 := by
      rw [hb]
      have h1 : (ei.bytes : Int) <= 256 := by omega
      have h2 : (ei.bytes : Int) * m <= 256 * m := Int.mul_le_mul_of_nonneg_right h1 (by omega)
      omega
     refine ⟨_, e, .slice (some ⟨w.heap.size, 0, none⟩) n.toNat m.toNat, ?_, ri ht n.toNat m.toNat (by omega) rfl, kH _ _ _, fun _ => kH _ _ _, fun d X' => ?_⟩
     ·simp only [Instr.makeSlice, Sem.run_bind, hu, Result.andThen_ok, asInt, asIntOf, Sem.run_pure, hinf, hwl, hwc];rw [if_neg (by simp; omega)];simp only [Sem.run_bind, run_askRoom, hsz, Result.andThen_ok]
      by_cases hn0 : m.toNat * ei.size = 0
      ·rw [if_pos hn0]
       have r0 : ∀ f : Nat -> Value, (Array.range 0).map f = #[] := fun f => by simp
       simp only [Sem.run_bind, Sem.run_pure, Result.andThen_ok, newRow, run_newObj, hn0, r0]
       rfl
      ·rw [if_neg hn0];simp only [Sem.run_bind, hz, Result.andThen_ok, Sem.run_pure, newRow, run_newObj]
       rfl
     ·refine ⟨m.toNat, _, e, (0, 0), by simp [upm], by omega, by rw [show upm μ d w.heap.size d = w.heap.size by simp [upm]]; exact dP _ _, ?_⟩
      simp
    ·cases h
   ·cases h
  ·cases h
 ·cases h

theorem yv {es : List (List DC)} {i k m : Nat} {ds : List DC} (hi : i < es.length) {d : DC} (h : at2 (es.set i ds) k m = some d) :
  (k = i /\ ds[m]? = some d) \/ (k ≠ i /\ at2 es k m = some d) := by
 unfold at2 at h ⊢
 rw [List.getElem?_set] at h
 by_cases hk : i = k
 ·subst hk
  rw [if_pos rfl, if_pos hi] at h;exact Or.inl ⟨rfl, h⟩
 ·rw [if_neg hk] at h;exact Or.inr ⟨Ne.symm hk, h⟩

theorem kT {sz : Nat} : ∀ (parts : List (Nat × SV)) (ps : List (Nat × Value)) (cs : Array Value) (es es' : List (List DC)), ps.length = parts.length ->
  (∀ (k : Nat) (p : Nat × SV), parts[k]? = some p -> ∃ u, ps[k]? = some (p.1, u) /\ RelV w X μ u p.2) -> cs.size = es.length * sz -> RelO w X μ cs (.arr sz es) ->
  kU sz es parts = some es' ->
  ∃ cs', Instr.fill (fun i => some (i * sz, sz)) cs ps = some cs' /\ cs'.size = cs.size /\ es'.length = es.length /\ RelO w X μ cs' (.arr sz es')
 | [], ps, cs, es, es', hlen, _, _, hr, h => by
  have : ps = [] := by simpa using hlen
  subst this
  simp [kU] at h; subst h
  exact ⟨cs, rfl, rfl, rfl, hr⟩
 | (i, x) :: parts, ps, cs, es, es', hlen, hps, hsz, hr, h => by
  match ps, hlen with
  | p :: ps, hlen =>
   obtain ⟨u, hu, hru⟩ := hps 0 _ rfl
   simp at hu; subst hu
   cases x with
   | val v =>
    simp only [kU] at h
    split at h
    ·rename_i ds hds
     split at h
     ·rename_i hc
      have hcells := dV hru
      obtain ⟨hd1, hd2⟩ := je hds hcells
      have hus : u.cells.size = sz := by have := hcells.1; rw [Array.length_toList] at this; omega
      have hi := hc.2
      have hmul : i * sz + sz <= es.length * sz := by rw [<- Nat.succ_mul]; exact Nat.mul_le_mul_right _ hi
      simp only [Instr.fill];rw [if_neg (by simp [hus]; omega), jY]
      have := kT parts ps (spl cs (i * sz) u.cells.toList) (es.set i ds) es' (by simpa using hlen) (fun k p hk => by
       have := hps (k + 1) p (by simpa using hk); simpa using this) (by rw [bT, List.length_set]; exact hsz) ?_ h
      ·obtain ⟨cs', h1, h2, h3, h4⟩ := this
       exact ⟨cs', h1, by rw [h2, bT], by rw [h3, List.length_set], h4⟩
      ·obtain ⟨hr1, hr2, hr3⟩ := hr
       refine ⟨by rw [bT, List.length_set]; exact hr1, fun k e hk => ?_, fun k m d hd => ?_⟩
       ·rw [List.getElem?_set] at hk
        by_cases hik : i = k
        ·subst hik; rw [if_pos rfl, if_pos hi] at hk; cases hk; exact hc.1
        ·rw [if_neg hik] at hk; exact hr2 _ _ hk
       ·rw [g6 _ _ _ _ (by rw [Array.length_toList]; omega), Array.length_toList, hus]
        rcases yv hi hd with ⟨rfl, hm⟩ | ⟨hne, hm⟩
        ·have hml := (List.getElem?_eq_some_iff.1 hm).1
         rw [if_pos (by omega)]
         obtain ⟨v, h1, h2⟩ := hd2 _ _ hm
         exact ⟨v, by rw [<- h1]; congr 1; omega, h2⟩
        ·have hmlt : m < sz := by
          unfold at2 at hm
          cases hek : es[k]? with
          | none => rw [hek] at hm; cases hm
          | some ek =>
           rw [hek] at hm
           have := (List.getElem?_eq_some_iff.1 (show ek[m]? = some d from hm)).1
           rw [hr2 _ _ hek] at this; exact this
         rw [if_neg ?_]
         ·exact hr3 k m d hm
         ·intro hcon
          rcases Nat.lt_or_gt_of_ne hne with hlt | hgt
          ·have : k * sz + sz <= i * sz := by rw [<- Nat.succ_mul]; exact Nat.mul_le_mul_right _ hlt
           omega
          ·have : i * sz + sz <= k * sz := by rw [<- Nat.succ_mul]; exact Nat.mul_le_mul_right _ hgt
           omega
     ·cases h
    ·cases h
   | _ => simp [kU] at h

theorem eB (hT : TOK P T) {t : TypeId} {len : Nat} {parts : List (Nat × SV)} {ps : Array (Nat × Value)} {o : OO} {f : Nat -> SV} (hlen : ps.toList.length = parts.length)
  (hps : ∀ (k : Nat) (p : Nat × SV), parts[k]? = some p -> ∃ u, ps.toList[k]? = some (p.1, u) /\ RelV w X μ u p.2) (h : aR T t len parts = .new o f) :
  ∃ cs E u, (Instr.buildSlice t len ps).run P w = .ok u (w.alloc (.cells cs E)) /\ RelO w X μ cs o /\ o.noRef 0 = true /\ (∀ d, o.noRef d = true) /\
   ∀ (d : Nat) (X' : Nat -> Prop), RelV (w.alloc (.cells cs E)) X' (upm μ d w.heap.size) u (f d) := by
 unfold aR at h
 split at h
 ·rename_i ti hti
  split at h
  ·rename_i e he
   split at h
   ·rename_i ei hei
    split at h
    ·rename_i hcond
     split at h
     ·rename_i es hes
      cases h
      have ht := hT.ty _ _ hei
      have hu := (hT.ty _ _ hti).run_slice w he
      have hz := ht.run_zero w
      have hsz := ht.run_sizeOf w
      have hr0 := mq (w := w) (X := X) (μ := μ) ht len len (Nat.le_refl _) rfl
      obtain ⟨cs', h1, h2, h3, h4⟩ := kT parts ps.toList _ _ es hlen hps (by simp) hr0 hes
      refine ⟨cs', e, .slice (some ⟨w.heap.size, 0, none⟩) len len, ?_, h4, rfl, fun _ => rfl, fun d X' => ?_⟩
      ·simp only [Instr.buildSlice, Sem.run_bind, hu, Result.andThen_ok, hsz];rw [if_neg (by omega)]
       by_cases hn0 : len * ei.size = 0
       ·have r0 : ∀ f : Nat -> Value, (Array.range 0).map f = #[] := fun f => by simp
        rw [hn0, r0] at h1;simp only [hn0, if_true, Sem.run_bind, Sem.run_pure, Result.andThen_ok, r0, h1, newRow, run_newObj]
        rfl
       ·simp only [if_neg hn0, Sem.run_bind, hz, Result.andThen_ok, Sem.run_pure, h1, newRow, run_newObj]
        rfl
      ·refine ⟨len, cs', e, (0, 0), by simp [upm], Nat.le_refl _, by rw [show upm μ d w.heap.size d = w.heap.size by simp [upm]]; exact dP _ _, ?_⟩;rw [h2]; simp
     ·cases h
    ·cases h
   ·cases h
  ·cases h
 ·cases h

/-! #### Removing and renaming objects -/
def gB (σ : ca) (id : Nat) : ca := fun k => if k = id then none else σ k

theorem Sim.del (hs : Sim w0 X μ a w st) (id : Nat) : Sim w0 X μ a w { st with σ := gB st.σ id } := by
 have hM : ∀ k, Mut X μ (gB st.σ id) k -> Mut X μ st.σ k := by
  intro k hm
  rcases hm with hm | ⟨j, oj, h1, h2⟩
  ·exact Or.inl hm
  ·simp only [gB] at h1
   split at h1
   ·cases h1
   ·exact Or.inr ⟨j, oj, h1, h2⟩
 have get : ∀ {j o}, gB st.σ id j = some o -> st.σ j = some o := by
  intro j o h
  simp only [gB] at h
  split at h
  ·cases h
  ·exact h
 refine ⟨hs.xlt, hs.dfr, hs.bel, hs.len, fun i => (hs.slots i).mono (fun k _ h => hM k h) (Fwd.refl _ _), fun j o hj => ?_, fun i j oi oj hi hj => hs.inj i j oi oj (get hi) (get hj), fun j l hj => hs.rbs j l (get hj)⟩
 obtain ⟨h1, cs, E, hh, hr⟩ := hs.objs j o (get hj)
 exact ⟨h1, cs, E, hh, hr.mono (fun k _ h => hM k h) (Fwd.refl _ _)⟩

theorem Sim.move (hs : Sim w0 X μ a w st) {id d sz : Nat} {es : List (List DC)} (hid : st.σ id = some (.arr sz es)) (hno : st.noRef d = true) (hne : d ≠ id) :
  Sim w0 X (upm μ d (μ id)) a w { st with σ := aQ (gB st.σ id) d (.arr sz es) } := by
 have hM : ∀ k, Mut X (upm μ d (μ id)) (aQ (gB st.σ id) d (.arr sz es)) k -> Mut X μ st.σ k := by
  intro k hm
  rcases hm with hm | ⟨j, oj, h1, h2⟩
  ·exact Or.inl hm
  ·by_cases hj : j = d
   ·subst hj; simp [upm] at h2; exact Or.inr ⟨id, _, hid, h2⟩
   ·simp only [aQ, if_neg hj, gB] at h1
    split at h1
    ·cases h1
    ·rw [bQ hj] at h2; exact Or.inr ⟨j, oj, h1, h2⟩
 have get : ∀ {j o}, j ≠ d -> aQ (gB st.σ id) d (.arr sz es) j = some o -> j ≠ id /\ st.σ j = some o := by
  intro j o hj h
  simp only [aQ, if_neg hj, gB] at h
  split at h
  ·cases h
  ·rename_i h'; exact ⟨h', h⟩
 refine ⟨hs.xlt, hs.dfr, hs.bel, hs.len, fun i => ((hs.slots i).mono (fun k _ h => hM k h) (Fwd.refl _ _)).ren (g7 hno i) (fun k hk => bQ hk), fun j o hj => ?_, fun i j oi oj hi hj hij => ?_, fun j l hj => ?_⟩
 ·by_cases hjd : j = d
  ·subst hjd
   simp only [aQ, if_true] at hj; cases hj
   obtain ⟨h1, cs, E, hh, hr⟩ := hs.objs id _ hid
   refine ⟨⟨by simpa [upm] using h1.1, fun e => absurd e (mD hno)⟩, cs, E, by simpa [upm] using hh, ?_⟩;exact (hr.mono (fun k _ h => hM k h) (Fwd.refl _ _)).ren (id := j) rfl (fun k hk => bQ hk)
  ·obtain ⟨_, hj'⟩ := get hjd hj
   obtain ⟨h1, cs, E, hh, hr⟩ := hs.objs j o hj'
   rw [bQ hjd];exact ⟨h1, cs, E, hh, (hr.mono (fun k _ h => hM k h) (Fwd.refl _ _)).ren (nV hs hno hj') (fun k hk => bQ hk)⟩
 ·by_cases hid' : i = d
  ·by_cases hjd : j = d
   ·rw [hid', hjd]
   ·obtain ⟨h1, h2⟩ := get hjd hj
    rw [bQ hjd] at hij
    subst hid'
    simp [upm] at hij
    exact absurd (hs.inj j id _ _ h2 hid hij.symm) h1
  ·obtain ⟨h1, h2⟩ := get hid' hi
   by_cases hjd : j = d
   ·rw [bQ hid'] at hij
    subst hjd
    simp [upm] at hij
    exact absurd (hs.inj i id _ _ h2 hid hij) h1
   ·obtain ⟨h3, h4⟩ := get hjd hj
    rw [bQ hid', bQ hjd] at hij;exact hs.inj i j _ _ h2 h4 hij
 ·by_cases hjd : j = d
  ·subst hjd
   simp only [aQ, if_true] at hj; cases hj
  ·exact hs.rbs j l (get hjd hj).2

end
end Go.Proofs.YtnoildlijhapaaaGreatDoor

/- Append, and one operation of the abstract state against the model's. No condition. -/
namespace Go.Proofs.YtnoildlijhapaaaGreatDoor
open Go.RowKit

section
variable {P : Program} {T : Tab} {w w' : World} {w0 : Base} {X : Nat -> Prop} {μ : Nat -> Nat} {a : Act} {st : St}

theorem kE {es : List (List DC)} {i j : Nat} {d : DC} (h : at2 es i j = some d) : i < es.length := by
 unfold at2 at h
 rcases Nat.lt_or_ge i es.length with h' | h'
 ·exact h'
 ·rw [List.getElem?_eq_none h'] at h; cases h

theorem ot (hs : Sim w0 X μ a w st) {vx : Value} {x : SV} {new : List (List DC)} {sz : Nat} (hx : RelV w (Mut X μ st.σ) μ vx x) (he : dt st x = some new)
  (hl : ∀ e ∈ new, e.length = sz) : (Builtin.lenOf vx).run P w = .ok new.length w /\ ∃ cells : Array Value, (Builtin.firstCells sz new.length vx).run P w = .ok cells w /\ cells.size = new.length * sz /\
   ∀ (i j : Nat) (d : DC), at2 new i j = some d -> ∃ v, cells[i * sz + j]? = some v /\ RdC w (Mut X μ st.σ) v d := by
 have main : ∀ (b off0 cap : Nat) (cs : Array Value) (E : TypeId) (fr : Nat × Nat), w.heap[b]? = some (.cells cs E fr) ->
   (∀ (i j : Nat) (d : DC), at2 new i j = some d -> ∃ v, cs[off0 + i * sz + j]? = some v /\ RdC w (Mut X μ st.σ) v d) ->
   (new.length * sz ≠ 0 -> off0 + new.length * sz <= cs.size) ->
   ∃ cells : Array Value, (Builtin.firstCells sz new.length (.slice (some ⟨b, off0, none⟩) new.length cap)).run P w = .ok cells w /\ cells.size = new.length * sz /\
    ∀ (i j : Nat) (d : DC), at2 new i j = some d -> ∃ v, cells[i * sz + j]? = some v /\ RdC w (Mut X μ st.σ) v d := by
  intro b off0 cap cs E fr hh hg hle
  by_cases h0 : new.length * sz = 0
  ·refine ⟨#[], ?_, by simp [h0], fun i j d hd => ?_⟩
   ·simp only [Builtin.firstCells, h0, loadCells, loadCellsFrom, Sem.run_pure]
   ·exfalso
    have hi := kE hd
    have hsz : sz = 0 := by
     rcases Nat.mul_eq_zero.1 h0 with h | h
     ·omega
     ·exact h
    unfold at2 at hd
    rw [List.getElem?_eq_getElem hi] at hd
    have := hl _ (List.getElem_mem hi)
    have hj := (List.getElem?_eq_some_iff.1 (show (new[i])[j]? = some d from hd)).1
    omega
  ·refine ⟨_, gr hh off0 (new.length * sz) (hle h0), by simp; have := hle h0; omega, fun i j d hd => ?_⟩
   obtain ⟨v, h1, h2⟩ := hg i j d hd
   refine ⟨v, ?_, h2⟩
   have hi := kE hd
   have hj : j < sz := by
    unfold at2 at hd
    rw [List.getElem?_eq_getElem hi] at hd
    have := hl _ (List.getElem_mem hi)
    have hj := (List.getElem?_eq_some_iff.1 (show (new[i])[j]? = some d from hd)).1
    omega
   have hmul : i * sz + sz <= new.length * sz := by rw [<- Nat.succ_mul]; exact Nat.mul_le_mul_right _ hi
   have := hle h0
   rw [Array.getElem?_extract, if_pos (by omega), <- h1]
   congr 1; omega
 unfold dt at he
 split at he
 ·cases he
  cases hx with
  | nil => exact ⟨rfl, by
    rename_i a c
    cases a with
    | none => exact ⟨#[], rfl, by simp, fun i j d hd => by simp [at2] at hd⟩
    | some a => exact ⟨#[], by simp [Builtin.firstCells, loadCells, loadCellsFrom], by simp, fun i j d hd => by simp [at2] at hd⟩⟩
  | sl vs hh hX hlen hcap hsz hv hr =>
   rename_i b off len cap sz' cs E fr
   subst hlen
   refine ⟨rfl, ?_⟩
   have hszz : ∀ i j d, at2 new i j = some d -> sz' = sz := by
    intro i j d hd
    have hi := kE hd
    rw [<- hsz i _ (List.getElem?_eq_getElem hi), hl _ (List.getElem_mem hi)]
   refine main b off cap cs E fr hh (fun i j d hd => ⟨vs i j, by rw [<- hv i j d hd, hszz i j d hd], hr i j d hd⟩) (fun h0 => ?_)
   have hn : 0 < new.length := by rcases Nat.eq_zero_or_pos new.length with h | h; (rw [h] at h0; simp at h0); exact h
   have hs0 : 0 < sz := by rcases Nat.eq_zero_or_pos sz with h | h; (rw [h] at h0; simp at h0); exact h
   have hi : new.length - 1 < new.length := by omega
   have hll := hl _ (List.getElem_mem hi)
   have hat : at2 new (new.length - 1) (sz - 1) = some ((new[new.length - 1])[sz - 1]'(by omega)) := by
    unfold at2; rw [List.getElem?_eq_getElem hi]; simp
   have h1 := hv _ _ _ hat
   rw [hszz _ _ _ hat] at h1
   have := (Array.getElem?_eq_some_iff.1 h1).1
   have e1 : (new.length - 1) * sz + sz = new.length * sz := by rw [<- Nat.succ_mul]; congr 1; omega
   omega
 ·cases he
  obtain ⟨ad, rfl⟩ : ∃ ad, vx = .slice ad 0 0 := hx
  refine ⟨rfl, #[], ?_, by simp, fun i j d hd => by simp [at2] at hd⟩
  cases ad with
  | none => rfl
  | some b => simp [Builtin.firstCells, loadCells, loadCellsFrom]
 ·rename_i id szx off len
  split at he
  ·rename_i sz' es hes
   split at he
   ·rename_i hc
    cases he
    obtain ⟨cap, cs, E, fr, rfl, hle, hh, hcap⟩ := hx
    obtain ⟨_, cs', E', hh', hle', hlen', hrel⟩ := hs.objs _ _ hes
    have hlen : ((es.drop off).take len).length = len := by simp; omega
    rw [hlen];refine ⟨rfl, ?_⟩
    have hszx : ∀ i, i < len -> szx = sz := by
     intro i hi
     have hio : off + i < es.length := by omega
     have h1 := hlen' _ _ (List.getElem?_eq_getElem hio)
     have h2 := hl es[off + i] (by
      refine List.mem_of_getElem? (i := i) ?_
      rw [List.getElem?_take, if_pos hi, List.getElem?_drop, List.getElem?_eq_getElem hio])
     omega
    have := main (μ id) (off * szx) cap cs' E' (0, 0) hh' (fun i j d hd => ?_) (fun h0 => ?_)
    ·rw [hlen] at this; exact this
    ·have hi := kE hd
     rw [hlen] at hi
     have hat : at2 es (off + i) j = some d := by
      unfold at2 at hd ⊢
      rw [List.getElem?_take, if_pos hi, List.getElem?_drop] at hd;exact hd
     obtain ⟨v, h1, h2⟩ := hrel _ _ _ hat
     refine ⟨v, ?_, h2⟩;rw [<- h1, hc.1, hszx i hi, Nat.add_mul]
    ·rw [hlen] at h0 ⊢
     have hn : 0 < len := by rcases Nat.eq_zero_or_pos len with h | h; (rw [h] at h0; simp at h0); exact h
     have e := hszx 0 hn
     have h3 : (off + len) * sz' <= es.length * sz' := Nat.mul_le_mul_right _ hc.2
     rw [Nat.add_mul, hc.1, e] at h3;rw [e];rw [hc.1, e] at hle'
     omega
   ·cases he
  ·cases he
 ·cases he

theorem n8 (n : Nat) : ∀ (r c : Nat), 256 <= c -> c < n -> Builtin.growBy n r c <= 2 * n
 | 0, c, _, h => by simp [Builtin.growBy]; omega
 | r + 1, c, h1, h2 => by
  simp only [Builtin.growBy]
  split
  ·omega
  ·by_cases h3 : c + (c + 768) / 4 < n
   ·exact n8 n r _ (by omega) h3
   ·have : ∀ r c, n <= c -> Builtin.growBy n r c = c := by
     intro r c hc
     cases r with
     | zero => rfl
     | succ r => simp [Builtin.growBy, hc]
    rw [this _ _ (by omega)]
    omega

theorem rr {n c : Nat} (h : c < n) : Builtin.nextslicecap n c <= 2 * n := by
 unfold Builtin.nextslicecap
 split
 ·omega
 ·split
  ·omega
  ·exact n8 n 4 c (by omega) h

theorem lX (z : Array Value) (n : Nat) : (Builtin.zeroCells z n).size = n * z.size := by simp [Builtin.zeroCells]

theorem kM {sz : Nat} {es new : List (List DC)} {old cells rest : Array Value} (hold : old.size = es.length * sz) (hcells : cells.size = new.length * sz)
  (hes : ∀ e ∈ es, e.length = sz) (hnew : ∀ e ∈ new, e.length = sz)
  (h1 : ∀ (i j : Nat) (d : DC), at2 es i j = some d -> ∃ v, old[i * sz + j]? = some v /\ RdC w X v d)
  (h2 : ∀ (i j : Nat) (d : DC), at2 new i j = some d -> ∃ v, cells[i * sz + j]? = some v /\ RdC w X v d) :
  RelO w X μ (old ++ cells ++ rest) (.arr sz (es ++ new)) := by
 refine ⟨by simp only [Array.size_append, List.length_append, Nat.add_mul]; omega, fun i e he => ?_, fun i j d hd => ?_⟩
 ·rcases List.mem_append.1 (List.mem_of_getElem? he) with h | h
  ·exact hes e h
  ·exact hnew e h
 ·have hjlt : j < sz := by
   unfold at2 at hd
   cases he : (es ++ new)[i]? with
   | none => rw [he] at hd; cases hd
   | some e =>
    rw [he] at hd
    have hj := (List.getElem?_eq_some_iff.1 (show e[j]? = some d from hd)).1
    rcases List.mem_append.1 (List.mem_of_getElem? he) with h | h
    ·rw [hes e h] at hj; exact hj
    ·rw [hnew e h] at hj; exact hj
  by_cases hi : i < es.length
  ·have hat : at2 es i j = some d := by unfold at2 at hd ⊢; rwa [List.getElem?_append_left hi] at hd
   obtain ⟨v, hv, hr⟩ := h1 i j d hat
   have hlt := (Array.getElem?_eq_some_iff.1 hv).1
   exact ⟨v, by rw [Array.append_assoc, Array.getElem?_append_left hlt]; exact hv, hr⟩
  ·have hat : at2 new (i - es.length) j = some d := by unfold at2 at hd ⊢; rwa [List.getElem?_append_right (by omega)] at hd
   obtain ⟨v, hv, hr⟩ := h2 _ j d hat
   have hlt := (Array.getElem?_eq_some_iff.1 hv).1
   have e : i * sz = es.length * sz + (i - es.length) * sz := by rw [<- Nat.add_mul]; congr 1; omega
   refine ⟨v, ?_, hr⟩;rw [Array.append_assoc, Array.getElem?_append_right (by omega), Array.getElem?_append_left (by omega), <- hv]
   congr 1; omega

theorem Sim.drew (hs : Sim w0 X μ a w st) : Sim w0 X μ a w.drew st := hs.below ((Below.refl _ _).drew)

theorem tv {d : Nat} (hno : st.noRef d = true) (id : Nat) (o : OO) (ho : o.noRef d = true) : ({ st with σ := aQ st.σ id o } : St).noRef d = true := by
 simp only [St.noRef, Bool.and_eq_true] at hno ⊢;refine ⟨hno.1, hno.2.1, List.all_eq_true.2 fun k hk => ?_⟩
 have := List.all_eq_true.1 hno.2.2 k hk
 simp only [aQ]
 by_cases hki : k = id
 ·simp [hki, ho]
 ·simpa [hki] using this

theorem tw {d : Nat} (hno : st.noRef d = true) (id : Nat) : ({ st with σ := gB st.σ id } : St).noRef d = true := by
 simp only [St.noRef, Bool.and_eq_true] at hno ⊢;refine ⟨hno.1, hno.2.1, List.all_eq_true.2 fun k hk => ?_⟩
 have := List.all_eq_true.1 hno.2.2 k hk
 simp only [gB]
 by_cases hki : k = id
 ·simp [hki]
 ·simpa [hki] using this

theorem ln (hT : TOK P T) (hs : Sim w0 X μ a w st) {t t2 tt : TypeId} {vs vx : Value} {s x : SV} {id : Option Nat} {sz : Nat} {es : List (List DC)} {d : Nat}
  (hvs : RelV w (Mut X μ st.σ) μ vs s) (hvx : RelV w (Mut X μ st.σ) μ vx x) (h : aP T st t t2 s x = .app id sz es) (hno : st.noRef d = true) (hsn : s.noRef d = true) :
  ∃ u w' μ', (Builtin.append_ #[t, t2] tt #[vs, vx]).run P w = .ok u w' /\ Sim w0 X μ' (a.put (some d) u) w' (st.app d id (.arr sz es) (.val (.one (.own d sz 0 es.length)))) := by
 unfold aP at h
 split at h
 ·rename_i ti ti2 hti hti2
  split at h
  ·rename_i e e2 he he2
   split at h
   ·rename_i ei new hei hnew
    split at h
    ·rename_i hcond
     obtain ⟨hsz0, hby, hall⟩ := hcond
     have hnl : ∀ el ∈ new, el.length = ei.size := fun el hel => by have := List.all_eq_true.1 hall el hel; simpa using this
     have hu := (hT.ty _ _ hti).run_slice w he
     have hu2 := (hT.ty _ _ hti2).run_slice w he2
     have ht := hT.ty _ _ hei
     have hsize := ht.run_sizeOf w
     obtain ⟨inf, hinf, hinfb, _⟩ := ht.run_bytes w
     obtain ⟨hlenx, cells, hcells, hcsz, hcrel⟩ := ot (P := P) hs hvx hnew hnl
     have hsD := hs.drew
     have hcellsD := (ot (P := P) hsD (w := w.drew) (hvx.mono (fun _ _ h => h) (Fwd.of_below ((Below.refl _ _).drew))) hnew hnl).2
     -- it does not fit: a new row
     have grow : ∀ (base : Option Addr) (sLen sCap : Nat) (old : Array Value), vs = .slice base sLen sCap -> sLen + new.length <= 2 ^ 36 -> ¬ sLen + new.length <= sCap ->
       (Builtin.firstCells ei.size sLen vs).run P w.drew = .ok old w.drew ->
       ∃ (cells : Array Value) (rest : Array Value) (newCap : Nat), sLen + new.length <= newCap /\ rest.size = (newCap - (sLen + new.length)) * ei.size /\ cells.size = new.length * ei.size /\
        (∀ (i j : Nat) (d : DC), at2 new i j = some d -> ∃ v, cells[i * ei.size + j]? = some v /\ RdC w.drew (Mut X μ st.σ) v d) /\
        (Builtin.append_ #[t, t2] tt #[vs, vx]).run P w = .ok (.slice (some ⟨w.drew.heap.size, 0, none⟩) (sLen + new.length) newCap) (w.drew.alloc (.cells (old ++ cells ++ rest) e)) := by
      intro base sLen sCap old hv hb hcap hold
      obtain ⟨cells, hc1, hc2, hc3⟩ := hcellsD
      have hinfD : (typeInfo e).run P w.drew = .ok inf w.drew := by
       obtain ⟨i, hi, _⟩ := ht.run_bytes w.drew
       have h1 := hinf
       simp only [typeInfo, Sem.run_bind, run_program, Result.andThen_ok] at h1 hi ⊢
       cases hp : P.info? e with
       | none => rw [hp] at h1; simp at h1
       | some i' => rw [hp] at h1; simp at h1; rw [h1]; rfl
      have hmax : IntKind.i64.max = 9223372036854775807 := by decide
      have hnc := rr (n := sLen + new.length) (c := sCap) (by omega)
      have hmul : Builtin.nextslicecap (sLen + new.length) sCap * inf.bytes <= 2 ^ 37 * 256 := by
       rw [hinfb]; exact Nat.mul_le_mul (by omega) hby
      refine ⟨cells, Builtin.zeroCells (mkV ei.agg (ei.zero.map eN)).cells ((Question.appendCap (sLen + new.length) sCap e).cut (w.tape w.drawn (.appendCap (sLen + new.length) sCap e)) - (sLen + new.length)),
       (Question.appendCap (sLen + new.length) sCap e).cut (w.tape w.drawn (.appendCap (sLen + new.length) sCap e)), by simp [Question.cut], ?_, hc2, hc3, ?_⟩
      ·rw [lX]
       have := congrArg List.length (gK ht)
       simp [ht.zsz] at this
       rw [this]
      ·subst hv
       unfold Builtin.append_
       simp only [List.getElem?_toArray, List.getElem?_cons_zero, List.getElem?_cons_succ, Sem.run_bind, hu, hu2, hsize, Result.andThen_ok, Sem.run_pure];rw [if_neg (by simp)];simp only [Sem.run_bind, hlenx, Result.andThen_ok];rw [if_neg hcap];simp only [Sem.run_bind, hinf, Result.andThen_ok];rw [if_neg (by rw [hmax]; omega)];simp only [Sem.run_bind, hinf, Result.andThen_ok];rw [if_neg (by omega)]
       have hforced : (Question.appendCap (sLen + new.length) sCap e).forced = false := rfl
       simp only [Sem.run_bind, run_choose, hforced, Bool.false_eq_true, if_false, Result.andThen_ok]
       change Result.andThen (Sem.run P _ w.drew) _ = _
       simp only [hinfD, Result.andThen_ok, run_askRoom, hold];rw [if_pos (by simp)];simp only [hc1, Result.andThen_ok, ht.run_zero, newRow, Sem.run_bind, run_newObj, Sem.run_pure]
       rfl
     -- it fits: the row is written
     have fits : ∀ (b o sLen sCap : Nat) (w1 : World), vs = .slice (some ⟨b, o, none⟩) sLen sCap -> sLen + new.length <= sCap ->
       (storeCells ⟨b, o + sLen * ei.size, none⟩ cells.toList).run P w = .ok () w1 ->
       (Builtin.append_ #[t, t2] tt #[vs, vx]).run P w = .ok (.slice (some ⟨b, o, none⟩) (sLen + new.length) sCap) w1 := by
      intro b o sLen sCap w1 hv hcap hst
      subst hv
      unfold Builtin.append_
      simp only [List.getElem?_toArray, List.getElem?_cons_zero, List.getElem?_cons_succ, Sem.run_bind, hu, hu2, hsize, Result.andThen_ok, Sem.run_pure];rw [if_neg (by simp)];simp only [Sem.run_bind, hlenx, Result.andThen_ok];rw [if_pos hcap];simp only [Sem.run_bind];rw [if_pos (by simp)];simp only [hcells, Result.andThen_ok, d6, hst, Sem.run_pure]
     have hel : ∀ (l : List (List DC)), (∀ e ∈ l, e.length = ei.size) -> ∀ e ∈ l, e.length = ei.size := fun _ h => h
     split at h
     ·-- a nil slice
      split at h
      ·rename_i hn
       injection h with h1 h2 h3
       subst h1; subst h2; subst h3
       obtain ⟨ad, hv⟩ : ∃ ad, vs = .slice ad 0 0 := hvs
       obtain ⟨cells', rest, newCap, h1, h2, h3, h4, h5⟩ := grow ad 0 0 #[] hv (by omega) (by omega) (by rw [hv]; cases ad with | none => rfl | some b => simp [Builtin.firstCells, loadCells, loadCellsFrom])
       have hrel := kM (w := w.drew) (X := Mut X μ st.σ) (μ := μ) (sz := ei.size) (es := []) (new := new) (old := #[]) (rest := rest) (by simp) h3 (by simp) hnl
        (fun i j d hd => by simp [at2] at hd) h4
       refine ⟨_, _, upm μ d w.drew.heap.size, h5, ?_⟩
       have := hsD.alloc (d := d) (u := .slice (some ⟨w.drew.heap.size, 0, none⟩) (0 + new.length) newCap) (v := .val (.one (.own d ei.size 0 new.length))) (E := e) hno hrel rfl
        ⟨newCap, _, e, (0, 0), by simp [upm], by omega, by rw [show upm μ d w.drew.heap.size d = w.drew.heap.size by simp [upm]]; exact dP _ _, by
         simp only [Array.empty_append, Array.size_append, h2, h3, Nat.zero_add]
         rw [<- Nat.add_mul]; exact Nat.mul_le_mul_right _ (by omega)⟩
       have e1 : (fun k => if some k = (none : Option Nat) then none else st.σ k) = st.σ := by funext k; simp
       simpa [St.new, St.app, OO.noOwn, e1] using this
      ·cases h
     ·rename_i id' sz' len
      split at h
      ·rename_i sz'' es' hes'
       split at h
       ·rename_i hc
        obtain ⟨hc1, hc2, hc3, hc4⟩ := hc
        injection h with h1 h2 h3
        subst h1; subst h3; subst hc2; subst hc3; subst h2; subst hc1
        have hcl : cells.toList.length = cells.size := Array.length_toList
        have hne : d ≠ id' := by
         intro e; subst e
         simp [SV.noRef, VV.noRef, SC.noRef] at hsn
        obtain ⟨cap, cs, E, fr, hv, hle, hh, hcapsz⟩ := hvs
        obtain ⟨hB, cs0, E0, hh0, hl0, hlen0, hrel0⟩ := hs.objs _ _ hes'
        rw [hh] at hh0; cases hh0;simp only [Nat.zero_mul, Nat.zero_add] at hv hcapsz
        by_cases hcap : es'.length + new.length <= cap
        ·-- in place
         have hmul : (es'.length + new.length) * ei.size <= cap * ei.size := Nat.mul_le_mul_right _ hcap
         rw [Nat.add_mul] at hmul
         have hone : ∀ v ∈ cells.toList, v.oneCell' = true := by
          intro v hvm
          obtain ⟨k, hk⟩ := List.mem_iff_getElem?.1 hvm
          have hklt : k < cells.size := by have := (List.getElem?_eq_some_iff.1 hk).1; simpa using this
          have hs0 : 0 < ei.size := by omega
          have hi : k / ei.size < new.length := by rw [Nat.div_lt_iff_lt_mul hs0]; omega
          have hj : k % ei.size < ei.size := Nat.mod_lt _ hs0
          have hll := hnl _ (List.getElem_mem hi)
          have hat : at2 new (k / ei.size) (k % ei.size) = some ((new[k / ei.size])[k % ei.size]'(by omega)) := by
           unfold at2; rw [List.getElem?_eq_getElem hi]; simp
          obtain ⟨v', h1, h2⟩ := hcrel _ _ _ hat
          rw [Nat.div_add_mod' k ei.size] at h1;rw [Array.getElem?_toList, h1] at hk; cases hk;exact h2.oneCell
         have hst := eW (P := P) cells.toList hh (0 + es'.length * ei.size) 0 (by omega) hone
         simp only [Nat.zero_add, Nat.add_zero] at hst
         have hrun := fits _ 0 _ _ _ hv hcap (by simpa using hst)
         have hrelA : RelO w (Mut X μ st.σ) μ (spl cs (es'.length * ei.size) cells.toList) (.arr ei.size (es' ++ new)) := by
          refine ⟨by rw [bT, List.length_append, Nat.add_mul]; omega, fun i el hel => ?_, fun i j dd hd => ?_⟩
          ·rcases List.mem_append.1 (List.mem_of_getElem? hel) with hm | hm
           ·obtain ⟨k, hk⟩ := List.mem_iff_getElem?.1 hm; exact hlen0 _ _ hk
           ·exact hnl _ hm
          ·rw [g6 _ _ _ _ (by omega), hcl]
           by_cases hi : i < es'.length
           ·have hat : at2 es' i j = some dd := by unfold at2 at hd ⊢; rwa [List.getElem?_append_left hi] at hd
            obtain ⟨v, h1, h2⟩ := hrel0 _ _ _ hat
            have hj : j < ei.size := by
             unfold at2 at hat
             rw [List.getElem?_eq_getElem hi] at hat
             have := (List.getElem?_eq_some_iff.1 (show (es'[i])[j]? = some dd from hat)).1
             rw [hlen0 _ _ (List.getElem?_eq_getElem hi)] at this; exact this
            have hm : i * ei.size + ei.size <= es'.length * ei.size := by rw [<- Nat.succ_mul]; exact Nat.mul_le_mul_right _ hi
            exact ⟨v, by rw [if_neg (by omega)]; exact h1, h2⟩
           ·have hat : at2 new (i - es'.length) j = some dd := by unfold at2 at hd ⊢; rwa [List.getElem?_append_right (by omega)] at hd
            obtain ⟨v, h1, h2⟩ := hcrel _ _ _ hat
            have hlt := (Array.getElem?_eq_some_iff.1 h1).1
            have e1 : i * ei.size = es'.length * ei.size + (i - es'.length) * ei.size := by rw [<- Nat.add_mul]; congr 1; omega
            refine ⟨v, ?_, h2⟩;rw [if_pos (by omega), Array.getElem?_toList, <- h1]
            congr 1; omega
         have s1 := hs.upd (o' := .arr ei.size (es' ++ new)) hes' hh (bT _ _ _) hrelA (rb' := st.rb) (fun k hk => hk) (fun l hl => by cases hl)
         have s2 := s1.move (id := id') (d := d) (sz := ei.size) (es := es' ++ new) (by simp [aQ]) (tv hno id' _ rfl) hne
         have s3 := s2.put (dst := some d) (u := .slice (some ⟨μ id', 0, none⟩) (es'.length + new.length) cap) (v := .val (.one (.own d ei.size 0 (es' ++ new).length))) ⟨cap, _, E, (0, 0),
          by simp [upm], by rw [List.length_append]; exact hcap, by rw [show upm μ d (μ id') d = μ id' by simp [upm]]; exact b7 hh _, by rw [bT]; simpa using hcapsz⟩
         refine ⟨_, _, upm μ d (μ id'), hrun, ?_⟩
         have e1 : gB (aQ st.σ id' (.arr ei.size (es' ++ new))) id' = (fun k => if some k = some id' then none else st.σ k) := by
          funext k
          simp only [gB, aQ, Option.some.injEq]
          split <;> simp_all
         simp only [e1] at s3;exact s3
        ·-- a new row
         have hhD : w.drew.heap[μ id']? = some (.cells cs E (0, 0)) := hh
         have hold := gr (P := P) hhD 0 (es'.length * ei.size) (by omega)
         obtain ⟨cells', rest, newCap, h1, h2, h3, h4, h5⟩ := grow _ _ _ _ hv (by omega) hcap (by rw [hv]; exact hold)
         have sd := (hsD.del id')
         have hM : ∀ k, k < w.drew.heap.size -> Mut X μ (gB st.σ id') k -> Mut X μ st.σ k := by
          intro k _ hm
          rcases hm with hm | ⟨j, oj, g1, g2⟩
          ·exact Or.inl hm
          ·simp only [gB] at g1
           split at g1
           ·cases g1
           ·exact Or.inr ⟨j, oj, g1, g2⟩
         have hrel := kM (w := w.drew) (X := Mut X μ (gB st.σ id')) (μ := μ) (sz := ei.size) (es := es') (new := new) (old := cs.extract 0 (0 + es'.length * ei.size)) (rest := rest)
          (by simp; omega) h3 (fun e he => by obtain ⟨k, hk⟩ := List.mem_iff_getElem?.1 he; exact hlen0 _ _ hk) hnl
          (fun i j dd hd => by
           obtain ⟨v, g1, g2⟩ := hrel0 i j dd hd
           refine ⟨v, ?_, RdC.mono (w := w) (w' := w.drew) hM (fun _ _ _ => rfl) g2⟩
           have hi := kE hd
           have hj : j < ei.size := by
            unfold at2 at hd
            rw [List.getElem?_eq_getElem hi] at hd
            have := (List.getElem?_eq_some_iff.1 (show (es'[i])[j]? = some dd from hd)).1
            rw [hlen0 _ _ (List.getElem?_eq_getElem hi)] at this; exact this
           have hm : i * ei.size + ei.size <= es'.length * ei.size := by rw [<- Nat.succ_mul]; exact Nat.mul_le_mul_right _ hi
           rw [Array.getElem?_extract, if_pos (by omega), <- g1]
           congr 1; omega)
          (fun i j dd hd => by obtain ⟨v, g1, g2⟩ := h4 i j dd hd; exact ⟨v, g1, RdC.mono hM (fun _ _ _ => rfl) g2⟩)
         refine ⟨_, _, upm μ d w.drew.heap.size, h5, ?_⟩
         have := sd.alloc (d := d) (u := .slice (some ⟨w.drew.heap.size, 0, none⟩) (es'.length + new.length) newCap) (v := .val (.one (.own d ei.size 0 (es' ++ new).length))) (E := e) (tw hno id') hrel rfl
          ⟨newCap, _, e, (0, 0), by simp [upm], by rw [List.length_append]; omega, by rw [show upm μ d w.drew.heap.size d = w.drew.heap.size by simp [upm]]; exact dP _ _, by
           simp only [Array.size_append, h2, h3, Nat.zero_add, Array.size_extract]
           have e2 : min (es'.length * ei.size) cs.size - 0 = es'.length * ei.size := by omega
           rw [e2, <- Nat.add_mul, <- Nat.add_mul]; exact Nat.mul_le_mul_right _ (by omega)⟩
         have e1 : (fun k => if some k = some id' then none else st.σ k) = gB st.σ id' := by
          funext k; simp [gB]
         have e2 : st.app d (some id') (.arr ei.size (es' ++ new)) (.val (.one (.own d ei.size 0 (es' ++ new).length))) = St.new { st with σ := gB st.σ id' } d (.arr ei.size (es' ++ new)) (.val (.one (.own d ei.size 0 (es' ++ new).length))) := by
          simp only [St.new, St.app, OO.noOwn, e1, if_true]
         rw [e2];exact this
       ·cases h
      ·cases h
     ·cases h
    ·cases h
   ·cases h
  ·cases h
 ·cases h

end
end Go.Proofs.YtnoildlijhapaaaGreatDoor

/- Contracts, and one operation of the abstract state against the model's. No condition. -/
namespace Go.Proofs.YtnoildlijhapaaaGreatDoor
open Go.RowKit

def Res.ok (r : Res) : Bool := r.v.noAddr && (r.ob.isSome || r.v.noOwn)

def jq (K : St -> Prop) (st : St) (d : Nat) (r : Res) : Prop :=
 match r.ob with
 | none => K (st.put (some d) r.v)
 | some (sz, es) => st.noRef d = true /\ K (st.new d (.arr sz es) (uL d r.v))

def opE (P : Program) (o : Oper) (K : St -> Prop) (st : St) : Eff -> Prop
 | .set v => K (st.put o.dst v)
 | .new ob v => match o.dst with
  | some d => st.noRef d = true /\ K (st.new d ob (v d))
  | none => False
 | .upd σ rb => K (St.put ⟨st.ρ, σ, rb⟩ o.dst .none)
 | .app id sz es => match o.dst with
  | some d => st.noRef d = true /\ K (st.app d id (.arr sz es) (.val (.one (.own d sz 0 es.length))))
  | none => False
 | .call f args => match o.dst with
  | some d => ∃ args' r, bR st args = some args' /\ Con P f args' r /\ (args.all SV.noOwn = true \/ wX r) /\ r.ok = true /\ jq K st d r
  | none => False
 | .stuck => False
def opA (P : Program) (T : Tab) (o : Oper) (K : St -> Prop) (st : St) : Prop := opE P o K st (eff T st o)

def Eff.pure : Eff -> Bool
 | .set _ | .stuck => true
 | _ => false

theorem iO (T : Tab) (op : BinOp) (t : TypeId) (x y : SV) : (aF T op t x y).pure = true := by
 unfold aF qG aT; repeat' split
 all_goals rfl
theorem jw (op : UnOp) (x : SV) : (mU op x).pure = true := by
 unfold mU aT; repeat' split
 all_goals rfl
theorem ig (c a b : SV) : (ii c a b).pure = true := by
 unfold ii; repeat' split
 all_goals rfl
theorem ik (T : Tab) (s d : TypeId) (x : SV) : (gi T s d x).pure = true := by
 unfold gi aT; repeat' split
 all_goals rfl
theorem ij (T : Tab) (st : St) (t : TypeId) (x : SV) : (bp T st t x).pure = true := by
 unfold bp; repeat' split
 all_goals rfl
theorem dC (T : Tab) (s : TypeId) (x : SV) (f : Nat) : (b9 T s x f).pure = true := by
 unfold b9; repeat' split
 all_goals rfl
theorem gz (T : Tab) (s : TypeId) (x : SV) (f : Nat) : (gP T s x f).pure = true := by
 unfold gP; repeat' split
 all_goals rfl
theorem gy (T : Tab) (t : TypeId) (x i : SV) : (cD T t x i).pure = true := by
 unfold cD aT
 repeat' split
 all_goals rfl
theorem dN (f : FuncId) (xs : List SV) : (b8 f xs).pure = true := by
 unfold b8
 repeat' split
 all_goals rfl
theorem d4 (T : Tab) (st : St) (x : SV) (xs : List SV) : (iN T st x xs).pure = true := by
 unfold iN
 repeat' split
 all_goals rfl
theorem dz (T : Tab) (t : TypeId) (x i : SV) : (aU T t x i).pure = true := by
 unfold aU; repeat' split
 all_goals rfl
theorem eu (x : SV) (i : Nat) : (dO x i).pure = true := by
 unfold dO; repeat' split
 all_goals rfl
theorem da (T : Tab) (t : TypeId) (x : SV) : (kq T t x).pure = true := by
 unfold kq aT; repeat' split
 all_goals rfl
theorem gA (T : Tab) (t : TypeId) (p : List (Nat × SV)) : (gS T t p).pure = true := by
 unfold gS; repeat' split
 all_goals rfl
theorem bD (m : Bool) (x y : SV) : (ow m x y).pure = true := by
 unfold ow aT; repeat' split
 all_goals rfl
theorem gx (T : Tab) (st : St) (t : TypeId) (x : SV) (lo hi : Option Operand) : (dw T st t x lo hi).pure = true := by
 unfold dw ci aT; repeat' split
 all_goals rfl

section
variable {P : Program} {T : Tab} {w w' : World} {w0 : Base} {X : Nat -> Prop} {μ : Nat -> Nat} {a : Act} {st : St}

def gl (w0 : Base) (X : Nat -> Prop) (K : St -> Prop) (a : Act) (w : World) : Prop := ∃ μ st, Sim w0 X μ a w st /\ K st

theorem iv {o : Oper} {s : Sem Value} {u : Value} {next : Act -> World -> Prop} {Q : Exit -> Act -> World -> Prop} (h : s.run P w = .ok u w') (hn : next (a.put o.dst u) w') :
  o.upon P a next Q ((do pure (Next.value (<- s)) : Sem Next).run P w) := by
 simp only [Sem.run_bind, h, Result.andThen_ok, Sem.run_pure];exact hn

theorem bc {o : Oper} {K : St -> Prop} {s : Sem Value} {e : Eff} {Q : Exit -> Act -> World -> Prop} (hs : Sim w0 X μ a w st) (hp : e.pure = true) (h : opE P o K st e)
  (hy : ∀ v, e = .set v -> Yv P w (Mut X μ st.σ) μ s v) : o.upon P a (gl w0 X K) Q ((do pure (Next.value (<- s)) : Sem Next).run P w) := by
 cases e with
 | set v =>
  obtain ⟨u, hu, hr⟩ := hy v rfl
  exact iv hu ⟨μ, _, hs.put hr, h⟩
 | stuck => exact h.elim
 | _ => cases hp

theorem kx (hs : Sim w0 X μ a w st) {v : Value} {c : SC} {d : DC} (hc : RelC w (Mut X μ st.σ) μ v c) (h : cG st c = some d) :
  RdC w (fun _ => False) v d /\ (c.noOwn = true -> RdC w (Mut X μ st.σ) v d) := by
 have weak : ∀ {v d}, RdC w (Mut X μ st.σ) v d -> RdC w (fun _ => False) v d := fun h => RdC.mono (fun _ _ h => h.elim) (fun _ _ _ => rfl) h
 cases c with
 | d c => simp [cG] at h; subst h; exact ⟨weak hc, fun _ => hc⟩
 | nil => simp [cG] at h; subst h; obtain ⟨ad, rfl⟩ := hc; exact ⟨.nil, fun _ => .nil⟩
 | own id sz off len =>
  refine ⟨?_, fun h => by simp [SC.noOwn] at h⟩;simp only [cG] at h
  split at h
  ·rename_i sz' es hes
   split at h
   ·rename_i hc'
    cases h
    obtain ⟨cap, cs, E, fr, rfl, hle, hh, hcap⟩ := hc
    obtain ⟨_, cs', E', hh', hl', hlen', hrel⟩ := hs.objs _ _ hes
    rw [hh] at hh'; cases hh'
    obtain ⟨rfl, hoff⟩ := hc'
    have hat : ∀ {i j d}, at2 ((es.drop off).take len) i j = some d -> at2 es (off + i) j = some d := by
     intro i j d hd
     unfold at2 at hd ⊢
     rw [List.getElem?_take] at hd
     split at hd
     ·rwa [List.getElem?_drop] at hd
     ·simp at hd
    refine RdC.sl (sz := sz') (fun i j => cs.getD ((off + i) * sz' + j) undef) hh (fun h => h) (by simp; omega) hle ?_ ?_ ?_
    ·intro i e he
     rw [List.getElem?_take] at he
     split at he
     ·rw [List.getElem?_drop] at he; exact hlen' _ _ he
     ·cases he
    ·intro i j d hd
     obtain ⟨x, h1, _⟩ := hrel _ _ _ (hat hd)
     have e1 : off * sz' + i * sz' + j = (off + i) * sz' + j := by rw [Nat.add_mul]
     rw [e1, h1]
     simp [Array.getD_eq_getD_getElem?, h1]
    ·intro i j d hd
     obtain ⟨x, h1, h2⟩ := hrel _ _ _ (hat hd)
     have : cs.getD ((off + i) * sz' + j) undef = x := by simp [Array.getD_eq_getD_getElem?, h1]
     rw [this]; exact weak h2
   ·cases h
  ·cases h
 | bad => simp [cG] at h

theorem jA (hs : Sim w0 X μ a w st) : ∀ {cs : List SC} {vs : List Value} {ds : List SC}, RelL w (Mut X μ st.σ) μ vs cs -> bw st cs = some ds ->
  RelL w (fun _ => False) μ vs ds /\ (cs.all SC.noOwn = true -> RelL w (Mut X μ st.σ) μ vs ds)
 | [], vs, ds, hr, h => by
  simp [bw] at h; subst h
  exact ⟨⟨hr.1, fun i c hc => by simp at hc⟩, fun _ => hr⟩
 | c :: cs, vs, ds, hr, h => by
  simp only [bw] at h
  split at h
  ·rename_i d ds' hd hds
   cases h
   match vs, hr with
   | [], hr => have := hr.1; simp at this
   | v :: vs, hr =>
    have hr' : RelL w (Mut X μ st.σ) μ vs cs := ⟨by simpa using hr.1, fun i c hc => by have := hr.2 (i + 1) c (by simpa using hc); simpa using this⟩
    obtain ⟨u, hu, hcu⟩ := hr.2 0 c rfl
    simp at hu; subst hu
    obtain ⟨a1, a2⟩ := kx hs hcu hd
    obtain ⟨b1, b2⟩ := jA hs hr' hds
    refine ⟨⟨by simp [b1.1], fun i c' hc' => ?_⟩, fun hno => ⟨by simp [b1.1], fun i c' hc' => ?_⟩⟩
    ·match i with
     | 0 => simp at hc'; subst hc'; exact ⟨v, rfl, a1⟩
     | i + 1 => exact b1.2 i c' (by simpa using hc')
    ·simp only [List.all_cons, Bool.and_eq_true] at hno
     match i with
     | 0 => simp at hc'; subst hc'; exact ⟨v, rfl, a2 hno.1⟩
     | i + 1 => exact (b2 hno.2).2 i c' (by simpa using hc')
  ·cases h

theorem oD : ∀ {ds : List SC} {l : List DC}, eD ds = some l -> l.length = ds.length /\ ∀ (i : Nat) (d : DC), l[i]? = some d -> ds[i]? = some (.d d) \/ (ds[i]? = some .nil /\ d = .sl [])
 | [], l, h => by simp [eD] at h; subst h; exact ⟨rfl, fun i d hd => by simp at hd⟩
 | c :: ds, l, h => by
  simp only [eD] at h
  split at h
  ·rename_i d l' hd hl
   cases h
   obtain ⟨h1, h2⟩ := oD hl
   refine ⟨by simp [h1], fun i d' hi => ?_⟩
   match i with
   | 0 =>
    simp at hi; subst hi
    cases c with
    | d c => simp [SC.data?] at hd; subst hd; exact Or.inl rfl
    | nil => simp [SC.data?] at hd; subst hd; exact Or.inr ⟨rfl, rfl⟩
    | own => simp [SC.data?] at hd
    | bad => simp [SC.data?] at hd
   | i + 1 => simpa using h2 i d' (by simpa using hi)
  ·cases h
theorem oJ (hs : Sim w0 X μ a w st) {id : Nat} {ds : List DC} (hds : j6 st id = some ds) : ∃ (cells : Array Value) (E : TypeId), w.heap[μ id]? = some (.cells cells E (0, 0)) /\
  ∀ (j : Nat) (d : DC), ds[j]? = some d -> ∃ x, cells[0 + j]? = some x /\ RdC w (fun _ => False) x d := by
 unfold j6 at hds
 split at hds
 ·rename_i cs hcs
  split at hds
  ·rename_i ds' hds'
   obtain ⟨_, cells, E, hh, hro⟩ := hs.objs _ _ hcs
   have hl : RelL w (Mut X μ st.σ) μ (cells.toList.take cs.length) cs := by
    refine ⟨by have := hro.1; simp; omega, fun j cc hj => ?_⟩
    obtain ⟨y, y1, y2⟩ := hro.2 j cc hj
    have hjl : j < cs.length := by
     rcases Nat.lt_or_ge j cs.length with h' | h'
     ·exact h'
     ·rw [List.getElem?_eq_none h'] at hj; cases hj
    exact ⟨y, by rw [List.getElem?_take, if_pos hjl, Array.getElem?_toList]; exact y1, y2⟩
   obtain ⟨g1, _⟩ := jA hs hl hds'
   obtain ⟨d1, d2⟩ := oD hds
   refine ⟨cells, E, hh, fun j d hd => ?_⟩
   have hjl : j < cs.length := by
    rcases Nat.lt_or_ge j cs.length with h' | h'
    ·exact h'
    ·have hle : ds'.length = cs.length := by have := g1.1; simp at this; have := hro.1; omega
     rw [List.getElem?_eq_none (by omega)] at hd; cases hd
   have get : ∀ {y : Value}, (cells.toList.take cs.length)[j]? = some y -> cells[0 + j]? = some y := by
    intro y hy
    rw [List.getElem?_take, if_pos hjl, Array.getElem?_toList] at hy;rw [Nat.zero_add]; exact hy
   rcases d2 j d hd with h' | ⟨h', rfl⟩
   ·obtain ⟨y, y1, y2⟩ := g1.2 j _ h'
    exact ⟨y, get y1, y2⟩
   ·obtain ⟨y, y1, y2⟩ := g1.2 j _ h'
    obtain ⟨ad, rfl⟩ := y2
    exact ⟨_, get y1, .nil⟩
  ·cases hds
 ·cases hds

theorem oN (hs : Sim w0 X μ a w st) {v : Value} {x y : SV} (hx : RelV w (Mut X μ st.σ) μ v x) (h : eE st x = some y) :
  RelV w (fun _ => False) μ v y /\ (x.noOwn = true -> RelV w (Mut X μ st.σ) μ v y) := by
 unfold eE at h
 split at h
 ·split at h
  ·rename_i d hd; cases h; exact kx hs hx hd
  ·cases h
 ·split at h
  ·rename_i ds hds
   cases h
   obtain ⟨vs, rfl, hr⟩ := hx
   obtain ⟨h1, h2⟩ := jA hs hr hds
   exact ⟨⟨vs, rfl, h1⟩, fun hno => ⟨vs, rfl, h2 hno⟩⟩
  ·cases h
 ·cases h
  exact ⟨RelV.mono (fun _ _ h => h.elim) (Fwd.refl _ _) hx, fun _ => hx⟩
 ·cases h
  exact ⟨RelFn.mono (fun _ _ h => h.elim) (fun _ _ _ => rfl) hx, fun _ => hx⟩
 ·cases h

theorem im (hs : Sim w0 X μ a w st) : ∀ {xs ys : List SV} {vs : List Value}, vs.length = xs.length -> (∀ (i : Nat) (x : SV), xs[i]? = some x -> ∃ v, vs[i]? = some v /\ RelV w (Mut X μ st.σ) μ v x) ->
  bR st xs = some ys -> vs.length = ys.length /\ (∀ (i : Nat) (y : SV), ys[i]? = some y -> ∃ v, vs[i]? = some v /\ RelV w (fun _ => False) μ v y) /\
   (xs.all SV.noOwn = true -> ∀ (i : Nat) (y : SV), ys[i]? = some y -> ∃ v, vs[i]? = some v /\ RelV w (Mut X μ st.σ) μ v y)
 | [], ys, vs, hl, _, h => by
  simp [bR] at h; subst h
  exact ⟨hl, fun i y hy => by simp at hy, fun _ i y hy => by simp at hy⟩
 | x :: xs, ys, vs, hl, hr, h => by
  simp only [bR] at h
  split at h
  ·rename_i y ys' hy hys
   cases h
   match vs, hl with
   | v :: vs, hl =>
    obtain ⟨u, hu, hux⟩ := hr 0 x rfl
    simp at hu; subst hu
    obtain ⟨a1, a2⟩ := oN hs hux hy
    obtain ⟨b0, b1, b2⟩ := im hs (vs := vs) (by simpa using hl) (fun i x hx => by have := hr (i + 1) x (by simpa using hx); simpa using this) hys
    refine ⟨by simp [b0], fun i y' hy' => ?_, fun hno i y' hy' => ?_⟩
    ·match i with
     | 0 => simp at hy'; subst hy'; exact ⟨v, rfl, a1⟩
     | i + 1 => exact b1 i y' (by simpa using hy')
    ·simp only [List.all_cons, Bool.and_eq_true] at hno
     match i with
     | 0 => simp at hy'; subst hy'; exact ⟨v, rfl, a2 hno.1⟩
     | i + 1 => exact b2 hno.2 i y' (by simpa using hy')
  ·cases h

/-! #### Behind a call -/
theorem nS {v : Value} {c : SC} {Y X' : Nat -> Prop} {μ' : Nat -> Nat} (h : RelC w Y μ' v c) (hf : c.flat = true) : RelC w X' μ' v c := by
 cases c with
 | d c => cases c with
  | lit v => cases h with | lit h => exact .lit h
  | sl es => cases es with
   | nil => cases h with
    | nil => exact .nil
    | sl vs hh hx hl => simp at hl; subst hl; exact .nil
   | cons => simp [SC.flat] at hf
 | nil => exact h
 | own => exact h
 | bad => simp [SC.flat] at hf

theorem jr {v : Value} {x : VV} {Y X' : Nat -> Prop} {μ' : Nat -> Nat} (h : RelVV w Y μ' v x) (hf : x.flat = true) : RelVV w X' μ' v x := by
 cases x with
 | one c => exact nS h hf
 | agg cs =>
  obtain ⟨vs, h1, h2, h3⟩ := h
  exact ⟨vs, h1, h2, fun i c hc => let ⟨u, a, b⟩ := h3 i c hc; ⟨u, a, nS b (List.all_eq_true.1 hf c (List.mem_of_getElem? hc))⟩⟩

theorem eL {v : Value} {x : SV} {Y X' : Nat -> Prop} {μ' : Nat -> Nat} (h : RelV w Y μ' v x) (hf : x.flat = true) : RelV w X' μ' v x := by
 cases x with
 | none => trivial
 | val x => exact jr h hf
 | tup xs =>
  obtain ⟨vs, h1, h2, h3⟩ := h
  exact ⟨vs, h1, h2, fun i c hc => let ⟨u, a, b⟩ := h3 i c hc; ⟨u, a, jr b (List.all_eq_true.1 hf c (List.mem_of_getElem? hc))⟩⟩
 | ptr => simp [SV.flat] at hf
 | pe => simp [SV.flat] at hf
 | clo => simp [SV.flat] at hf
 | fn => simp [SV.flat] at hf
 | pd => simp [SV.flat] at hf

theorem sr {v : Value} {c : SC} {Y : Nat -> Prop} {b d : Nat} (h : RelC w Y (fun _ => b) v c) : RelC w Y (upm μ d b) v (rnC d c) := by
 cases c with
 | d c => exact h
 | nil => exact h
 | own id sz off len =>
  obtain ⟨cap, cs, E, fr, h1, h2, h3, h4⟩ := h
  exact ⟨cap, cs, E, fr, by simpa [upm] using h1, h2, by simpa [upm] using h3, h4⟩
 | bad => exact h

theorem pW {v : Value} {x : VV} {Y : Nat -> Prop} {b d : Nat} (h : RelVV w Y (fun _ => b) v x) : RelVV w Y (upm μ d b) v (pU d x) := by
 cases x with
 | one c => exact sr h
 | agg cs =>
  obtain ⟨vs, h1, h2, h3⟩ := h
  refine ⟨vs, h1, by simpa using h2, fun i c hc => ?_⟩;rw [List.getElem?_map] at hc
  cases hci : cs[i]? with
  | none => rw [hci] at hc; cases hc
  | some c' =>
   rw [hci] at hc; simp at hc; subst hc
   obtain ⟨u, a, b⟩ := h3 i c' hci
   exact ⟨u, a, sr b⟩

theorem sq {v : Value} {x : SV} {Y : Nat -> Prop} {b d : Nat} (h : RelV w Y (fun _ => b) v x) (hx : x.noAddr = true) : RelV w Y (upm μ d b) v (uL d x) := by
 cases x with
 | none => trivial
 | val x => exact pW h
 | tup xs =>
  obtain ⟨vs, h1, h2, h3⟩ := h
  refine ⟨vs, h1, by simpa using h2, fun i c hc => ?_⟩;rw [List.getElem?_map] at hc
  cases hci : xs[i]? with
  | none => rw [hci] at hc; cases hc
  | some c' =>
   rw [hci] at hc; simp at hc; subst hc
   obtain ⟨u, a, b⟩ := h3 i c' hci
   exact ⟨u, a, pW b⟩
 | ptr => simp [SV.noAddr] at hx
 | pe => simp [SV.noAddr] at hx
 | clo => simp [SV.noAddr] at hx
 | fn => exact h
 | pd => exact h

theorem ms {v : Value} {c : SC} {Y : Nat -> Prop} {μ1 μ2 : Nat -> Nat} (h : RelC w Y μ1 v c) (hc : c.noOwn = true) : RelC w Y μ2 v c := by
 cases c with
 | own => simp [SC.noOwn] at hc
 | d c => exact h
 | nil => exact h
 | bad => exact h
theorem kL {v : Value} {x : VV} {Y : Nat -> Prop} {μ1 μ2 : Nat -> Nat} (h : RelVV w Y μ1 v x) (hc : x.noOwn = true) : RelVV w Y μ2 v x := by
 cases x with
 | one c => exact ms h hc
 | agg cs =>
  obtain ⟨vs, h1, h2, h3⟩ := h
  exact ⟨vs, h1, h2, fun i c hci => let ⟨u, a, b⟩ := h3 i c hci; ⟨u, a, ms b (List.all_eq_true.1 hc c (List.mem_of_getElem? hci))⟩⟩
theorem dH {v : Value} {x : SV} {Y : Nat -> Prop} {μ1 μ2 : Nat -> Nat} (h : RelV w Y μ1 v x) (hc : x.noOwn = true) (ha : x.noAddr = true) : RelV w Y μ2 v x := by
 cases x with
 | none => trivial
 | val x => exact kL h hc
 | tup xs =>
  obtain ⟨vs, h1, h2, h3⟩ := h
  exact ⟨vs, h1, h2, fun i c hci => let ⟨u, a, b⟩ := h3 i c hci; ⟨u, a, kL b (List.all_eq_true.1 hc c (List.mem_of_getElem? hci))⟩⟩
 | ptr => simp [SV.noAddr] at ha
 | pe => simp [SV.noAddr] at ha
 | clo => simp [SV.noAddr] at ha
 | fn => exact h
 | pd => exact h

theorem iY {K : St -> Prop} {d : Nat} {v : Value} {r : Res} (hs : Sim w0 X μ a w st) (hb : Below w.heap.size w w') (hok : r.ok = true) {Y : Nat -> Prop}
  (hr : rY w' Y w.heap.size v r) (hY : (∀ b, Mut X μ st.σ b -> Y b) \/ wX r) (h : jq K st d r) : gl w0 X K (a.put (some d) v) w' := by
 obtain ⟨b, hob, hv⟩ := hr
 simp only [Res.ok, Bool.and_eq_true, Bool.or_eq_true] at hok
 have hs' := hs.below hb
 unfold jq at h
 cases ho : r.ob with
 | none =>
  rw [ho] at h
  have hno : r.v.noOwn = true := by
   rcases hok.2 with h1 | h1
   ·rw [ho] at h1; cases h1
   ·exact h1
  have hv' : RelV w' (Mut X μ st.σ) μ v r.v := by
   rcases hY with hY | hF
   ·exact dH (hv.mono (fun k _ hk => Or.inl (hY k hk)) (Fwd.refl _ _)) hno hok.1
   ·exact dH (eL hv hF.1) hno hok.1
  exact ⟨μ, _, hs'.put hv', h⟩
 | some p =>
  obtain ⟨sz, es⟩ := p
  rw [ho] at h
  obtain ⟨hnr, Z9⟩ := h
  obtain ⟨hbase, cs, E, hh, hrel⟩ := hob sz es ho
  have hX' : ∀ k, k < w'.heap.size -> Mut X (upm μ d b) (aQ st.σ d (.arr sz es)) k -> Mut X μ st.σ k \/ k = b := by
   intro k _ hm
   rcases hm with hm | ⟨id, o', h1, h2⟩
   ·exact Or.inl (Or.inl hm)
   ·by_cases hid : id = d
    ·subst hid; simp [upm] at h2; exact Or.inr h2.symm
    ·simp only [aQ, if_neg hid] at h1;rw [bQ hid] at h2;exact Or.inl (Or.inr ⟨id, o', h1, h2⟩)
  refine ⟨upm μ d b, _, hs.new (b := b) hnr (Fwd.of_below hb) hs'.bel (fun id o hid => ?_) hbase hh ?_ ?_, Z9⟩
  ·obtain ⟨_, _, _, hh', _⟩ := hs.objs id o hid
   exact hb.block _ (bg hh')
  ·rcases hY with hY | hF
   ·have hmono : RelO w' (Mut X (upm μ d b) (aQ st.σ d (.arr sz es))) (fun _ => b) cs (.arr sz es) := by
     refine RelO.mono ?_ (Fwd.refl _ _) hrel
     intro k hk hm
     rcases hX' k hk hm with h1 | h1
     ·exact Or.inl (hY k h1)
     ·exact Or.inr ⟨by rw [ho]; rfl, h1⟩
    exact hmono
   ·obtain ⟨h1, h2, h3⟩ := hrel
    refine ⟨h1, h2, fun i j dd hd => ?_⟩
    obtain ⟨x, hx1, hx2⟩ := h3 i j dd hd
    refine ⟨x, hx1, ?_⟩
    have hi := kE hd
    have hmem : dd ∈ es[i] := by
     unfold at2 at hd
     rw [List.getElem?_eq_getElem hi] at hd;exact List.mem_of_getElem? (show (es[i])[j]? = some dd from hd)
    have := hF.2 sz es ho _ (List.getElem_mem hi) dd hmem
    cases dd with
    | lit v => cases hx2 with | lit h => exact .lit h
    | sl => simp [yM] at this
  ·rcases hY with hY | hF
   ·refine sq (hv.mono ?_ (Fwd.refl _ _)) hok.1
    intro k hk hm
    rcases hX' k hk hm with h1 | h1
    ·exact Or.inl (hY k h1)
    ·exact Or.inr ⟨by rw [ho]; rfl, h1⟩
   ·exact sq (eL hv hF.1) hok.1

theorem cg {d : Nat} (hno : st.noRef d = true) (x : Operand) : (opd st x).noRef d = true := by
 cases x with
 | tmp t => exact g7 hno t
 | const v =>
  simp only [opd, nk]
  split <;> first
   | rfl
   | (split <;> first
     | rfl
     | (simp only [SV.noRef, VV.noRef, List.all_map, List.all_eq_true]; intro c _; simp only [Function.comp, lS]; split <;> rfl))
 | global g => rfl
 | func f => rfl

theorem nE {d : Nat} {x : VV} (h : x.noRef d = true) : (cellsOf x).all (SC.noRef d) = true := by
 cases x with
 | one c => simpa [cellsOf, VV.noRef] using h
 | agg cs => exact h

theorem kd {o : Oper} {c : Call} {f : FuncId} {fn : Func} {next : Act -> World -> Prop} {Q : Exit -> Act -> World -> Prop} (hc : c.callee = .value (.func f))
  (h1 : P.funcs[f]? = some fn) (h2 : (fn.name == "runtime.NumGoroutine") = false) (h3 : fn.body.isSome = true)
  (h : Calls P f (c.args.map a.eval) w fun e w' => ∃ v, e = .returned v /\ next (a.put o.dst v) w') :
  o.upon P a next Q ((do let d <- resolve a.eval c o.type; invoke d.target d.args : Sem Next).run P w) := by
 have hb : fn.body.isNone = false := by cases hb : fn.body <;> simp_all
 have hrun : (do let d <- resolve a.eval c o.type; invoke d.target d.args : Sem Next).run P w = .ok (.enter f (c.args.map a.eval)) w := by
  simp only [resolve, hc, Act.eval, Deferred.ofValue, Sem.run_bind, Sem.run_pure, Result.andThen_ok, invoke, callFunc, run_program, h1, h2, hb]
  simp
 rw [hrun, Oper.upon_enter];refine h.mono fun e w' ⟨v, he, hn⟩ => ?_
 subst he
 exact hn

theorem Sim.mut_lt (hs : Sim w0 X μ a w st) (b : Nat) (h : Mut X μ st.σ b) : b < w.heap.size := by
 rcases h with h | ⟨id, o, h1, h2⟩
 ·have := (hs.xlt b h).1; have := hs.bel.size; omega
 ·obtain ⟨_, _, _, hh, _⟩ := hs.objs id o h1
  rw [<- h2]; exact bg hh

theorem rS {o : Oper} {K : St -> Prop} {c : Call} {f : FuncId} {Q : Exit -> Act -> World -> Prop} (hs : Sim w0 X μ a w st) (hc : c.callee = .value (.func f))
  (h : opE P o K st (.call f (c.args.toList.map (opd st)))) : o.upon P a (gl w0 X K) Q ((do let d <- resolve a.eval c o.type; invoke d.target d.args : Sem Next).run P w) := by
 unfold opE at h
 cases hd : o.dst with
 | none => rw [hd] at h; exact h.elim
 | some d =>
  rw [hd] at h
  obtain ⟨args', r, ha, ⟨⟨fn, h1, h2, h3⟩, hcon⟩, hF, hok, Z9⟩ := h
  refine kd hc h1 h2 h3 ?_
  have hlen : (c.args.toList.map a.eval).length = (c.args.toList.map (opd st)).length := by simp
  have hrel : ∀ (i : Nat) (x : SV), (c.args.toList.map (opd st))[i]? = some x -> ∃ v, (c.args.toList.map a.eval)[i]? = some v /\ RelV w (Mut X μ st.σ) μ v x := by
   intro i x hx
   rw [List.getElem?_map] at hx
   cases ho : c.args.toList[i]? with
   | none => rw [ho] at hx; cases hx
   | some y =>
    rw [ho] at hx; simp at hx; subst hx;exact ⟨a.eval y, by rw [List.getElem?_map, ho]; rfl, dT hs y⟩
  obtain ⟨b0, b1, b2⟩ := im hs hlen hrel ha
  have e1 : c.args.map a.eval = (c.args.toList.map a.eval).toArray := by apply Array.ext'; rw [Array.toList_map]
  rw [e1]
  rcases hF with hno | hF
  ·refine (hcon w (Mut X μ st.σ) μ _ hs.bel.now hs.mut_lt b0 (b2 hno)).mono fun e w' ⟨v, he, hb, hr⟩ => ⟨v, he, ?_⟩;rw [hd];exact iY hs hb hok hr (Or.inl fun _ h => h) Z9
  ·refine (hcon w (fun _ => False) μ _ hs.bel.now (fun _ h => h.elim) b0 b1).mono fun e w' ⟨v, he, hb, hr⟩ => ⟨v, he, ?_⟩;rw [hd];exact iY hs hb hok hr (Or.inr hF) Z9

theorem i7 {o : Oper} {K : St -> Prop} {s : Sem Value} {ob : OO} {f : Nat -> SV} {Q : Exit -> Act -> World -> Prop} (hs : Sim w0 X μ a w st) (h : opE P o K st (.new ob f))
  (hy : ∀ d, st.noRef d = true -> ∃ cs E u, s.run P w = .ok u (w.alloc (.cells cs E)) /\ RelO w (Mut X μ st.σ) μ cs ob /\ ob.noRef d = true /\
   RelV (w.alloc (.cells cs E)) (Mut X (upm μ d w.heap.size) (aQ st.σ d ob)) (upm μ d w.heap.size) u (f d)) :
  o.upon P a (gl w0 X K) Q ((do pure (Next.value (<- s)) : Sem Next).run P w) := by
 unfold opE at h
 cases hd : o.dst with
 | none => rw [hd] at h; exact h.elim
 | some d =>
  rw [hd] at h
  obtain ⟨cs, E, u, hrun, ho, hor, hv⟩ := hy d h.1
  refine iv hrun ?_;rw [hd];exact ⟨_, _, hs.alloc h.1 ho hor hv, h.2⟩

theorem vC {Y Y' : Nat -> Prop} {μ' : Nat -> Nat} {b : Nat} {cs : Array Value} {E : TypeId} {sz id : Nat} {es : List (List DC)} (hh : w.heap[b]? = some (Obj.cells cs E (0, 0))) (hrel : RelO w Y μ cs (.arr sz es)) (hb : ¬ Y b) (hμ : μ' id = b)
  {v : Value} (h : RelC w Y' μ' v (.own id sz 0 es.length)) : RdC w Y v (.sl es) := by
 obtain ⟨cap, cs', E', fr, rfl, hle, hh', hcap⟩ := h
 rw [hμ, hh] at hh'; cases hh'
 obtain ⟨_, hlen', hr⟩ := hrel
 rw [hμ];refine RdC.sl (sz := sz) (fun i j => cs.getD (i * sz + j) undef) hh hb rfl hle hlen' ?_ ?_
 ·intro i j d hd
  obtain ⟨x, h1, _⟩ := hr _ _ _ hd
  have e1 : 0 * sz + i * sz + j = i * sz + j := by omega
  rw [e1, h1]
  simp [Array.getD_eq_getD_getElem?, h1]
 ·intro i j d hd
  obtain ⟨x, h1, h2⟩ := hr _ _ _ hd
  have : cs.getD (i * sz + j) undef = x := by simp [Array.getD_eq_getD_getElem?, h1]
  rw [this]; exact h2
theorem jZ {sz : Nat} : ∀ (parts : List (Nat × SV)) (es es' : List (List DC)), kU sz es parts = some es' -> es'.length = es.length
 | [], es, es', h => by cases h; rfl
 | (i, x) :: rest, es, es', h => by
  cases x with
  | val v =>
   simp only [kU] at h
   split at h
   ·split at h
    ·have := jZ rest _ _ h
     simpa using this
    ·cases h
   ·cases h
  | _ => cases h
theorem j3 {t : TypeId} {len : Nat} {parts : List (Nat × SV)} {o : OO} {f : Nat -> SV} (h : aR T t len parts = .new o f) : ∃ sz es, o = .arr sz es /\ es.length = len /\ f = fun d => .val (.one (.own d sz 0 len)) := by
 unfold aR at h
 (repeat' split at h) <;> cases h
 rename_i hf
 have := jZ _ _ _ hf
 exact ⟨_, _, rfl, by simpa using this, rfl⟩

theorem uh {o : Oper} {c : Call} {t : Tmp} {p : Value} {f : FuncId} {fn : Func} {next : Act -> World -> Prop} {Q : Exit -> Act -> World -> Prop} (hc : c.callee = .value (.tmp t))
  (hv : a.eval (.tmp t) = .func (.func f) #[] #[p])
  (h1 : P.funcs[f]? = some fn) (h2 : (fn.name == "runtime.NumGoroutine") = false) (h3 : fn.body.isSome = true)
  (h : Calls P f (c.args.map a.eval ++ #[p]) w fun e w' => ∃ v, e = .returned v /\ next (a.put o.dst v) w') :
  o.upon P a next Q ((do let d <- resolve a.eval c o.type; invoke d.target d.args : Sem Next).run P w) := by
 have hb : fn.body.isNone = false := by cases hb : fn.body <;> simp_all
 have hrun : (do let d <- resolve a.eval c o.type; invoke d.target d.args : Sem Next).run P w = .ok (.enter f (c.args.map a.eval ++ #[p])) w := by
  simp only [resolve, hc, hv, Deferred.ofValue, Sem.run_bind, Sem.run_pure, Result.andThen_ok, invoke, callFunc, run_program, h1, h2, hb]
  simp
 rw [hrun, Oper.upon_enter];refine h.mono fun e w' ⟨v, he, hn⟩ => ?_
 subst he
 exact hn
theorem tM (hT : TOK P T) {o : Oper} {K : St -> Prop} {c : Call} {t : Tmp} {Q : Exit -> Act -> World -> Prop} (hs : Sim w0 X μ a w st) (hc : c.callee = .value (.tmp t))
  (h : opE P o K st (iN T st (st.get t) (c.args.toList.map (opd st)))) : o.upon P a (gl w0 X K) Q ((do let d <- resolve a.eval c o.type; invoke d.target d.args : Sem Next).run P w) := by
 generalize he : iN T st (st.get t) (c.args.toList.map (opd st)) = e at h
 unfold iN at he
 split at he
 ·rename_i f id hg
  split at he
  ·rename_i ys ds hys hds
   split at he
   ·rename_i v hv
    subst he
    obtain ⟨⟨⟨fn, h1, h2, h3⟩, hcon⟩, hflat, hno, hna⟩ := hT.clo _ _ _ hv
    have hval : a.eval (.tmp t) = .func (.func f) #[] #[.pointer (some ⟨μ id, 0, none⟩)] := by
     have := hs.slots t
     rw [hg] at this; exact this
    refine uh hc hval h1 h2 h3 ?_
    have hlen : (c.args.toList.map a.eval).length = (c.args.toList.map (opd st)).length := by simp
    have hrel : ∀ (i : Nat) (x : SV), (c.args.toList.map (opd st))[i]? = some x -> ∃ v, (c.args.toList.map a.eval)[i]? = some v /\ RelV w (Mut X μ st.σ) μ v x := by
     intro i x hx
     rw [List.getElem?_map] at hx
     cases ho : c.args.toList[i]? with
     | none => rw [ho] at hx; cases hx
     | some y =>
      rw [ho] at hx; simp at hx; subst hx;exact ⟨a.eval y, by rw [List.getElem?_map, ho]; rfl, dT hs y⟩
    obtain ⟨b0, b1, _⟩ := im hs hlen hrel hys
    have e1 : c.args.map a.eval ++ #[Value.pointer (some ⟨μ id, 0, none⟩)] = (c.args.toList.map a.eval ++ [Value.pointer (some ⟨μ id, 0, none⟩)]).toArray := by
     apply Array.ext'; simp
    rw [e1];refine (hcon w (fun _ => False) μ _ hs.bel.now (fun _ h => h.elim) (by simp [<- b0]) ?_).mono fun e w' ⟨u, he, hb, hr⟩ => ⟨u, he, ?_⟩
    ·intro i x hx
     by_cases hi : i < ys.length
     ·rw [List.getElem?_append_left hi] at hx
      obtain ⟨u, h4, h5⟩ := b1 i x hx
      exact ⟨u, by rw [List.getElem?_append_left (by omega)]; exact h4, h5⟩
     ·rw [List.getElem?_append_right (by omega)] at hx
      have hi0 : i - ys.length = 0 := by
       rcases Nat.eq_zero_or_pos (i - ys.length) with h' | h'
       ·exact h'
       ·rw [List.getElem?_eq_none (by simp; omega)] at hx; cases hx
      rw [hi0] at hx; simp at hx; subst hx;refine ⟨_, by rw [List.getElem?_append_right (by omega), b0, hi0]; rfl, ?_⟩
      obtain ⟨cells, E, hh, hc⟩ := oJ hs hds
      exact ⟨μ id, 0, cells, E, (0, 0), rfl, hh, fun h => h, hc⟩
    ·unfold opE at h
     have := hr
     obtain ⟨b, _, hv'⟩ := hr
     refine ⟨μ, _, (hs.below hb).put ?_, h⟩;exact dH (eL hv' hflat) hno hna
   ·subst he; exact h.elim
  ·subst he; exact h.elim
 ·subst he; exact h.elim

theorem pz (hT : TOK P T) {o : Oper} {K : St -> Prop} {c : Call} {Q : Exit -> Act -> World -> Prop} (hs : Sim w0 X μ a w st) (h : opE P o K st (aV T st c.callee (c.args.toList.map (opd st)) c.argTypes.toList)) :
  o.upon P a (gl w0 X K) Q ((do let d <- resolve a.eval c o.type; invoke d.target d.args : Sem Next).run P w) := by
 have ev := fun x => dT hs x
 have hb : ∀ (b : Builtin) (s : Sem Value), c.callee = .builtin b ->
   (∀ consts, builtin b c.argTypes o.type consts (c.args.map a.eval) = (do pure (Next.value (<- s)))) ->
   (do let d <- resolve a.eval c o.type; invoke d.target d.args : Sem Next).run P w = (do pure (Next.value (<- s)) : Sem Next).run P w := by
  intro b s hc hbi
  simp only [resolve, hc, Sem.run_bind, Sem.run_pure, Result.andThen_ok, invoke, hbi]
 have one : ∀ {x}, c.args.toList.map (opd st) = [x] -> ∃ y, c.args.map a.eval = #[a.eval y] /\ opd st y = x := by
  intro x hx
  match hl : c.args.toList, hx with
  | [y], hx => exact ⟨y, by apply Array.ext'; simp [hl], by simpa using hx⟩
  | [], hx => simp at hx
  | _ :: _ :: _, hx => simp at hx
 have two : ∀ {x y}, c.args.toList.map (opd st) = [x, y] -> ∃ u v, c.args.map a.eval = #[a.eval u, a.eval v] /\ opd st u = x /\ opd st v = y := by
  intro x y hx
  match hl : c.args.toList, hx with
  | [u, v], hx => exact ⟨u, v, by apply Array.ext'; simp [hl], by simp at hx; exact hx.1, by simp at hx; exact hx.2⟩
  | [], hx => simp at hx
  | [_], hx => simp at hx
  | _ :: _ :: _ :: _, hx => simp at hx
 unfold aV at h
 split at h
 ·rename_i x t hc ha ht
  obtain ⟨y, hargs, rfl⟩ := one ha
  rw [hb .len _ hc (fun _ => by simp only [builtin, hargs]; rfl)];exact bc (Q := Q) hs (da _ _ _) h (fun v hv => pu hT (by rw [<- Array.getElem?_toList, ht]; rfl) (ev y) hv)
 ·rename_i s x t t2 hc ha ht
  obtain ⟨ys, yx, hargs, rfl, rfl⟩ := two ha
  have htys : c.argTypes = #[t, t2] := by apply Array.ext'; simp [ht]
  rw [hb .append _ hc (fun _ => by simp only [builtin, hargs, htys]; rfl)];generalize he : aP T st t t2 (opd st ys) (opd st yx) = e at h
  cases e with
  | app id sz es =>
   unfold opE at h
   cases hd : o.dst with
   | none => rw [hd] at h; exact h.elim
   | some d =>
    rw [hd] at h
    obtain ⟨u, w', μ', hrun, hsim⟩ := ln (P := P) (tt := o.type) hT hs (ev ys) (ev yx) he h.1 (cg h.1 ys)
    refine iv hrun ?_;rw [hd];exact ⟨μ', _, hsim, h.2⟩
  | stuck => exact h.elim
  | _ => exfalso; unfold aP at he; (repeat' split at he) <;> cases he
 ·rename_i x y hc ha
  obtain ⟨yx, yy, hargs, rfl, rfl⟩ := two ha
  rw [hb .max _ hc (fun _ => by simp only [builtin, hargs]; rfl)];exact bc (Q := Q) hs (bD _ _ _) h (fun v hv => by have := kV (P := P) (tys := c.argTypes) (t := o.type) (ev yx) (ev yy) hv; simpa using this)
 ·rename_i x y hc ha
  obtain ⟨yx, yy, hargs, rfl, rfl⟩ := two ha
  rw [hb .min _ hc (fun _ => by simp only [builtin, hargs]; rfl)];exact bc (Q := Q) hs (bD _ _ _) h (fun v hv => by have := kV (P := P) (tys := c.argTypes) (t := o.type) (ev yx) (ev yy) hv; simpa using this)
 ·rename_i f hc
  exact rS hs hc h
 ·rename_i t hc
  exact tM hT hs hc h
 ·exact h.elim

theorem tp (hT : TOK P T) {o : Oper} {K : St -> Prop} {Q : Exit -> Act -> World -> Prop} (hs : Sim w0 X μ a w st) (h : opA P T o K st) : o.wp P a w (gl w0 X K) Q := by
 have ev := fun x => dT hs x
 have evL : ∀ (parts : Array (Nat × Operand)), (parts.map fun (i, x) => (i, a.eval x)).toList.length = (parts.toList.map fun p => (p.1, opd st p.2)).length /\
   ∀ (k : Nat) (p : Nat × SV), (parts.toList.map fun p => (p.1, opd st p.2))[k]? = some p -> ∃ u, (parts.map fun (i, x) => (i, a.eval x)).toList[k]? = some (p.1, u) /\ RelV w (Mut X μ st.σ) μ u p.2 := by
  intro parts
  refine ⟨by simp, fun k p hp => ?_⟩;rw [List.getElem?_map] at hp
  cases hk : parts.toList[k]? with
  | none => rw [hk] at hp; cases hp
  | some q =>
   rw [hk] at hp; simp at hp; subst hp;rw [Array.getElem?_toList] at hk;exact ⟨a.eval q.2, by simp [hk], ev _⟩
 unfold opA at h
 unfold Oper.wp
 cases hop : o.op <;> simp only [eff, hop] at h <;> simp only [execOp, hop]
 case move x => exact iv (s := pure (a.eval x)) rfl ⟨μ, _, hs.put (ev x), h⟩
 case assign x => exact iv (s := pure (a.eval x)) rfl ⟨μ, _, hs.put (ev x), h⟩
 case pick c x y => 
  have := bc (Q := Q) hs (ig _ _ _) h (fun v hv => nC (ev c) (ev x) (ev y) hv)
  simpa using this
 case box e x =>
  split at h
  ·rename_i v hv
   refine i7 hs h fun d hd => ?_
   have hx := ev x
   have hn := cg hd x
   rw [hv] at hx hn;refine ⟨(a.eval x).cells, e, .pointer (some ⟨w.heap.size, 0, none⟩), ?_, ?_, nE hn, ?_⟩
   ·simp only [Instr.box, newVar, newRow, Sem.run_bind, run_newObj, Result.andThen_ok, Sem.run_pure]; rfl
   ·have hc := dV (show RelVV w _ μ (a.eval x) v from hx)
    refine ⟨by have := hc.1; rw [Array.length_toList] at this; omega, fun i c hi => ?_⟩
    obtain ⟨u, h1, h2⟩ := hc.2 i c hi
    exact ⟨u, by simpa using h1, h2⟩
   ·show _ = _; simp [upm]
  ·exact h.elim
 case alloc e =>
  split at h
  ·rename_i ti hti
   refine i7 hs h fun d hd => ?_
   have ht := hT.ty _ _ hti
   refine ⟨(mkV ti.agg (ti.zero.map eN)).cells, e, .pointer (some ⟨w.heap.size, 0, none⟩), ?_, ?_, ?_, ?_⟩
   ·simp only [Instr.alloc, Sem.run_bind, ht.run_zero, Result.andThen_ok, newVar, newRow, run_newObj, Sem.run_pure]; rfl
   ·have hz := iU (w := w) (X := Mut X μ st.σ) (μ := μ) ht
    have hc := gK ht
    refine ⟨by have := congrArg List.length hc; simp at this; omega, fun i c hi => ?_⟩
    obtain ⟨u, h1, h2⟩ := hz.2 i c hi
    rw [<- hc, Array.getElem?_toList] at h1;exact ⟨u, h1, h2⟩
   ·show ti.zero.all _ = true
    rw [List.all_eq_true]
    intro c hc
    have := List.all_eq_true.1 ht.zok c hc
    cases c with
    | own => simp at this
    | _ => rfl
   ·show _ = _; simp [upm]
  ·exact h.elim
 case build t parts => exact bc (Q := Q) hs (gA _ _ _) h (fun v hv => mY hT (evL parts).1 (evL parts).2 hv)
 case buildSlice t len parts =>
  by_cases hdat : T.dat t = true
  ·rw [if_pos hdat] at h
   unfold bM at h
   generalize he : aR T t len (parts.toList.map fun p => (p.1, opd st p.2)) = e at h
   cases e with
   | new ob f =>
    obtain ⟨sz, es, rfl, rfl, rfl⟩ := j3 he
    obtain ⟨cs, E, u, h1, h2, _, _, h4⟩ := eB (w := w) (X := Mut X μ st.σ) (μ := μ) hT (evL parts).1 (evL parts).2 he
    have hf := oO (Mut X μ st.σ) w (.cells cs E)
    refine iv h1 ?_;refine ⟨μ, _, (hs.below ((Below.refl _ _).alloc (Nat.le_refl _) _)).put (v := .val (.one (.d (.sl es)))) ?_, h⟩;exact vC (id := 0) (Y' := Mut X μ st.σ) (dP w _) (h2.mono (fun _ _ h => h) hf) (fun hm => by have := hs.mut_lt _ hm; omega) (by simp [upm]) (h4 0 (Mut X μ st.σ))
   | _ => exact h.elim
  rw [if_neg hdat] at h;generalize he : aR T t len (parts.toList.map fun p => (p.1, opd st p.2)) = e at h
  cases e with
  | new ob f =>
   refine i7 hs h fun d hd => ?_
   obtain ⟨cs, E, u, h1, h2, _, h3, h4⟩ := eB (w := w) (X := Mut X μ st.σ) (μ := μ) hT (evL parts).1 (evL parts).2 he
   exact ⟨cs, E, u, h1, h2, h3 d, h4 d _⟩
  | stuck => exact h.elim
  | _ => exfalso; unfold aR at he; (repeat' split at he) <;> cases he
 case load t x => exact bc (Q := Q) hs (ij _ _ _ _) h (fun v hv => jj hT hs (ev x) hv)
 case store t x y =>
  generalize he : bu T st t (opd st x) (opd st y) = e at h
  cases e with
  | upd σ' rb' =>
   obtain ⟨w', h1, h2⟩ := mV (P := P) hT hs (ev x) (ev y) he
   simp only [Sem.run_bind, h1, Result.andThen_ok, Sem.run_pure, Oper.upon_skip];exact ⟨μ, _, h2.put (v := .none) trivial, h⟩
  | stuck => exact h.elim
  | _ => exfalso; unfold bu at he; (repeat' split at he) <;> cases he
 case nilCheck x =>
  split at h
  ·rename_i hp
   have hx := ev x
   generalize hv : a.eval x = v at hx
   have hptr : ∃ ad, v = .pointer (some ad) := by
    cases hs' : opd st x <;> rw [hs'] at hp hx <;> simp [vK] at hp
    ·exact ⟨_, hx⟩
    ·exact ⟨_, hx⟩
    ·obtain ⟨_, _, _, _, _, hx, _⟩ := hx; exact ⟨_, hx⟩
   obtain ⟨ad, rfl⟩ := hptr
   exact ⟨μ, _, hs.put hx, h⟩
  ·exact h.elim
 case binOp op t x y ty => exact bc (Q := Q) hs (iO _ _ _ _ _) h (fun v hv => pw hT (ev x) (ev y) hv)
 case unOp op t x => exact bc (Q := Q) hs (jw _ _) h (fun v hv => qE (ev x) hv)
 case convert src dst x => exact bc (Q := Q) hs (ik _ _ _ _) h (fun v hv => nD hT (ev x) hv)
 case makeSlice t l c =>
  generalize he : aY T t (opd st l) (opd st c) = e at h
  cases e with
  | new ob f =>
   refine i7 hs h fun d hd => ?_
   obtain ⟨cs, E, u, h1, h2, _, h3, h4⟩ := jx (w := w) (X := Mut X μ st.σ) (μ := μ) hT (ev l) (ev c) he
   exact ⟨cs, E, u, h1, h2, h3 d, h4 d _⟩
  | stuck => exact h.elim
  | _ => exfalso; unfold aY at he; (repeat' split at he) <;> cases he
 case slice t x lo hi mx =>
  cases mx with
  | some m => exact h.elim
  | none =>
   refine bc (Q := Q) hs (gx _ _ _ _ _ _) h (fun v hv => ?_)
   unfold dw at hv
   split at hv
   ·rename_i l hh hl hh'
    refine lm hT (ev x) (l := l) (h := hh) ?_ ?_ hv
    ·cases lo with
     | none => simp [loI] at hl; exact Or.inl ⟨rfl, hl.symm⟩
     | some o' =>
      simp only [loI] at hl
      cases hi' : bX (opd st o') with
      | none => rw [hi'] at hl; cases hl
      | some p =>
       rw [hi'] at hl; simp at hl; subst hl
       obtain ⟨k, n⟩ := p
       exact Or.inr ⟨k, by simp [eI (ev o') hi']⟩
    ·cases hi with
     | none =>
      simp only [hiI] at hh'
      cases hn : eh (opd st x) with
      | none => rw [hn] at hh'; cases hh'
      | some n => rw [hn] at hh'; simp at hh'; exact Or.inl ⟨rfl, n, rfl, hh'.symm⟩
     | some o' =>
      simp only [hiI] at hh'
      cases hi' : bX (opd st o') with
      | none => rw [hi'] at hh'; cases hh'
      | some p =>
       rw [hi'] at hh'; simp at hh'; subst hh'
       obtain ⟨k, n⟩ := p
       exact Or.inr ⟨k, by simp [eI (ev o') hi']⟩
   ·cases hv
 case fieldAddr s x f => exact bc (Q := Q) hs (dC _ _ _ _) h (fun v hv => jz hT (ev x) hv)
 case field s x f => exact bc (Q := Q) hs (gz _ _ _ _) h (fun v hv => mX hT (ev x) hv)
 case indexAddr t x i => exact bc (Q := Q) hs (dz _ _ _ _) h (fun v hv => jy hT (ev x) (ev i) hv)
 case index t x i => exact bc (Q := Q) hs (gy _ _ _ _) h (fun v hv => mW hT (ev x) (ev i) hv)
 case makeFunc fn first captured =>
  cases fn with
  | func f =>
   simp only at h
   split at h
   ·rename_i hfirst
    have hf : first = #[] := by simpa using hfirst
    subst hf
    refine bc (Q := Q) hs (dN _ _) h (fun v hv => ?_)
    have e1 : (#[] : Array Operand).map a.eval = #[] := by simp
    have e2 : captured.map a.eval = (captured.toList.map a.eval).toArray := by apply Array.ext'; rw [Array.toList_map]
    rw [e1, e2];refine j2 (by simp) (fun i x hx => ?_) hv;rw [List.getElem?_map] at hx
    cases ho : captured.toList[i]? with
    | none => rw [ho] at hx; cases hx
    | some y =>
     rw [ho] at hx; simp at hx; subst hx;exact ⟨a.eval y, by rw [List.getElem?_map, ho]; rfl, ev y⟩
   ·exact h.elim
  | _ => exact h.elim
 case extract x i => exact bc (Q := Q) hs (eu _ _) h (fun v hv => kr (ev x) hv)
 case call c => exact pz hT hs h
 all_goals exact h.elim

end
end Go.Proofs.YtnoildlijhapaaaGreatDoor

/- Regions: the operations one after the other, and in whatever order the edges allow. No condition. -/
namespace Go.Proofs.YtnoildlijhapaaaGreatDoor
open Go.RowKit

def AI : SV -> Bool
 | .tup [] => true
 | _ => false
def bP (ops : List Oper) (st : St) (o : Oper) : Option Bool :=
 match o.guard with
 | none => some true
 | some (j, want) => match (ops[j]?).bind (·.dst) with
  | some t => match b6 (st.get t) with
   | some (.bool b) => some (b == want)
   | _ => if AI (st.get t) then some false else none
  | none => none

structure Ann where
 c : List Nat := []
 d : List Nat := []

def kF (id : Nat) : SV -> Bool
 | .ptr id' _ => id' != id
 | .pe id' _ _ _ => id' != id
 | .pd _ => true
 | _ => false
def ck (st : St) (o : Oper) : Option Nat :=
 match o.op with
 | .store _ x _ => match opd st x with
  | .ptr id _ => some id
  | .pe id _ _ _ => some id
  | _ => none
 | _ => none
def py (st : St) (o : Oper) (d : List Nat) : Bool :=
 match d with
 | [] => true
 | _ => match ck st o with
  | some id => d.all (fun s => kF id (st.get s))
  | none => false

def rX : Option Nat -> SV -> Bool
 | some i, v => kF i v
 | none, .ptr _ _ => true
 | none, .pe _ _ _ _ => true
 | none, .pd _ => true
 | none, _ => false
def qP (st : St) (id : Option Nat) (d : List Nat) : Bool := d.all fun s => rX id (st.get s)

def dq (P : Program) (o : Oper) (an : Ann) (K : St -> Prop) (st : St) : Eff -> Prop
 | .set v => an.c.all (fun d => v.noRef d) = true /\ K (st.put o.dst v)
 | .new ob v => match o.dst with
  | some d => (an.c = [] \/ ob.noOwn = true) /\ an.c.all (fun d => ob.noRef d) = true /\ st.noRef d = true /\ K (st.new d ob (v d))
  | none => False
 | .upd σ rb => py st o an.d = true /\ K (St.put ⟨st.ρ, σ, rb⟩ o.dst .none)
 | .app id sz es => match o.dst with
  | some d => qP st id an.d = true /\ st.noRef d = true /\ K (st.app d id (.arr sz es) (.val (.one (.own d sz 0 es.length))))
  | none => False
 | .call f args => match o.dst with
  | some d => ∃ args' r, bR st args = some args' /\ Con P f args' r /\ (args.all SV.noOwn = true \/ wX r) /\ r.ok = true /\ jq K st d r
  | none => False
 | .stuck => False

def gop (P : Program) (T : Tab) (ops : List Oper) (o : Oper) (an : Ann) (K : St -> Prop) (st : St) : Prop :=
 match bP ops st o with
 | some true => dq P o an K st (eff T st o)
 | some false => K (st.put o.dst (.tup []))
 | none => False

def ax (P : Program) (T : Tab) (ops : List Oper) : List (Oper × Ann) -> (St -> Prop) -> St -> Prop
 | [], K, st => K st
 | x :: rest, K, st => gop P T ops x.1 x.2 (ax P T ops rest K) st

section
variable {P : Program} {T : Tab} {w w' : World} {w0 : Base} {X : Nat -> Prop} {μ : Nat -> Nat} {a : Act} {st : St}

theorem tm {o : Oper} {an : Ann} {K : St -> Prop} {e : Eff} (h : dq P o an K st e) : opE P o K st e := by
 cases e with
 | set v => exact h.2
 | new ob v => unfold dq at h; unfold opE; cases hd : o.dst <;> rw [hd] at h <;> first | exact h | exact h.2.2
 | upd σ rb => exact h.2
 | app => unfold dq at h; unfold opE; cases hd : o.dst <;> rw [hd] at h <;> first | exact h | exact h.2
 | call => exact h
 | stuck => exact h

theorem jm {ops : Array Oper} (hs : Sim w0 X μ a w st) {o : Oper} {b : Bool} (h : bP ops.toList st o = some b) : Region.wanted o (yielded ops a.tmps) = b := by
 unfold bP at h
 unfold Region.wanted
 split at h
 ·rename_i hg; cases h; rw [hg]
 ·rename_i j want hg
  rw [hg]
  split at h
  ·rename_i t ht
   split at h
   ·rename_i b' hb
    cases h
    have hv := ib (hs.slots t) hb
    rw [Array.getElem?_toList] at ht
    have : yielded ops a.tmps j = some b' := by
     unfold yielded
     rw [ht];simp only [Option.bind_some];rw [Array.getD_eq_getD_getElem?] at hv
     cases hg : a.tmps[t]? with
     | none => rw [hg] at hv; simp [undef] at hv
     | some u => rw [hg] at hv; simp at hv; subst hv; rfl
    simp only [this]
    cases b' <;> cases want <;> rfl
   ·split at h
    ·rename_i hu
     cases h
     have hv := hs.slots t
     have e : st.get t = .tup [] := by
      cases hg2 : st.get t with
      | tup l => cases l with
       | nil => rfl
       | cons => rw [hg2] at hu; cases hu
      | _ => rw [hg2] at hu; cases hu
     rw [e] at hv
     obtain ⟨vs, h2, h3, _⟩ := hv
     have h4 : vs = [] := List.length_eq_zero_iff.1 h3
     subst h4
     rw [Array.getElem?_toList] at ht
     have : yielded ops a.tmps j = none := by
      unfold yielded
      rw [ht];simp only [Option.bind_some];rw [Array.getD_eq_getD_getElem?] at h2
      cases hg : a.tmps[t]? with
      | none => rfl
      | some u => rw [hg] at h2; simp at h2; subst h2; rfl
     simp only [this]
     rfl
    ·cases h
  ·cases h

theorem jc (hT : TOK P T) {ops : Array Oper} {i : Nat} {o : Oper} {an : Ann} {K : St -> Prop} {Q : Exit -> Act -> World -> Prop} (hi : ops[i]? = some o) (hs : Sim w0 X μ a w st)
  (h : gop P T ops.toList o an K st) : wpOp P ops Q i (gl w0 X K) a w := by
 unfold gop at h
 unfold wpOp
 simp only [hi]
 split at h
 ·rename_i hw
  rw [if_pos (jm hs hw)];exact Or.inl (tp hT hs (tm h))
 ·rename_i hw
  rw [if_neg (by rw [jm hs hw]; simp)];exact ⟨μ, _, hs.put (v := .tup []) ⟨[], rfl, rfl, fun i x hx => by simp at hx⟩, h⟩
 ·exact h.elim

theorem mE (hT : TOK P T) {ops : Array Oper} {Q : Exit -> Act -> World -> Prop} {K : St -> Prop} (hQ : ∀ a w, gl w0 X K a w -> Q .normal a w) :
  ∀ (l : List Nat) (xs : List (Oper × Ann)) (st : St) (μ : Nat -> Nat) (a : Act) (w : World), (∀ k : Nat, (l[k]?).bind (fun i : Nat => ops[i]?) = (xs[k]?).map (fun x => x.1)) -> l.length = xs.length -> Sim w0 X μ a w st ->
   ax P T ops.toList xs K st -> wpOps P ops Q l a w
 | [], xs, st, μ, a, w, _, hl, hs, h => by
  have : xs = [] := by cases xs <;> simp_all
  subst this
  exact hQ _ _ ⟨μ, st, hs, h⟩
 | i :: l, xs, st, μ, a, w, hx, hl, hs, h => by
  match xs, hl with
  | x :: xs, hl =>
   rw [wpOps_cons]
   have h0 := hx 0
   simp at h0
   refine wpOp_mono (fun a' w' ⟨μ', st', hs', h'⟩ => ?_) (jc hT h0 hs h);exact mE hT hQ l xs st' μ' a' w' (fun k => by simpa using hx (k + 1)) (by simpa using hl) hs' h'

theorem nx (hT : TOK P T) {id : Nat} {ops : List Oper} {Q : Exit -> St -> Prop} (h : ax P T ops (ops.map (·, {})) (Q .normal) st) : AWP P w0 X (Code.region id ops.toArray false) Q st := by
 intro μ a w hs
 refine wp_region (mE (w0 := w0) (X := X) hT (K := Q .normal) (fun a w ⟨μ', st', hs', h'⟩ => ⟨μ', st', hs', h'⟩) _ (ops.map (·, {})) st μ a w ?_ (by simp) hs (by simpa using h))
 intro k
 by_cases hk : k < ops.length
 ·simp [hk]
 ·simp [hk]

end
end Go.Proofs.YtnoildlijhapaaaGreatDoor

/- Two operations that are not tied to one another may change places. No condition. -/
namespace Go.Proofs.YtnoildlijhapaaaGreatDoor
open Go.RowKit

def Al : Operand -> Option Tmp
 | .tmp t => some t
 | _ => none
def looks (ops : List Oper) (o : Oper) : List Tmp :=
 (o.op.operands.toList.filterMap Al) ++ (match o.guard with
  | some (g, _) => match (ops[g]?).bind (·.dst) with
   | some t => [t]
   | none => []
  | none => [])
def a6 (o : Oper) : Bool :=
 match o.op with
 | .assign _ => true
 | _ => false
def aB (o : Oper) : Nat :=
 match o.op with
 | .load _ _ => 1
 | .store _ _ _ => 4
 | .box _ _ | .alloc _ | .buildSlice _ _ _ | .makeSlice _ _ _ => 3
 | .call c => match c.callee with
  | .builtin .append => 4
  | .builtin _ => 0
  | .value (.tmp _) => 5
  | _ => 2
 | _ => 0

section
variable {P : Program} {T : Tab} {st st' : St}

theorem tJ {o : Oper} (h : ∀ x ∈ o.op.operands, opd st x = opd st' x) (hσ : st.σ = st'.σ) (hr : st.rb = st'.rb) : eff T st o = eff T st' o := by
 unfold eff
 cases hop : o.op <;> simp only [hop, Op.operands] at h ⊢
 case move x => rw [h x (by simp)]
 case assign x => rw [h x (by simp)]
 case pick c x y => rw [h c (by simp), h x (by simp), h y (by simp)]
 case box e x => rw [h x (by simp)]
 case build t parts =>
  have : (parts.toList.map fun p => (p.1, opd st p.2)) = (parts.toList.map fun p => (p.1, opd st' p.2)) := by
   apply List.map_congr_left
   intro p hp
   rw [h p.2 (by simp only [List.mem_toArray, List.mem_map]; exact ⟨p, hp, rfl⟩)]
  rw [this]
 case buildSlice t len parts =>
  have : (parts.toList.map fun p => (p.1, opd st p.2)) = (parts.toList.map fun p => (p.1, opd st' p.2)) := by
   apply List.map_congr_left
   intro p hp
   rw [h p.2 (by simp only [List.mem_toArray, List.mem_map]; exact ⟨p, hp, rfl⟩)]
  rw [this]
 case load t x => rw [h x (by simp)]; unfold bp; rw [hσ]
 case store t x y => rw [h x (by simp), h y (by simp)]; unfold bu; rw [hσ, hr]
 case nilCheck x => rw [h x (by simp)]
 case binOp op t x y ty => rw [h x (by simp), h y (by simp)]
 case unOp op t x => rw [h x (by simp)]
 case convert s d x => rw [h x (by simp)]
 case makeSlice t l c => rw [h l (by simp), h c (by simp)]
 case slice t x lo hi mx =>
  cases mx with
  | some m => rfl
  | none =>
   show dw T st t (opd st x) lo hi = dw T st' t (opd st' x) lo hi
   rw [h x (by simp)]
   unfold dw loI hiI
   cases lo with
   | none => cases hi with
    | none => rfl
    | some y => simp only [h y (by simp)]
   | some z => cases hi with
    | none => simp only [h z (by simp)]
    | some y => simp only [h y (by simp), h z (by simp)]
 case fieldAddr s x f => rw [h x (by simp)]
 case field s x f => rw [h x (by simp)]
 case indexAddr t x i => rw [h x (by simp), h i (by simp)]
 case extract x i => rw [h x (by simp)]
 case call c =>
  have : c.args.toList.map (opd st) = c.args.toList.map (opd st') := by
   apply List.map_congr_left
   intro x hx
   exact h x (by unfold Call.operands; rw [Array.mem_append]; exact Or.inr (by simpa using hx))
  rw [this]
  have hd : ∀ cs, bw st cs = bw st' cs := by
   intro cs
   induction cs with
   | nil => rfl
   | cons x xs ih => simp only [bw, ih]; cases x <;> simp only [cG, hσ]
  have ha : ∀ xs, bR st xs = bR st' xs := by
   intro xs
   induction xs with
   | nil => rfl
   | cons x xs ih =>
    have : eE st x = eE st' x := by
     cases x with
     | val v => cases v with
      | one c => cases c <;> simp only [eE, cG, hσ]
      | agg cs => simp only [eE, hd]
     | _ => rfl
    simp only [bR, this, ih]
  cases hc : c.callee with
  | builtin b =>
   generalize List.map (opd st') c.args.toList = xs;generalize c.argTypes.toList = ts
   cases b <;> rcases xs with _ | ⟨x, _ | ⟨y, _ | ⟨z, zs⟩⟩⟩ <;> rcases ts with _ | ⟨t, _ | ⟨t2, _ | ⟨t3, ts⟩⟩⟩ <;> first
    | rfl
    | (show aP T st t t2 x y = aP T st' t t2 x y; unfold aP dt; rw [hσ])
  | invoke r m => rfl
  | value f =>
   cases f with
   | tmp t =>
    have ht : st.get t = st'.get t := h (.tmp t) (by unfold Call.operands; rw [hc]; simp)
    simp only [aV, iN, ht, ha]
    unfold j6
    simp only [hσ, hd]
   | _ => rfl
 case index t x i => rw [h x (by simp), h i (by simp)]
 case makeFunc fn first captured =>
  cases fn with
  | func f =>
   have : captured.toList.map (opd st) = captured.toList.map (opd st') := by
    apply List.map_congr_left
    intro x hx
    exact h x (by rw [Array.mem_append]; exact Or.inr (by simpa using hx))
   show (if first.isEmpty = true then b8 f (List.map (opd st) captured.toList) else Eff.stuck) = if first.isEmpty = true then b8 f (List.map (opd st') captured.toList) else Eff.stuck
   rw [this]
  | _ => rfl

theorem jT (ρ : List SV) (σ σ' : ca) (rb rb' : List Nat) (x : Operand) : opd ⟨ρ, σ, rb⟩ x = opd ⟨ρ, σ', rb'⟩ x := by cases x <;> rfl

theorem j1 {o : Oper} {ρ : List SV} {σ σ' : ca} {rb rb' : List Nat} (hk : aB o = 0 \/ aB o = 2 \/ aB o = 3) : eff T ⟨ρ, σ, rb⟩ o = eff T ⟨ρ, σ', rb'⟩ o := by
 have ho : opd (⟨ρ, σ, rb⟩ : St) = opd ⟨ρ, σ', rb'⟩ := funext (jT ρ σ σ' rb rb')
 unfold eff
 unfold aB at hk
 cases hop : o.op <;> simp only [hop] at hk ⊢ <;> try rw [ho]
 case load => simp at hk
 case store => simp at hk
 case slice t x lo hi mx =>
  cases mx with
  | some m => rfl
  | none =>
   unfold dw; rw [ho]
 case call c =>
  cases hc : c.callee with
  | builtin b =>
   rw [hc] at hk;generalize List.map (opd (⟨ρ, σ', rb'⟩ : St)) c.args.toList = xs;generalize c.argTypes.toList = ts
   cases b <;> first
    | (simp at hk; done)
    | (rcases xs with _ | ⟨x, _ | ⟨y, _ | ⟨z, zs⟩⟩⟩ <;> rcases ts with _ | ⟨t, _ | ⟨t2, ts⟩⟩ <;> rfl)
  | value f => cases f with
   | tmp t => rw [hc] at hk; simp at hk
   | _ => rfl
  | invoke r m => rfl
 case makeFunc fn first captured =>
  cases fn <;> first | rfl | rw [ho]

theorem ie {o : Oper} {ρ : List SV} {σ : ca} {rb rb' : List Nat} {d : Nat} {ob : OO} (hk : aB o = 1) (hn : ∀ x, (opd ⟨ρ, σ, rb⟩ x).noRef d = true) :
  eff T ⟨ρ, aQ σ d ob, rb'⟩ o = eff T ⟨ρ, σ, rb⟩ o := by
 unfold aB at hk
 cases hop : o.op <;> simp only [hop] at hk <;> try (simp at hk; done)
 case load t x =>
  unfold eff
  simp only [hop];rw [jT ρ (aQ σ d ob) σ rb' rb x]
  have := hn x
  unfold bp
  cases hT : T t with
  | none => rfl
  | some ti =>
   cases hx : opd ⟨ρ, σ, rb⟩ x <;> rw [hx] at this <;> try rfl
   ·rename_i id off
    have hne : id ≠ d := by simpa [SV.noRef] using this
    simp only [aQ, if_neg hne]
   ·rename_i id sz i j
    have hne : id ≠ d := by simpa [SV.noRef] using this
    simp only [aQ, if_neg hne]
 case call c =>
  cases hc : c.callee with
  | builtin b => rw [hc] at hk; cases b <;> simp at hk
  | value f => rw [hc] at hk; cases f <;> simp at hk
  | invoke r m => rw [hc] at hk; simp at hk

theorem nm {ρ ρ' : List SV} {σ : ca} {rb rb' : List Nat} {d : Nat} {ob : OO} : ∀ {xs : List SV}, (∀ x ∈ xs, x.noRef d = true) -> bR ⟨ρ', aQ σ d ob, rb'⟩ xs = bR ⟨ρ, σ, rb⟩ xs := by
 have hc : ∀ c : SC, c.noRef d = true -> cG ⟨ρ', aQ σ d ob, rb'⟩ c = cG ⟨ρ, σ, rb⟩ c := by
  intro c h
  cases c with
  | own id sz off len =>
   have hne : id ≠ d := by simpa [SC.noRef] using h
   simp only [cG, aQ, if_neg hne]
  | _ => rfl
 have hcs : ∀ cs : List SC, cs.all (SC.noRef d) = true -> bw ⟨ρ', aQ σ d ob, rb'⟩ cs = bw ⟨ρ, σ, rb⟩ cs := by
  intro cs
  induction cs with
  | nil => intro _; rfl
  | cons c cs ih =>
   intro h
   simp only [List.all_cons, Bool.and_eq_true] at h;simp only [bw, hc c h.1, ih h.2]
 have hx : ∀ x : SV, x.noRef d = true -> eE ⟨ρ', aQ σ d ob, rb'⟩ x = eE ⟨ρ, σ, rb⟩ x := by
  intro x h
  cases x with
  | val v => cases v with
   | one c => simp only [eE, hc c h]
   | agg cs => simp only [eE, hcs cs h]
  | _ => rfl
 intro xs
 induction xs with
 | nil => intro _; rfl
 | cons x xs ih =>
  intro h
  simp only [bR, hx x (h x (by simp)), ih (fun y hy => h y (by simp [hy]))]

theorem gV {ρ ρ' : List SV} {σ : ca} {rb rb' : List Nat} (xs : List SV) : bR ⟨ρ', σ, rb'⟩ xs = bR ⟨ρ, σ, rb⟩ xs := by
 have hcs : ∀ cs : List SC, bw ⟨ρ', σ, rb'⟩ cs = bw ⟨ρ, σ, rb⟩ cs := by
  intro cs
  induction cs with
  | nil => rfl
  | cons c cs ih => simp only [bw, ih]; cases c <;> rfl
 have hx : ∀ x : SV, eE ⟨ρ', σ, rb'⟩ x = eE ⟨ρ, σ, rb⟩ x := by
  intro x
  cases x with
  | val v => cases v with
   | one c => cases c <;> rfl
   | agg cs => simp only [eE, hcs cs]
  | _ => rfl
 induction xs with
 | nil => rfl
 | cons x xs ih => simp only [bR, hx, ih]

end
end Go.Proofs.YtnoildlijhapaaaGreatDoor
