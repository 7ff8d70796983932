/- Part of a proof that a Go function answers true for every input. No condition. -/
import Derived.Below
import Derived.Orders
import Derived.KernelRfl
import Derived.IntWalk
set_option linter.unusedVariables false
set_option linter.unusedSimpArgs false
set_option linter.unusedSectionVars false
/- Words of 32 bits and the numbers that they stand for. No condition. -/
namespace Go.Proofs.YtipenembpidoiaaGreatDoor

/-- The value of words, the lowest first. -/
def wv : List Nat → Nat
  | [] => 0
  | x :: xs => x + 4294967296 * wv xs
def wOK (ws : List Nat) : Prop := ∀ x ∈ ws, x < 4294967296
/-- k words of a number. -/
def wfix : Nat → Nat → List Nat
  | 0, _ => []
  | k + 1, n => n % 4294967296 :: wfix k (n / 4294967296)
def trimW (ws : List Nat) : List Nat := (ws.reverse.dropWhile (· == 0)).reverse
theorem trimW_snoc0 (ws : List Nat) : trimW (ws ++ [0]) = trimW ws := by simp [trimW]
theorem trimW_snoc (ws : List Nat) {x : Nat} (h : x ≠ 0) : trimW (ws ++ [x]) = ws ++ [x] := by simp [trimW, h]
theorem trimW_nil : trimW [] = [] := rfl

theorem wOK.cons {x : Nat} {xs : List Nat} (h : wOK (x :: xs)) : x < 4294967296 ∧ wOK xs := ⟨h x (by simp), fun y hy => h y (by simp [hy])⟩
theorem wOK.append {a b : List Nat} (h : wOK a) (k : wOK b) : wOK (a ++ b) := fun x hx => by
  rcases List.mem_append.1 hx with h1 | h1
  · exact h x h1
  · exact k x h1
theorem wOK.left {a b : List Nat} (h : wOK (a ++ b)) : wOK a := fun x hx => h x (by simp [hx])
theorem wOK.one {x : Nat} (h : x < 4294967296) : wOK [x] := fun y hy => by simp at hy; omega
theorem wOK.nil : wOK [] := fun y hy => by simp at hy
theorem wOK.take {a : List Nat} (h : wOK a) (k : Nat) : wOK (a.take k) := fun x hx => h x (List.mem_of_mem_take hx)
theorem wOK.drop {a : List Nat} (h : wOK a) (k : Nat) : wOK (a.drop k) := fun x hx => h x (List.mem_of_mem_drop hx)
theorem wOK.set {a : List Nat} (h : wOK a) (k : Nat) {y : Nat} (hy : y < 4294967296) : wOK (a.set k y) := fun x hx => by
  rcases List.mem_or_eq_of_mem_set hx with h1 | h1
  · exact h x h1
  · omega
theorem wOK.get {a : List Nat} (h : wOK a) {k : Nat} (hk : k < a.length) : a[k] < 4294967296 := h _ (List.getElem_mem hk)
theorem wOK.rep0 (k : Nat) : wOK (List.replicate k 0) := fun x hx => by rw [(List.mem_replicate.1 hx).2]; decide

theorem wv_append (a b : List Nat) : wv (a ++ b) = wv a + 4294967296 ^ a.length * wv b := by
  induction a with
  | nil => simp [wv]
  | cons x xs ih => simp only [List.cons_append, wv, ih, List.length_cons, Nat.pow_succ]; grind
theorem wv_rep0 (k : Nat) : wv (List.replicate k 0) = 0 := by
  induction k with
  | zero => rfl
  | succ k ih => simp [List.replicate_succ, wv, ih]
theorem pow_pos (k : Nat) : 0 < 4294967296 ^ k := Nat.pow_pos (by decide)
theorem wv_lt {a : List Nat} (h : wOK a) : wv a < 4294967296 ^ a.length := by
  induction a with
  | nil => simp [wv]
  | cons x xs ih =>
    obtain ⟨h1, h2⟩ := h.cons
    have := ih h2
    simp only [wv, List.length_cons, Nat.pow_succ]
    have h3 : 4294967296 * wv xs + 4294967296 ≤ 4294967296 * 4294967296 ^ xs.length := by
      rw [← Nat.mul_succ]; exact Nat.mul_le_mul_left _ this
    rw [Nat.mul_comm (4294967296 ^ xs.length)]
    omega
theorem wfix_length (k n : Nat) : (wfix k n).length = k := by
  induction k generalizing n with
  | zero => rfl
  | succ k ih => simp [wfix, ih]
theorem wfix_ok (k n : Nat) : wOK (wfix k n) := by
  induction k generalizing n with
  | zero => exact wOK.nil
  | succ k ih =>
    intro x hx
    simp only [wfix, List.mem_cons] at hx
    rcases hx with rfl | hx
    · exact Nat.mod_lt _ (by decide)
    · exact ih _ x hx
theorem wv_wfix (k n : Nat) : wv (wfix k n) = n % 4294967296 ^ k := by
  induction k generalizing n with
  | zero => simp [wfix, wv, Nat.mod_one]
  | succ k ih =>
    simp only [wfix, wv, ih, Nat.pow_succ]
    rw [Nat.mul_comm (4294967296 ^ k) 4294967296, Nat.mod_mul]
theorem wfix_of {a : List Nat} (h : wOK a) : wfix a.length (wv a) = a := by
  induction a with
  | nil => rfl
  | cons x xs ih =>
    obtain ⟨h1, h2⟩ := h.cons
    simp only [List.length_cons, wfix, wv]
    have e1 : (x + 4294967296 * wv xs) % 4294967296 = x := by rw [Nat.add_mul_mod_self_left, Nat.mod_eq_of_lt h1]
    have e2 : (x + 4294967296 * wv xs) / 4294967296 = wv xs := by rw [Nat.add_mul_div_left _ _ (by decide), Nat.div_eq_of_lt h1, Nat.zero_add]
    rw [e1, e2, ih h2]
/-- Words are told by their number and their value. -/
theorem wfix_uniq {a : List Nat} {k n : Nat} (h : wOK a) (hl : a.length = k) (hv : wv a = n) : a = wfix k n := by subst hl hv; exact (wfix_of h).symm
theorem wv_get {a : List Nat} (h : wOK a) (i : Nat) : a.getD i 0 = wv a / 4294967296 ^ i % 4294967296 := by
  induction a generalizing i with
  | nil => simp [wv]
  | cons x xs ih =>
    obtain ⟨h1, h2⟩ := h.cons
    cases i with
    | zero =>
      simp only [List.getD_cons_zero, wv, Nat.pow_zero, Nat.div_one]
      rw [Nat.add_mul_mod_self_left, Nat.mod_eq_of_lt h1]
    | succ i =>
      simp only [List.getD_cons_succ, wv, ih h2]
      rw [Nat.pow_succ, Nat.mul_comm (4294967296 ^ i) 4294967296, ← Nat.div_div_eq_div_mul, Nat.add_mul_div_left _ _ (by decide), Nat.div_eq_of_lt h1, Nat.zero_add]
theorem wv_set {a : List Nat} {i : Nat} (hi : i < a.length) (y : Nat) : wv (a.set i y) + a[i] * 4294967296 ^ i = wv a + y * 4294967296 ^ i := by
  induction a generalizing i with
  | nil => simp at hi
  | cons x xs ih =>
    cases i with
    | zero => simp only [List.set_cons_zero, wv, List.getElem_cons_zero, Nat.pow_zero]; omega
    | succ i =>
      have hi' : i < xs.length := by simpa using hi
      simp only [List.set_cons_succ, wv, List.getElem_cons_succ, Nat.pow_succ]
      have := ih hi'
      grind
theorem wv_take_succ {a : List Nat} {i : Nat} (hi : i < a.length) : wv (a.take (i + 1)) = wv (a.take i) + a[i] * 4294967296 ^ i := by
  rw [List.take_add_one, List.getElem?_eq_getElem hi]
  simp only [Option.toList_some, wv_append, wv]
  rw [List.length_take, Nat.min_eq_left (by omega)]
  grind
theorem wv_snoc (a : List Nat) (x : Nat) : wv (a ++ [x]) = wv a + x * 4294967296 ^ a.length := by
  rw [wv_append]; simp only [wv]; grind

theorem trimW_wv (ws : List Nat) : wv (trimW ws) = wv ws := by
  induction hn : ws.length generalizing ws with
  | zero => have := List.length_eq_zero_iff.1 hn; subst this; rfl
  | succ n ih =>
    rcases List.eq_nil_or_concat ws with rfl | ⟨vs, x, rfl⟩
    · rfl
    · rw [List.concat_eq_append] at hn ⊢
      by_cases hx : x = 0
      · subst hx; rw [trimW_snoc0, ih vs (by simpa using hn), wv_append]; simp [wv]
      · rw [trimW_snoc _ hx]
theorem trimW_ok {ws : List Nat} (h : wOK ws) : wOK (trimW ws) := by
  intro x hx
  unfold trimW at hx
  have := (List.dropWhile_sublist _).subset (List.mem_reverse.1 hx)
  exact h x (List.mem_reverse.1 this)
theorem trimW_le (ws : List Nat) : (trimW ws).length ≤ ws.length := by
  unfold trimW
  rw [List.length_reverse]
  exact Nat.le_trans (List.dropWhile_sublist _).length_le (by simp)
/-- Without a zero at the top. -/
def wTop (ws : List Nat) : Prop := ∀ h : ws ≠ [], ws.getLast h ≠ 0
theorem trimW_top (ws : List Nat) : wTop (trimW ws) := by
  induction hn : ws.length generalizing ws with
  | zero => have := List.length_eq_zero_iff.1 hn; subst this; intro h; exact absurd rfl h
  | succ n ih =>
    rcases List.eq_nil_or_concat ws with rfl | ⟨vs, x, rfl⟩
    · intro h; exact absurd rfl h
    · rw [List.concat_eq_append] at hn ⊢
      by_cases hx : x = 0
      · subst hx; rw [trimW_snoc0]; exact ih vs (by simpa using hn)
      · rw [trimW_snoc _ hx]; intro h; simpa using hx
theorem trimW_of_top {ws : List Nat} (h : wTop ws) : trimW ws = ws := by
  rcases List.eq_nil_or_concat ws with rfl | ⟨vs, x, rfl⟩
  · rfl
  · rw [List.concat_eq_append] at h ⊢
    have := h (by simp)
    rw [List.getLast_concat] at this
    exact trimW_snoc _ this
/-- The words of a number, without a zero at the top. -/
def wof (n : Nat) : List Nat := trimW (wfix (n + 1) n)
theorem lt_pow (n : Nat) : n < 4294967296 ^ (n + 1) := Nat.lt_of_lt_of_le (Nat.lt_pow_self (by decide)) (Nat.pow_le_pow_right (by decide) (by omega))
theorem wv_wof (n : Nat) : wv (wof n) = n := by
  unfold wof
  rw [trimW_wv, wv_wfix, Nat.mod_eq_of_lt (lt_pow n)]
theorem wof_ok (n : Nat) : wOK (wof n) := trimW_ok (wfix_ok _ _)
theorem wof_top (n : Nat) : wTop (wof n) := trimW_top _
theorem wv_ge {ws : List Nat} (h : wTop ws) (hne : ws ≠ []) : 4294967296 ^ (ws.length - 1) ≤ wv ws := by
  rcases List.eq_nil_or_concat ws with rfl | ⟨vs, x, rfl⟩
  · exact absurd rfl hne
  · rw [List.concat_eq_append] at h ⊢
    have := h (by simp)
    rw [List.getLast_concat] at this
    rw [wv_snoc, List.length_append, List.length_singleton, Nat.add_sub_cancel]
    have : 1 * 4294967296 ^ vs.length ≤ x * 4294967296 ^ vs.length := Nat.mul_le_mul_right _ (by omega)
    omega
theorem top_uniq {a b : List Nat} (ha : wOK a) (hb : wOK b) (ta : wTop a) (tb : wTop b) (h : wv a = wv b) : a = b := by
  have key : ∀ {a b : List Nat}, wOK a → wTop b → wv a = wv b → b.length ≤ a.length := by
    intro a b ha tb h
    by_cases hb : b = []
    · simp [hb]
    · have h1 := wv_ge tb hb
      have h2 := wv_lt ha
      rw [h] at h2
      have : 4294967296 ^ (b.length - 1) < 4294967296 ^ a.length := by omega
      have := (Nat.pow_lt_pow_iff_right (by decide : 1 < 4294967296)).1 this
      have : b.length ≠ 0 := by simpa using hb
      omega
  have h1 := key ha tb h
  have h2 := key hb ta h.symm
  have hl : a.length = b.length := by omega
  rw [← wfix_of ha, ← wfix_of hb, hl, h]
theorem trimW_eq {ws : List Nat} (h : wOK ws) : trimW ws = wof (wv ws) :=
  top_uniq (trimW_ok h) (wof_ok _) (trimW_top _) (wof_top _) (by rw [trimW_wv, wv_wof])
theorem wof_zero : wof 0 = [] := rfl
theorem wof_nil {n : Nat} : wof n = [] ↔ n = 0 := by
  refine ⟨fun h => ?_, fun h => by subst h; rfl⟩
  have := wv_wof n
  rw [h] at this; exact this.symm
theorem wof_wfix {k n : Nat} (h : n < 4294967296 ^ k) : trimW (wfix k n) = wof n := by
  rw [trimW_eq (wfix_ok _ _), wv_wfix, Nat.mod_eq_of_lt h]
/-- The number of words. -/
def wl (n : Nat) : Nat := (wof n).length
theorem lt_wl (n : Nat) : n < 4294967296 ^ wl n := by have := wv_lt (wof_ok n); rw [wv_wof] at this; exact this
theorem wl_ge {n : Nat} (h : n ≠ 0) : 4294967296 ^ (wl n - 1) ≤ n := by
  have := wv_ge (wof_top n) (fun h' => h (wof_nil.1 h'))
  rwa [wv_wof] at this
theorem wl_le {n k : Nat} (h : n < 4294967296 ^ k) : wl n ≤ k := by
  by_cases hn : n = 0
  · subst hn; simp [wl, wof_zero]
  · have h1 := wl_ge hn
    have : 4294967296 ^ (wl n - 1) < 4294967296 ^ k := by omega
    have := (Nat.pow_lt_pow_iff_right (by decide : 1 < 4294967296)).1 this
    omega
theorem wl_lt {m n : Nat} (h : wl m < wl n) : m < n := by
  have h1 := lt_wl m
  have h2 : n ≠ 0 := by intro h'; subst h'; simp [wl, wof_zero] at h
  have h3 := wl_ge h2
  have : 4294967296 ^ wl m ≤ 4294967296 ^ (wl n - 1) := Nat.pow_le_pow_right (by decide) (by omega)
  omega
theorem wl_mono {m n : Nat} (h : m ≤ n) : wl m ≤ wl n := by
  rcases Nat.lt_or_ge (wl n) (wl m) with h1 | h1
  · have := wl_lt h1; omega
  · exact h1
theorem wl_add (m n : Nat) : wl (m + n) ≤ max (wl m) (wl n) + 1 := by
  refine wl_le ?_
  have h1 := lt_wl m
  have h2 := lt_wl n
  have h3 : 4294967296 ^ wl m ≤ 4294967296 ^ max (wl m) (wl n) := Nat.pow_le_pow_right (by decide) (by omega)
  have h4 : 4294967296 ^ wl n ≤ 4294967296 ^ max (wl m) (wl n) := Nat.pow_le_pow_right (by decide) (by omega)
  rw [Nat.pow_succ]; show m + n < 4294967296 ^ max (wl m) (wl n) * 4294967296; omega
theorem wl_mul (m n : Nat) : wl (m * n) ≤ wl m + wl n := by
  refine wl_le ?_
  rw [Nat.pow_add]
  by_cases hn : n = 0
  · subst hn; rw [Nat.mul_zero]; exact Nat.mul_pos (pow_pos _) (pow_pos _)
  · calc m * n < 4294967296 ^ wl m * n := Nat.mul_lt_mul_of_pos_right (lt_wl m) (by omega)
      _ ≤ 4294967296 ^ wl m * 4294967296 ^ wl n := Nat.mul_le_mul_left _ (Nat.le_of_lt (lt_wl n))
end Go.Proofs.YtipenembpidoiaaGreatDoor

/- Words: differences, products, quotients, as plain laws. No condition. -/
namespace Go.Proofs.YtipenembpidoiaaGreatDoor

theorem wv_take' (a : List Nat) (i : Nat) : wv (a.take (i + 1)) = wv (a.take i) + a.getD i 0 * 4294967296 ^ i := by
  rcases Nat.lt_or_ge i a.length with h | h
  · rw [wv_take_succ h, List.getD_eq_getElem?_getD, List.getElem?_eq_getElem h]; rfl
  · rw [List.take_of_length_le h, List.take_of_length_le (by omega), List.getD_eq_getElem?_getD, List.getElem?_eq_none h]; simp
theorem wfix_snoc (k n : Nat) : wfix (k + 1) n = wfix k n ++ [n / 4294967296 ^ k % 4294967296] := by
  have h1 : wfix k n ++ [n / 4294967296 ^ k % 4294967296] = wfix (k + 1) (n % 4294967296 ^ (k + 1)) := by
    refine wfix_uniq ((wfix_ok _ _).append (wOK.one (Nat.mod_lt _ (by decide)))) (by simp [wfix_length]) ?_
    rw [wv_snoc, wfix_length, wv_wfix, Nat.pow_succ, Nat.mod_mul, Nat.mul_comm]
  have h2 := wfix_of (wfix_ok (k + 1) n)
  rw [wfix_length, wv_wfix] at h2
  rw [h1, h2]
theorem wfix_mod {k m n : Nat} (h : m % 4294967296 ^ k = n % 4294967296 ^ k) : wfix k m = wfix k n := by
  have h2 := wfix_of (wfix_ok k m)
  have h3 := wfix_of (wfix_ok k n)
  rw [wfix_length, wv_wfix] at h2 h3
  rw [← h2, h, h3]
theorem wfix_add (k m n : Nat) : wfix k (m + n * 4294967296 ^ k) = wfix k m := wfix_mod (Nat.add_mul_mod_self_right _ _ _)
theorem getD_lt {a : List Nat} (h : wOK a) (i : Nat) : a.getD i 0 < 4294967296 := by
  rw [List.getD_eq_getElem?_getD]
  rcases Nat.lt_or_ge i a.length with h' | h'
  · rw [List.getElem?_eq_getElem h']; exact h.get h'
  · rw [List.getElem?_eq_none h']; decide
theorem getD_get {a : List Nat} {i : Nat} (h : i < a.length) : a.getD i 0 = a[i] := by
  rw [List.getD_eq_getElem?_getD, List.getElem?_eq_getElem h]; rfl
theorem wv_take_lt {a : List Nat} (h : wOK a) (i : Nat) : wv (a.take i) < 4294967296 ^ i :=
  Nat.lt_of_lt_of_le (wv_lt (h.take i)) (Nat.pow_le_pow_right (by decide) (by simp; omega))
theorem wv_splitD (a : List Nat) (k : Nat) : wv a = wv (a.take k) + 4294967296 ^ k * wv (a.drop k) := by
  have := wv_append (a.take k) (a.drop k)
  rw [List.take_append_drop] at this
  rcases Nat.lt_or_ge a.length k with h | h
  · rw [this, List.drop_eq_nil_of_le (by omega)]; simp [wv]
  · rw [List.length_take, Nat.min_eq_left h] at this; exact this
theorem wv_setD {a : List Nat} {i : Nat} (hi : i < a.length) (y : Nat) : wv (a.set i y) + a.getD i 0 * 4294967296 ^ i = wv a + y * 4294967296 ^ i := by
  rw [getD_get hi]; exact wv_set hi y
theorem wv_drop_succ (a : List Nat) (i : Nat) : wv (a.drop i) = a.getD i 0 + 4294967296 * wv (a.drop (i + 1)) := by
  rcases Nat.lt_or_ge i a.length with h | h
  · rw [List.drop_eq_getElem_cons h, getD_get h]; rfl
  · rw [List.drop_eq_nil_of_le h, List.drop_eq_nil_of_le (by omega), List.getD_eq_getElem?_getD, List.getElem?_eq_none h]; simp [wv]
theorem wv_zero_getD {a : List Nat} (h : wOK a) (h0 : wv a = 0) (i : Nat) : a.getD i 0 = 0 := by rw [wv_get h, h0]; simp
theorem wgetD_set (a : List Nat) (i k y : Nat) (hi : i < a.length) : (a.set i y).getD k 0 = if k = i then y else a.getD k 0 := by
  rw [List.getD_eq_getElem?_getD, List.getD_eq_getElem?_getD, List.getElem?_set]
  by_cases h : i = k
  · subst h; simp [hi]
  · rw [if_neg h, if_neg (Ne.symm h)]
theorem wgetD_drop (a : List Nat) (i k : Nat) : (a.drop i).getD k 0 = a.getD (i + k) 0 := by
  rw [List.getD_eq_getElem?_getD, List.getD_eq_getElem?_getD, List.getElem?_drop]
theorem wv_zero_of {a : List Nat} (h : ∀ k, a.getD k 0 = 0) : wv a = 0 := by
  induction a with
  | nil => rfl
  | cons x xs ih =>
    have h0 := h 0
    simp only [List.getD_cons_zero] at h0
    subst h0
    simp only [wv, Nat.zero_add]
    rw [ih (fun k => by simpa using h (k + 1))]

/-! ### Differences -/
/-- W^i + x - y, up to word i. -/
def difN (x y : List Nat) (i : Nat) : Nat := 4294967296 ^ i + wv (x.take i) - wv (y.take i)
theorem difN_zero (x y : List Nat) : difN x y 0 = 1 := by simp [difN, wv]
theorem difN_succ (x : List Nat) {y : List Nat} (hy : wOK y) (i : Nat) : difN x y (i + 1) + (y.getD i 0 + 1) * 4294967296 ^ i = (4294967296 + x.getD i 0) * 4294967296 ^ i + difN x y i := by
  unfold difN
  have h1 := wv_take_lt hy i
  have h2 := wv_take_lt hy (i + 1)
  rw [wv_take', wv_take'] at *
  rw [Nat.pow_succ] at *
  grind
theorem difN_step (x : List Nat) {y : List Nat} (hy : wOK y) (i : Nat) : difN x y (i + 1) / 4294967296 ^ i + y.getD i 0 + 1 = 4294967296 + x.getD i 0 + difN x y i / 4294967296 ^ i := by
  have h := difN_succ x hy i
  have hp := pow_pos i
  have h1 : _ / 4294967296 ^ i = _ / 4294967296 ^ i := congrArg (· / 4294967296 ^ i) h
  rw [Nat.add_mul_div_right _ _ hp, Nat.add_comm (_ * _), Nat.add_mul_div_right _ _ hp] at h1
  omega
theorem difN_carry {x y : List Nat} (hx : wOK x) (i : Nat) : difN x y i / 4294967296 ^ i ≤ 1 := by
  unfold difN
  have h1 := wv_take_lt hx i
  have : (4294967296 ^ i + wv (x.take i) - wv (y.take i)) / 4294967296 ^ i < 2 := by
    rw [Nat.div_lt_iff_lt_mul (pow_pos i)]; omega
  omega
theorem difN_end {x y : List Nat} (hl : y.length ≤ x.length) (h : wv y ≤ wv x) : wfix x.length (difN x y x.length) = wfix x.length (wv x - wv y) := by
  refine wfix_mod ?_
  unfold difN
  rw [List.take_of_length_le (Nat.le_refl _), List.take_of_length_le hl, Nat.add_sub_assoc h]
  simp

/-! ### Products -/
structure WTI (a b : List Nat) (i j : Nat) (out : List Nat) (c : Nat) : Prop where
  ok : wOK out
  len : out.length = a.length + b.length
  hi : ∀ k, i + b.length ≤ k → out.getD k 0 = 0
  val : wv out + c * 4294967296 ^ (i + j) = wv (a.take i) * wv b + a.getD i 0 * wv (b.take j) * 4294967296 ^ i
  cl : c < 4294967296

theorem WTI.bound {a b : List Nat} (ha : wOK a) (hb : wOK b) {i j : Nat} {out : List Nat} {c : Nat} (h : WTI a b i j out c) :
    a.getD i 0 * b.getD j 0 + out.getD (i + j) 0 + c < 18446744073709551616 := by
  have h1 := getD_lt ha i
  have h2 := getD_lt hb j
  have h3 := getD_lt h.ok (i + j)
  have h4 := h.cl
  have : a.getD i 0 * b.getD j 0 ≤ 4294967295 * 4294967295 := Nat.mul_le_mul (by omega) (by omega)
  omega
theorem WTI.step {a b : List Nat} {i j : Nat} {out : List Nat} {c : Nat} (h : WTI a b i j out c) (hi : i < a.length) (hj : j < b.length)
    (hB : a.getD i 0 * b.getD j 0 + out.getD (i + j) 0 + c < 18446744073709551616) :
    WTI a b i (j + 1) (out.set (i + j) ((a.getD i 0 * b.getD j 0 + out.getD (i + j) 0 + c) % 4294967296)) ((a.getD i 0 * b.getD j 0 + out.getD (i + j) 0 + c) / 4294967296) := by
  have hlt : i + j < out.length := by rw [h.len]; omega
  have hs := wv_setD hlt ((a.getD i 0 * b.getD j 0 + out.getD (i + j) 0 + c) % 4294967296)
  have hv := h.val
  refine ⟨h.ok.set _ (Nat.mod_lt _ (by decide)), by rw [List.length_set]; exact h.len, fun k hk => ?_, ?_, by omega⟩
  · rw [wgetD_set _ _ _ _ hlt, if_neg (by omega)]; exact h.hi k hk
  · rw [wv_take', show i + (j + 1) = i + j + 1 from by omega, Nat.pow_succ]
    have hd := Nat.div_add_mod (a.getD i 0 * b.getD j 0 + out.getD (i + j) 0 + c) 4294967296
    generalize (a.getD i 0 * b.getD j 0 + out.getD (i + j) 0 + c) / 4294967296 = q at *
    generalize (a.getD i 0 * b.getD j 0 + out.getD (i + j) 0 + c) % 4294967296 = r at *
    generalize wv (out.set (i + j) r) = o' at *
    rw [Nat.pow_add] at *
    generalize 4294967296 ^ i = p at *
    generalize 4294967296 ^ j = p' at *
    grind
theorem WTI.row {a b : List Nat} {i : Nat} {out : List Nat} {c : Nat} (h : WTI a b i b.length out c) (hi : i < a.length) :
    WTI a b (i + 1) 0 (out.set (i + b.length) c) 0 := by
  have hlt : i + b.length < out.length := by rw [h.len]; omega
  have hs := wv_setD hlt c
  have h0 := h.hi (i + b.length) (Nat.le_refl _)
  have hv := h.val
  rw [h0] at hs
  rw [List.take_of_length_le (Nat.le_refl _)] at hv
  refine ⟨h.ok.set _ h.cl, by rw [List.length_set]; exact h.len, fun k hk => ?_, ?_, by decide⟩
  · rw [wgetD_set _ _ _ _ hlt, if_neg (by omega)]; exact h.hi k (by omega)
  · rw [wv_take']
    simp only [List.take_zero, wv, Nat.mul_zero, Nat.zero_mul, Nat.add_zero] at *
    rw [hs, hv]
    grind
theorem WTI.start (a b : List Nat) : WTI a b 0 0 (List.replicate (a.length + b.length) 0) 0 :=
  ⟨wOK.rep0 _, by simp, fun k _ => wv_zero_getD (wOK.rep0 _) (wv_rep0 _) k, by simp [wv_rep0, wv], by decide⟩
theorem WTI.fin {a b : List Nat} {out : List Nat} (h : WTI a b a.length 0 out 0) : out = wfix (a.length + b.length) (wv a * wv b) := by
  refine wfix_uniq h.ok h.len ?_
  have hv := h.val
  simp only [List.take_zero, wv, Nat.mul_zero, Nat.zero_mul, Nat.add_zero, List.take_of_length_le (Nat.le_refl _)] at hv
  exact hv

/-! ### Division by a word -/
def shq (a : List Nat) (d i : Nat) : List Nat := List.replicate i 0 ++ wfix (a.length - i) (wv (a.drop i) / d)
theorem shq_len (a : List Nat) (d : Nat) {i : Nat} (hi : i ≤ a.length) : (shq a d i).length = a.length := by simp [shq, wfix_length]; omega
theorem sh_step (a : List Nat) {d : Nat} (hd : 0 < d) (i : Nat) : wv (a.drop i) / d = (wv (a.drop (i + 1)) % d * 4294967296 + a.getD i 0) / d + 4294967296 * (wv (a.drop (i + 1)) / d) ∧
    wv (a.drop i) % d = (wv (a.drop (i + 1)) % d * 4294967296 + a.getD i 0) % d := by
  rw [wv_drop_succ]
  have h := Nat.div_add_mod (wv (a.drop (i + 1))) d
  generalize wv (a.drop (i + 1)) / d = q at *
  generalize wv (a.drop (i + 1)) % d = r at *
  rw [← h]
  have e : a.getD i 0 + 4294967296 * (d * q + r) = (r * 4294967296 + a.getD i 0) + d * (4294967296 * q) := by grind
  rw [e, Nat.add_mul_div_left _ _ hd, Nat.add_mul_mod_self_left]
  exact ⟨rfl, rfl⟩
theorem sh_digit {a : List Nat} (ha : wOK a) {d : Nat} (hd : 0 < d) (i : Nat) : (wv (a.drop (i + 1)) % d * 4294967296 + a.getD i 0) / d < 4294967296 := by
  have h1 := getD_lt ha i
  have h2 := Nat.mod_lt (wv (a.drop (i + 1))) hd
  rw [Nat.div_lt_iff_lt_mul hd]
  have : (wv (a.drop (i + 1)) % d + 1) * 4294967296 ≤ d * 4294967296 := Nat.mul_le_mul_right _ h2
  rw [Nat.mul_comm 4294967296 d]; omega
theorem shq_step {a : List Nat} (ha : wOK a) {d : Nat} (hd : 0 < d) {i : Nat} (hi : i < a.length) :
    (shq a d (i + 1)).set i ((wv (a.drop (i + 1)) % d * 4294967296 + a.getD i 0) / d) = shq a d i := by
  unfold shq
  have e : a.length - i = (a.length - (i + 1)) + 1 := by omega
  rw [e, (sh_step a hd i).1, wfix]
  have h := sh_digit ha hd i
  rw [Nat.add_mul_mod_self_left, Nat.mod_eq_of_lt h, Nat.add_mul_div_left _ _ (by decide), Nat.div_eq_of_lt h, Nat.zero_add]
  rw [List.replicate_succ', List.append_assoc, List.set_append_right _ _ (by simp)]
  simp

/-! ### Bits moved up -/
theorem shf_step {a : List Nat} (ha : wOK a) (n : Nat) (i : Nat) :
    wv (a.take (i + 1)) * 2 ^ n / 4294967296 ^ i = wv (a.take i) * 2 ^ n / 4294967296 ^ i + a.getD i 0 * 2 ^ n ∧ wv (a.take i) * 2 ^ n / 4294967296 ^ i < 2 ^ n := by
  refine ⟨?_, ?_⟩
  · rw [wv_take']
    have : (wv (a.take i) + a.getD i 0 * 4294967296 ^ i) * 2 ^ n = wv (a.take i) * 2 ^ n + (a.getD i 0 * 2 ^ n) * 4294967296 ^ i := by grind
    rw [this, Nat.add_mul_div_right _ _ (pow_pos i)]
  · rw [Nat.div_lt_iff_lt_mul (pow_pos i), Nat.mul_comm (2 ^ n)]
    exact Nat.mul_lt_mul_of_pos_right (wv_take_lt ha i) (Nat.two_pow_pos n)

theorem shf_lt {a : List Nat} (ha : wOK a) {n : Nat} (hn : n ≤ 31) (i : Nat) : wv (a.take i) * 2 ^ n < 4294967296 ^ (i + 1) := by
  have h1 := wv_take_lt ha i
  have h2 : 2 ^ n ≤ 4294967296 := Nat.le_trans (Nat.pow_le_pow_right (by decide) hn) (by decide)
  have h3 : wv (a.take i) * 2 ^ n ≤ wv (a.take i) * 4294967296 := Nat.mul_le_mul_left _ h2
  have h4 : wv (a.take i) * 4294967296 < 4294967296 ^ i * 4294967296 := Nat.mul_lt_mul_of_pos_right h1 (by decide)
  rw [Nat.pow_succ]; omega
theorem shf_word {a : List Nat} (ha : wOK a) {n : Nat} (hn : n ≤ 31) {i : Nat} (hi : i < a.length) :
    (wfix (a.length + 1) (wv (a.take i) * 2 ^ n)).getD i 0 = wv (a.take i) * 2 ^ n / 4294967296 ^ i ∧ (wfix (a.length + 1) (wv (a.take i) * 2 ^ n)).getD (i + 1) 0 = 0 ∧
      wv (wfix (a.length + 1) (wv (a.take i) * 2 ^ n)) = wv (a.take i) * 2 ^ n := by
  have h1 := shf_lt ha hn i
  have h2 : 4294967296 ^ (i + 1) ≤ 4294967296 ^ (a.length + 1) := Nat.pow_le_pow_right (by decide) (by omega)
  have h3 := (shf_step ha n i).2
  have h4 : 2 ^ n ≤ 4294967296 := Nat.le_trans (Nat.pow_le_pow_right (by decide) hn) (by decide)
  have hv : wv (wfix (a.length + 1) (wv (a.take i) * 2 ^ n)) = wv (a.take i) * 2 ^ n := by rw [wv_wfix, Nat.mod_eq_of_lt (by omega)]
  refine ⟨?_, ?_, hv⟩
  · rw [wv_get (wfix_ok _ _), hv, Nat.mod_eq_of_lt (by omega)]
  · rw [wv_get (wfix_ok _ _), hv, Nat.div_eq_of_lt h1]
theorem shf_set {a : List Nat} (ha : wOK a) {n : Nat} (hn : n ≤ 31) {i : Nat} (hi : i < a.length) :
    ((wfix (a.length + 1) (wv (a.take i) * 2 ^ n)).set i (wv (a.take i) * 2 ^ n / 4294967296 ^ i + a.getD i 0 * 2 ^ n % 4294967296)).set (i + 1) (a.getD i 0 * 2 ^ n / 4294967296) = wfix (a.length + 1) (wv (a.take (i + 1)) * 2 ^ n) ∧
      wv (a.take i) * 2 ^ n / 4294967296 ^ i + a.getD i 0 * 2 ^ n % 4294967296 < 4294967296 := by
  obtain ⟨h1, h2, h3⟩ := shf_word ha hn hi
  have hd : a.getD i 0 * 2 ^ n % 4294967296 % 2 ^ n = 0 := by
    have : 4294967296 = 2 ^ n * 2 ^ (32 - n) := by rw [← Nat.pow_add, show n + (32 - n) = 32 from by omega]
    rw [this, Nat.mul_comm (a.getD i 0), Nat.mul_mod_mul_left, Nat.mul_mod_right]
  have hlow : a.getD i 0 * 2 ^ n % 4294967296 < 4294967296 := Nat.mod_lt _ (by decide)
  have hsm := (shf_step ha n i).2
  have hfit : wv (a.take i) * 2 ^ n / 4294967296 ^ i + a.getD i 0 * 2 ^ n % 4294967296 < 4294967296 := by
    have e : 4294967296 = 2 ^ n * 2 ^ (32 - n) := by rw [← Nat.pow_add, show n + (32 - n) = 32 from by omega]
    obtain ⟨q, hq⟩ := Nat.dvd_of_mod_eq_zero hd
    rw [hq] at hlow ⊢
    have h5 : q < 2 ^ (32 - n) := Nat.lt_of_mul_lt_mul_left (a := 2 ^ n) (by rw [← e]; exact hlow)
    have h6 : 2 ^ n * (q + 1) ≤ 2 ^ n * 2 ^ (32 - n) := Nat.mul_le_mul_left _ h5
    rw [← e, Nat.mul_succ] at h6
    omega
  refine ⟨?_, hfit⟩
  have hhi : a.getD i 0 * 2 ^ n / 4294967296 < 4294967296 := by
    have := getD_lt ha i
    have h4 : 2 ^ n ≤ 4294967296 := Nat.le_trans (Nat.pow_le_pow_right (by decide) hn) (by decide)
    rw [Nat.div_lt_iff_lt_mul (by decide)]
    calc a.getD i 0 * 2 ^ n ≤ a.getD i 0 * 4294967296 := Nat.mul_le_mul_left _ h4
      _ < 4294967296 * 4294967296 := Nat.mul_lt_mul_of_pos_right this (by decide)
  have hl : (wfix (a.length + 1) (wv (a.take i) * 2 ^ n)).length = a.length + 1 := wfix_length _ _
  refine wfix_uniq (((wfix_ok _ _).set _ hfit).set _ hhi) (by simp [wfix_length]) ?_
  have s1 := wv_setD (a := wfix (a.length + 1) (wv (a.take i) * 2 ^ n)) (i := i) (by omega) (wv (a.take i) * 2 ^ n / 4294967296 ^ i + a.getD i 0 * 2 ^ n % 4294967296)
  have s2 := wv_setD (a := (wfix (a.length + 1) (wv (a.take i) * 2 ^ n)).set i (wv (a.take i) * 2 ^ n / 4294967296 ^ i + a.getD i 0 * 2 ^ n % 4294967296)) (i := i + 1) (by rw [List.length_set]; omega) (a.getD i 0 * 2 ^ n / 4294967296)
  rw [wgetD_set _ _ _ _ (by omega), if_neg (by omega), h2] at s2
  rw [h1, h3] at s1
  rw [wv_take']
  have hdm := Nat.div_add_mod (a.getD i 0 * 2 ^ n) 4294967296
  rw [Nat.pow_succ] at s2
  have e3 : (wv (a.take i) + a.getD i 0 * 4294967296 ^ i) * 2 ^ n = wv (a.take i) * 2 ^ n + (a.getD i 0 * 2 ^ n) * 4294967296 ^ i := by grind
  simp only [Nat.zero_mul, Nat.add_zero] at s2
  rw [e3, s2]
  generalize a.getD i 0 * 2 ^ n / 4294967296 = hi' at *
  generalize a.getD i 0 * 2 ^ n % 4294967296 = lo' at *
  generalize a.getD i 0 * 2 ^ n = t at *
  have e4 : t * 4294967296 ^ i = hi' * (4294967296 ^ i * 4294967296) + lo' * 4294967296 ^ i := by rw [← hdm]; grind
  rw [e4]
  rw [Nat.add_mul] at s1
  omega

/-! ### Long division: the guess of a digit -/
theorem guess_over {U V g rest top v1 v2 u2 w : Nat} (hV : (v1 * 4294967296 + v2) * w ≤ V) (hU : U < (top * 4294967296 + u2 + 1) * w)
    (he : g * v1 + rest = top) (h : rest * 4294967296 + u2 < g * v2) : U < g * V := by
  have h1 : g * ((v1 * 4294967296 + v2) * w) ≤ g * V := Nat.mul_le_mul_left _ hV
  have h2 : (top * 4294967296 + u2 + 1) * w ≤ g * ((v1 * 4294967296 + v2) * w) := by
    rw [← Nat.mul_assoc]
    refine Nat.mul_le_mul_right _ ?_
    subst he
    have : g * (v1 * 4294967296 + v2) = g * v1 * 4294967296 + g * v2 := by grind
    rw [this]; omega
  omega
theorem guess_fits {U V g rest top v1 v2 u2 w : Nat} (hV : (v1 * 4294967296 + v2) * w ≤ V) (hV' : V < (v1 * 4294967296 + v2 + 1) * w) (hU : (top * 4294967296 + u2) * w ≤ U)
    (he : g * v1 + rest = top) (hg : g < 4294967296) (h1 : 2147483648 ≤ v1) (h2 : v2 < 4294967296) (h : g * v2 ≤ rest * 4294967296 + u2 ∨ 4294967296 ≤ rest) : g * V ≤ U + V := by
  have e : g * (v1 * 4294967296 + v2) ≤ top * 4294967296 + u2 := by
    have e1 : g * (v1 * 4294967296 + v2) = g * v1 * 4294967296 + g * v2 := by grind
    rw [e1]
    rcases h with h | h
    · subst he; omega
    · have : g * v2 ≤ 4294967296 * 4294967296 := Nat.mul_le_mul (by omega) (by omega)
      subst he
      omega
  have e2 : g * V ≤ g * ((v1 * 4294967296 + v2 + 1) * w) := Nat.mul_le_mul_left _ (by omega)
  have e3 : g * ((v1 * 4294967296 + v2 + 1) * w) = g * (v1 * 4294967296 + v2) * w + g * w := by grind
  have e4 : g * (v1 * 4294967296 + v2) * w ≤ (top * 4294967296 + u2) * w := Nat.mul_le_mul_right _ e
  have e5 : g * w ≤ (v1 * 4294967296 + v2) * w := Nat.mul_le_mul_right _ (by omega)
  omega
end Go.Proofs.YtipenembpidoiaaGreatDoor

/- Words: long division, as plain laws. No condition. -/
namespace Go.Proofs.YtipenembpidoiaaGreatDoor

theorem wv_drop {a : List Nat} (h : wOK a) (m : Nat) : wv (a.drop m) = wv a / 4294967296 ^ m := by
  rw [wv_splitD a m, Nat.add_mul_div_left _ _ (pow_pos m), Nat.div_eq_of_lt (wv_take_lt h m), Nat.zero_add]
theorem wv_take_mod {a : List Nat} (h : wOK a) (m : Nat) : wv (a.take m) = wv a % 4294967296 ^ m := by
  rw [wv_splitD a m, Nat.add_mul_mod_self_left, Nat.mod_eq_of_lt (wv_take_lt h m)]

structure WMS (u v : List Nat) (g j i : Nat) (u' : List Nat) (c b : Nat) : Prop where
  ok : wOK u'
  len : u'.length = u.length
  lo : u'.take j = u.take j
  hi : u'.drop (j + i) = u.drop (j + i)
  val : wv u' + g * wv (v.take i) * 4294967296 ^ j = wv u + (c + b) * 4294967296 ^ (j + i)
  cl : c < 4294967296
  bl : b ≤ 1
theorem WMS.start {u : List Nat} (hu : wOK u) (v : List Nat) (g j : Nat) : WMS u v g j 0 u 0 0 :=
  ⟨hu, rfl, rfl, rfl, by simp [wv], by decide, by decide⟩
theorem WMS.bound {u v : List Nat} (hv : wOK v) {g j i : Nat} {u' : List Nat} {c b : Nat} (h : WMS u v g j i u' c b) (hg : g < 4294967296) : g * v.getD i 0 + c < 18446744073709551616 := by
  have h1 := getD_lt hv i
  have h2 := h.cl
  have : g * v.getD i 0 ≤ 4294967295 * 4294967295 := Nat.mul_le_mul (by omega) (by omega)
  omega
theorem WMS.step {u v : List Nat} (hv : wOK v) {g j i : Nat} {u' : List Nat} {c b : Nat} (h : WMS u v g j i u' c b) (hg : g < 4294967296) (hi : j + i < u.length) :
    WMS u v g j (i + 1) (u'.set (j + i) ((u'.getD (j + i) 0 + 8589934592 - (g * v.getD i 0 + c) % 4294967296 - b) % 4294967296)) ((g * v.getD i 0 + c) / 4294967296)
      (if u'.getD (j + i) 0 < (g * v.getD i 0 + c) % 4294967296 + b then 1 else 0) := by
  have hB := h.bound hv hg
  have hlt : j + i < u'.length := by rw [h.len]; exact hi
  have hx := getD_lt h.ok (j + i)
  have hs := wv_setD hlt ((u'.getD (j + i) 0 + 8589934592 - (g * v.getD i 0 + c) % 4294967296 - b) % 4294967296)
  have hval := h.val
  have hbl := h.bl
  have hd := Nat.div_add_mod (g * v.getD i 0 + c) 4294967296
  have hr : (g * v.getD i 0 + c) % 4294967296 < 4294967296 := Nat.mod_lt _ (by decide)
  have hdig : (u'.getD (j + i) 0 + 8589934592 - (g * v.getD i 0 + c) % 4294967296 - b) % 4294967296 + (g * v.getD i 0 + c) % 4294967296 + b =
      u'.getD (j + i) 0 + 4294967296 * (if u'.getD (j + i) 0 < (g * v.getD i 0 + c) % 4294967296 + b then 1 else 0) := by split <;> omega
  refine ⟨h.ok.set _ (Nat.mod_lt _ (by decide)), by rw [List.length_set]; exact h.len, ?_, ?_, ?_, by omega, by split <;> omega⟩
  · rw [List.take_set_of_le (by omega)]; exact h.lo
  · rw [List.drop_set_of_lt (by omega)]
    have := congrArg (List.drop 1) h.hi
    rwa [List.drop_drop, List.drop_drop] at this
  · rw [wv_take', show j + (i + 1) = j + i + 1 from by omega, Nat.pow_succ]
    generalize (if u'.getD (j + i) 0 < (g * v.getD i 0 + c) % 4294967296 + b then 1 else 0) = b' at *
    generalize (u'.getD (j + i) 0 + 8589934592 - (g * v.getD i 0 + c) % 4294967296 - b) % 4294967296 = y at *
    generalize (g * v.getD i 0 + c) / 4294967296 = q at *
    generalize (g * v.getD i 0 + c) % 4294967296 = r at *
    generalize wv (u'.set (j + i) y) = o' at *
    generalize u'.getD (j + i) 0 = x at *
    rw [Nat.pow_add] at *
    generalize 4294967296 ^ i = p at *
    generalize 4294967296 ^ j = p' at *
    clear hx hlt hB hr hbl
    have h1 : (y + r + b) * (p' * p) = (x + 4294967296 * b') * (p' * p) := by rw [hdig]
    have h2 : (4294967296 * q + r) * (p' * p) = (g * v.getD i 0 + c) * (p' * p) := by rw [hd]
    grind

structure WAB (u v : List Nat) (j i : Nat) (u' : List Nat) (c : Nat) : Prop where
  ok : wOK u'
  len : u'.length = u.length
  lo : u'.take j = u.take j
  hi : u'.drop (j + i) = u.drop (j + i)
  val : wv u' + c * 4294967296 ^ (j + i) = wv u + wv (v.take i) * 4294967296 ^ j
  cl : c ≤ 1
theorem WAB.start {u : List Nat} (hu : wOK u) (v : List Nat) (j : Nat) : WAB u v j 0 u 0 := ⟨hu, rfl, rfl, rfl, by simp [wv], by decide⟩
theorem WAB.step {u v : List Nat} (hv : wOK v) {j i : Nat} {u' : List Nat} {c : Nat} (h : WAB u v j i u' c) (hi : j + i < u.length) :
    WAB u v j (i + 1) (u'.set (j + i) ((u'.getD (j + i) 0 + v.getD i 0 + c) % 4294967296)) ((u'.getD (j + i) 0 + v.getD i 0 + c) / 4294967296) := by
  have hlt : j + i < u'.length := by rw [h.len]; exact hi
  have hx := getD_lt h.ok (j + i)
  have hy := getD_lt hv i
  have hcl := h.cl
  have hs := wv_setD hlt ((u'.getD (j + i) 0 + v.getD i 0 + c) % 4294967296)
  have hval := h.val
  have hd := Nat.div_add_mod (u'.getD (j + i) 0 + v.getD i 0 + c) 4294967296
  refine ⟨h.ok.set _ (Nat.mod_lt _ (by decide)), by rw [List.length_set]; exact h.len, ?_, ?_, ?_, by omega⟩
  · rw [List.take_set_of_le (by omega)]; exact h.lo
  · rw [List.drop_set_of_lt (by omega)]
    have := congrArg (List.drop 1) h.hi
    rwa [List.drop_drop, List.drop_drop] at this
  · rw [wv_take', show j + (i + 1) = j + i + 1 from by omega, Nat.pow_succ]
    generalize (u'.getD (j + i) 0 + v.getD i 0 + c) / 4294967296 = q at *
    generalize (u'.getD (j + i) 0 + v.getD i 0 + c) % 4294967296 = r at *
    generalize wv (u'.set (j + i) r) = o' at *
    generalize u'.getD (j + i) 0 = x at *
    rw [Nat.pow_add] at *
    generalize 4294967296 ^ i = p at *
    generalize 4294967296 ^ j = p' at *
    clear hx hlt hcl hy
    have h2 : (4294967296 * q + r) * (p' * p) = (x + v.getD i 0 + c) * (p' * p) := by rw [hd]
    grind

/-- A list whose words from m on are those of a smaller one. -/
theorem wv_lt_of_drop {u u' : List Nat} (ho : wOK u) (h : wOK u') {m : Nat} (hd : u'.drop m = u.drop m) (hu : wv u < 4294967296 ^ m) : wv u' < 4294967296 ^ m := by
  rw [wv_splitD u' m, hd, wv_drop ho, Nat.div_eq_of_lt hu, Nat.mul_zero, Nat.add_zero]
  exact wv_take_lt h m
theorem wv_lo (u : List Nat) (j : Nat) : wv u = wv (u.take j) + 4294967296 ^ j * wv (u.drop j) := wv_splitD u j

/-- Nothing was borrowed: the guess is right. -/
theorem WMS.fits {u v : List Nat} {g j : Nat} {u' : List Nat} (h : WMS u v g j (v.length + 1) u' 0 0) (hD : wv (u.drop j) < (g + 1) * wv v) :
    g = wv (u.drop j) / wv v ∧ wv (u'.drop j) = wv (u.drop j) % wv v ∧ wv u' + g * wv v * 4294967296 ^ j = wv u := by
  have hval := h.val
  rw [List.take_of_length_le (by omega)] at hval
  simp only [Nat.zero_mul, Nat.add_zero] at hval
  have h1 := wv_lo u' j
  have h2 := wv_lo u j
  rw [h.lo] at h1
  have key : wv (u'.drop j) + g * wv v = wv (u.drop j) := by
    have hp := pow_pos j
    refine Nat.eq_of_mul_eq_mul_left hp ?_
    have : 4294967296 ^ j * (wv (u'.drop j) + g * wv v) = 4294967296 ^ j * wv (u'.drop j) + g * wv v * 4294967296 ^ j := by grind
    rw [this]; omega
  have hlt : wv (u'.drop j) < wv v := by rw [Nat.add_mul] at hD; omega
  refine ⟨?_, ?_, hval⟩
  · rw [← key, Nat.add_mul_div_right _ _ (by omega), Nat.div_eq_of_lt hlt, Nat.zero_add]
  · rw [← key, Nat.add_mul_mod_self_right, Nat.mod_eq_of_lt hlt]
/-- Something was borrowed: the guess is too great by one, and the divisor is added back. -/
theorem WAB.fits {u v : List Nat} (hu : wOK u) {g j : Nat} {u' u'' : List Nat} {c : Nat} (h : WMS u v (g + 1) j (v.length + 1) u' 0 1) (k : WAB u' v j (v.length + 1) u'' c)
    (hU : wv u < 4294967296 ^ (j + (v.length + 1))) (hD : (g + 1) * wv v ≤ wv (u.drop j) + wv v) (hV : 0 < wv v) :
    g = wv (u.drop j) / wv v ∧ wv (u''.drop j) = wv (u.drop j) % wv v ∧ wv u'' + g * wv v * 4294967296 ^ j = wv u := by
  have hval := h.val
  have kval := k.val
  rw [List.take_of_length_le (by omega)] at hval kval
  have hl' := wv_lt_of_drop hu h.ok h.hi hU
  have hl'' := wv_lt_of_drop h.ok k.ok k.hi hl'
  have h1 := wv_lo u' j
  have h2 := wv_lo u j
  have h3 := wv_lo u'' j
  rw [k.lo] at h3
  rw [h.lo] at h1 h3
  have hcl := k.cl
  have hgd : 4294967296 ^ j * ((g + 1) * wv v) ≤ 4294967296 ^ j * (wv (u.drop j) + wv v) := Nat.mul_le_mul_left _ hD
  have e1 : 4294967296 ^ j * ((g + 1) * wv v) = g * wv v * 4294967296 ^ j + wv v * 4294967296 ^ j := by grind
  have e2 : 4294967296 ^ j * (wv (u.drop j) + wv v) = 4294967296 ^ j * wv (u.drop j) + wv v * 4294967296 ^ j := by grind
  have e3 : (g + 1) * wv v * 4294967296 ^ j = g * wv v * 4294967296 ^ j + wv v * 4294967296 ^ j := by grind
  rw [e3] at hval
  have hVp : 0 < wv v * 4294967296 ^ j := Nat.mul_pos hV (pow_pos j)
  have hc : c = 1 := by
    rcases Nat.lt_or_ge c 1 with h' | h'
    · have : c = 0 := by omega
      subst this
      simp only [Nat.zero_mul, Nat.add_zero, Nat.zero_add, Nat.one_mul] at hval kval
      omega
    · omega
  subst hc
  simp only [Nat.zero_add, Nat.one_mul] at hval kval
  have hval2 : wv u'' + g * wv v * 4294967296 ^ j = wv u := by omega
  have key : wv (u''.drop j) + g * wv v = wv (u.drop j) := by
    refine Nat.eq_of_mul_eq_mul_left (pow_pos j) ?_
    have : 4294967296 ^ j * (wv (u''.drop j) + g * wv v) = 4294967296 ^ j * wv (u''.drop j) + g * wv v * 4294967296 ^ j := by grind
    rw [this]; omega
  have hlt : wv (u''.drop j) < wv v := by
    have hb : wv u < (g + 1) * wv v * 4294967296 ^ j := by rw [e3]; omega
    have : wv u'' < wv v * 4294967296 ^ j := by rw [e3] at hb; omega
    rw [h3] at this
    have h5 : 4294967296 ^ j * wv (u''.drop j) < 4294967296 ^ j * wv v := by rw [Nat.mul_comm _ (wv v)]; omega
    exact Nat.lt_of_mul_lt_mul_left h5
  refine ⟨?_, ?_, hval2⟩
  · rw [← key, Nat.add_mul_div_right _ _ hV, Nat.div_eq_of_lt hlt, Nat.zero_add]
  · rw [← key, Nat.add_mul_mod_self_right, Nat.mod_eq_of_lt hlt]

/-- The state of a long division: n digits are still to be found. -/
structure WDV (U V L k : Nat) (u q : List Nat) (n : Nat) : Prop where
  oku : wOK u
  okq : wOK q
  lenu : u.length = L
  lenq : q.length + k = L
  top : wv (u.drop n) < V
  val : wv u + V * wv q = U
  qz : ∀ m, m < n → q.getD m 0 = 0
theorem WDV.start {u : List Nat} (hu : wOK u) {V k n : Nat} (hn : n + k = u.length) (ht : wv (u.drop n) < V) : WDV (wv u) V u.length k u (List.replicate n 0) n :=
  ⟨hu, wOK.rep0 _, rfl, by simpa using hn, ht, by rw [wv_rep0]; omega, fun m _ => wv_zero_getD (wOK.rep0 _) (wv_rep0 _) m⟩
theorem WDV.step {U V L k : Nat} {u q u' : List Nat} {n g : Nat} (h : WDV U V L k u q (n + 1)) (hu' : wOK u') (hl : u'.length = u.length) (hn : n < q.length)
    (hr : wv (u'.drop n) = wv (u.drop n) % V) (hv : wv u' + g * V * 4294967296 ^ n = wv u) (hgl : g < 4294967296) (hV : 0 < V) : WDV U V L k u' (q.set n g) n := by
  have hs := wv_setD hn g
  rw [h.qz n (by omega)] at hs
  refine ⟨hu', h.okq.set _ hgl, by rw [hl]; exact h.lenu, by rw [List.length_set]; exact h.lenq, by rw [hr]; exact Nat.mod_lt _ hV, ?_, fun m hm => ?_⟩
  · have := h.val
    simp only [Nat.zero_mul, Nat.add_zero] at hs
    rw [hs, Nat.mul_add, ← this, ← hv]
    grind
  · rw [wgetD_set _ _ _ _ hn, if_neg (by omega)]; exact h.qz m (by omega)
theorem WDV.fin {U V L k : Nat} {u q : List Nat} (h : WDV U V L k u q 0) (hV : 0 < V) : wv u = U % V ∧ wv q = U / V := by
  have h1 := h.top
  have h2 := h.val
  simp only [List.drop_zero] at h1
  constructor
  · rw [← h2, Nat.add_mul_mod_self_left, Nat.mod_eq_of_lt h1]
  · rw [← h2, Nat.add_mul_div_left _ _ hV, Nat.div_eq_of_lt h1, Nat.zero_add]
/-- What the guess looks at. -/
theorem WDV.digits {U L : Nat} {v u q : List Nat} {n : Nat} (hv : wOK v) (h : WDV U (wv v) L v.length u q (n + 1)) (hk : 2 ≤ v.length) :
    wv v = (v.getD (v.length - 1) 0 * 4294967296 + v.getD (v.length - 2) 0) * 4294967296 ^ (v.length - 2) + wv (v.take (v.length - 2)) ∧
    wv (u.drop n) = ((u.getD (n + v.length) 0 * 4294967296 + u.getD (n + v.length - 1) 0) * 4294967296 + u.getD (n + v.length - 2) 0) * 4294967296 ^ (v.length - 2) + wv ((u.drop n).take (v.length - 2)) ∧
    wv (v.take (v.length - 2)) < 4294967296 ^ (v.length - 2) ∧ wv ((u.drop n).take (v.length - 2)) < 4294967296 ^ (v.length - 2) ∧
    wv u < 4294967296 ^ (n + (v.length + 1)) := by
  obtain ⟨k, hk'⟩ : ∃ k, v.length = k + 2 := ⟨v.length - 2, by omega⟩
  have ht := h.top
  have hvl := wv_lt hv
  have hud : wOK (u.drop n) := h.oku.drop n
  have hU : wv u < 4294967296 ^ (n + (v.length + 1)) := by
    rw [wv_splitD u (n + 1)]
    have h1 := wv_take_lt h.oku (n + 1)
    have h2 : wv (u.drop (n + 1)) + 1 ≤ 4294967296 ^ v.length := by omega
    have h3 := Nat.mul_le_mul_left (4294967296 ^ (n + 1)) h2
    rw [← Nat.pow_add] at h3
    rw [show n + (v.length + 1) = n + 1 + v.length from by omega]
    rw [Nat.mul_add] at h3
    omega
  refine ⟨?_, ?_, wv_take_lt hv _, wv_take_lt hud _, hU⟩
  · rw [hk', show k + 2 - 1 = k + 1 from by omega, show k + 2 - 2 = k from by omega]
    have e1 := wv_take' v (k + 1)
    rw [List.take_of_length_le (by omega), wv_take' v k] at e1
    rw [e1, Nat.pow_succ]; grind
  · rw [hk', show n + (k + 2) - 1 = n + (k + 1) from by omega, show n + (k + 2) - 2 = n + k from by omega]
    have e0 : wv ((u.drop n).take (k + 2 + 1)) = wv (u.drop n) := by
      rw [wv_take_mod hud, Nat.mod_eq_of_lt]
      rw [wv_drop h.oku, Nat.div_lt_iff_lt_mul (pow_pos n), ← Nat.pow_add]
      rw [hk', show n + (k + 2 + 1) = k + 2 + 1 + n from by omega] at hU
      exact hU
    have e1 := wv_take' (u.drop n) (k + 2)
    rw [e0, wv_take' _ (k + 1), wv_take' _ k, wgetD_drop, wgetD_drop, wgetD_drop] at e1
    rw [show k + 2 - 2 = k from by omega, e1, Nat.pow_succ, Nat.pow_succ]
    grind
theorem getD_end {v : List Nat} {i : Nat} (h : v.length ≤ i) : v.getD i 0 = 0 := by rw [List.getD_eq_getElem?_getD, List.getElem?_eq_none h]; rfl
theorem WMS.last {u v : List Nat} (hv : wOK v) {g j : Nat} {u' : List Nat} {c b : Nat} (h : WMS u v g j v.length u' c b) (hg : g < 4294967296) (hi : j + v.length < u.length) :
    WMS u v g j (v.length + 1) (u'.set (j + v.length) ((u'.getD (j + v.length) 0 + 8589934592 - c - b) % 4294967296)) 0 (if u'.getD (j + v.length) 0 < c + b then 1 else 0) := by
  have := h.step hv hg hi
  have hc := h.cl
  rw [getD_end (Nat.le_refl _), Nat.mul_zero, Nat.zero_add, Nat.mod_eq_of_lt hc, Nat.div_eq_of_lt hc] at this
  exact this
theorem WMS.pos {u v : List Nat} (hu : wOK u) {g j : Nat} {u' : List Nat} (h : WMS u v g j (v.length + 1) u' 0 1) (hU : wv u < 4294967296 ^ (j + (v.length + 1))) : 0 < g := by
  rcases Nat.eq_zero_or_pos g with h0 | h0
  · subst h0
    have h1 := wv_lt_of_drop hu h.ok h.hi hU
    have h2 := h.val
    simp only [Nat.zero_mul, Nat.add_zero, Nat.zero_add, Nat.one_mul] at h2
    omega
  · exact h0
theorem WAB.last {u v : List Nat} (hv : wOK v) {j : Nat} {u' : List Nat} {c : Nat} (h : WAB u v j v.length u' c) (hi : j + v.length < u.length) :
    WAB u v j (v.length + 1) (u'.set (j + v.length) ((u'.getD (j + v.length) 0 + c) % 4294967296)) ((u'.getD (j + v.length) 0 + c) / 4294967296) := by
  have := h.step hv hi
  rw [getD_end (Nat.le_refl _), Nat.add_zero] at this
  exact this
theorem guess_start {U V top v1 v2 u2 w : Nat} (hV : (v1 * 4294967296 + v2) * w ≤ V) (hU : U < (top * 4294967296 + u2 + 1) * w) (h1 : 0 < v1) (h2 : u2 < 4294967296) : U < (top / v1 + 1) * V := by
  have hd := Nat.div_add_mod top v1
  have hm := Nat.mod_lt top h1
  have e1 : (top / v1 + 1) * ((v1 * 4294967296 + v2) * w) ≤ (top / v1 + 1) * V := Nat.mul_le_mul_left _ hV
  have e2 : (top * 4294967296 + u2 + 1) * w ≤ (top / v1 + 1) * ((v1 * 4294967296 + v2) * w) := by
    rw [← Nat.mul_assoc]
    refine Nat.mul_le_mul_right _ ?_
    generalize top / v1 = g at *
    have e3 : (g + 1) * (v1 * 4294967296 + v2) = (v1 * g + v1) * 4294967296 + (g + 1) * v2 := by grind
    rw [e3]; omega
  omega
theorem wfix_take (k n : Nat) : (wfix (k + 1) n).take k = wfix k n := by
  rw [wfix_snoc, List.take_append_of_le_length (by rw [wfix_length]; omega), List.take_of_length_le (by rw [wfix_length]; omega)]
theorem wfix_getD {k m : Nat} (n : Nat) (h : m < k) : (wfix k n).getD m 0 = n / 4294967296 ^ m % 4294967296 := by
  rw [wv_get (wfix_ok _ _), wv_wfix]
  obtain ⟨d, rfl⟩ : ∃ d, k = m + (d + 1) := ⟨k - m - 1, by omega⟩
  rw [Nat.pow_add, Nat.mod_mul, Nat.add_mul_div_left _ _ (pow_pos m), Nat.div_eq_of_lt (Nat.mod_lt _ (pow_pos m)), Nat.zero_add, Nat.pow_succ, Nat.mul_comm _ 4294967296, Nat.mod_mul_right_mod]
theorem list_getD {a b : List Nat} (hl : a.length = b.length) (h : ∀ m, m < a.length → a.getD m 0 = b.getD m 0) : a = b := by
  apply List.ext_getElem hl
  intro i h1 h2
  have := h i h1
  rwa [getD_get h1, getD_get h2] at this
theorem shr_digit {u : List Nat} {n : Nat} (hn : n ≤ 31) (i : Nat) (hu : wOK u) : (u.getD (i + 1) 0 * 4294967296 + u.getD i 0) / 2 ^ n % 4294967296 = wv u / 2 ^ n / 4294967296 ^ i % 4294967296 := by
  rw [Nat.div_div_eq_div_mul, Nat.mul_comm (2 ^ n), ← Nat.div_div_eq_div_mul, ← wv_drop hu, wv_drop_succ, wv_drop_succ]
  have e : 4294967296 = 2 ^ n * 2 ^ (32 - n) := by rw [← Nat.pow_add, show n + (32 - n) = 32 from by omega]
  have e1 : u.getD i 0 + 4294967296 * (u.getD (i + 1) 0 + 4294967296 * wv (u.drop (i + 1 + 1))) = (u.getD (i + 1) 0 * 4294967296 + u.getD i 0) + 2 ^ n * (4294967296 * (2 ^ (32 - n) * wv (u.drop (i + 1 + 1)))) := by
    generalize wv (u.drop (i + 1 + 1)) = z
    have : 2 ^ n * (4294967296 * (2 ^ (32 - n) * z)) = 4294967296 * ((2 ^ n * 2 ^ (32 - n)) * z) := by grind
    rw [this, ← e]; omega
  rw [e1, Nat.add_mul_div_left _ _ (Nat.two_pow_pos n), Nat.add_mul_mod_self_left]
/-- Quotient and remainder as words. -/
def divQ (a b : List Nat) : List Nat := if wv a < wv b then [] else if b.length = 1 then wfix a.length (wv a / wv b) else wfix (a.length + 1 - b.length) (wv a / wv b)
def divR (a b : List Nat) : List Nat := if wv a < wv b then a else if b.length = 1 then [wv a % wv b] else wfix b.length (wv a % wv b)
theorem divQ_ok (a b : List Nat) : wOK (divQ a b) := by
  unfold divQ; split
  · exact wOK.nil
  · split <;> exact wfix_ok _ _
theorem divQ_len (a b : List Nat) : (divQ a b).length ≤ a.length + 1 := by
  unfold divQ; split
  · simp
  · split <;> rw [wfix_length] <;> omega
theorem divR_ok {a b : List Nat} (ha : wOK a) (hb : wOK b) (hn : b ≠ []) (t : wTop b) : wOK (divR a b) := by
  unfold divR; split
  · exact ha
  · split
    · refine wOK.one ?_
      have h1 := wv_ge t hn
      have h2 := wv_lt hb
      rename_i h3
      have h4 : 0 < wv b := Nat.lt_of_lt_of_le (pow_pos _) h1
      rw [h3, Nat.pow_one] at h2
      exact Nat.lt_trans (Nat.mod_lt _ h4) h2
    · exact wfix_ok _ _
theorem divR_len (a b : List Nat) : (divR a b).length ≤ a.length + b.length := by
  unfold divR; split
  · omega
  · split
    · simp; omega
    · rw [wfix_length]; omega
theorem divR_wv {a b : List Nat} (hb : wOK b) (hn : b ≠ []) (t : wTop b) : wv (divR a b) = wv a % wv b := by
  have h1 := wv_ge t hn
  have h4 : 0 < wv b := Nat.lt_of_lt_of_le (pow_pos _) h1
  unfold divR; split
  · rename_i h; rw [Nat.mod_eq_of_lt h]
  · split
    · simp [wv]
    · rw [wv_wfix, Nat.mod_eq_of_lt]
      exact Nat.lt_trans (Nat.mod_lt _ h4) (wv_lt hb)
theorem divQ_wv {a b : List Nat} (ha : wOK a) (hn : b ≠ []) (t : wTop b) : wv (divQ a b) = wv a / wv b := by
  have h1 := wv_ge t hn
  have h4 : 0 < wv b := Nat.lt_of_lt_of_le (pow_pos _) h1
  have h2 := wv_lt ha
  unfold divQ; split
  · rename_i h; rw [Nat.div_eq_of_lt h]; rfl
  · rename_i h
    split
    · rw [wv_wfix, Nat.mod_eq_of_lt]
      exact Nat.lt_of_le_of_lt (Nat.div_le_self _ _) h2
    · rw [wv_wfix, Nat.mod_eq_of_lt]
      rw [Nat.div_lt_iff_lt_mul h4]
      have hl : b.length ≤ a.length + 1 := by
        rcases Nat.lt_or_ge (a.length + 1) b.length with h' | h'
        · have : 4294967296 ^ a.length ≤ 4294967296 ^ (b.length - 1) := Nat.pow_le_pow_right (by decide) (by omega)
          omega
        · exact h'
      have hbl : b.length ≠ 0 := by simpa using hn
      have : 4294967296 ^ (a.length + 1 - b.length) * 4294967296 ^ (b.length - 1) ≤ 4294967296 ^ (a.length + 1 - b.length) * wv b := Nat.mul_le_mul_left _ h1
      rw [← Nat.pow_add, show a.length + 1 - b.length + (b.length - 1) = a.length from by omega] at this
      omega
end Go.Proofs.YtipenembpidoiaaGreatDoor

/- Rationals: numerators and denominators, and how many words they have. No condition. -/
namespace Go.Proofs.YtipenembpidoiaaGreatDoor

/-- The number of words of an integer. -/
def zl (z : Int) : Nat := wl z.natAbs
theorem zl_neg (z : Int) : zl (-z) = zl z := by unfold zl; rw [Int.natAbs_neg]
theorem zl_mul (x y : Int) : zl (x * y) ≤ zl x + zl y := by unfold zl; rw [Int.natAbs_mul]; exact wl_mul _ _
theorem zl_add (x y : Int) : zl (x + y) ≤ max (zl x) (zl y) + 1 := by
  unfold zl
  exact Nat.le_trans (wl_mono (Int.natAbs_add_le x y)) (wl_add _ _)
theorem zl_sub (x y : Int) : zl (x - y) ≤ max (zl x) (zl y) + 1 := by
  have := zl_add x (-y)
  rwa [zl_neg, ← Int.sub_eq_add_neg] at this
theorem zl_nat (n : Nat) : zl (n : Int) = wl n := by unfold zl; rw [Int.natAbs_natCast]
theorem wl_pos {n : Nat} (h : 0 < n) : 1 ≤ wl n := by
  unfold wl
  have := List.length_pos_iff.2 (fun h' => by rw [wof_nil] at h'; omega : wof n ≠ [])
  exact this
theorem wl_one : wl 1 = 1 := by
  have := wl_le (n := 1) (k := 1) (by decide)
  have := wl_pos (n := 1) (by decide)
  omega
theorem zl_i64 {n : Int} (h : -9223372036854775808 ≤ n ∧ n ≤ 9223372036854775807) : zl n ≤ 2 := by
  unfold zl
  exact wl_le (by show n.natAbs < 18446744073709551616; omega)

/-- The number of words of a rational. -/
def ql (q : Rat) : Nat := max (zl q.num) (wl q.den)
theorem ql_num (q : Rat) : zl q.num ≤ ql q := Nat.le_max_left _ _
theorem ql_den (q : Rat) : zl (q.den : Int) ≤ ql q := by rw [zl_nat]; exact Nat.le_max_right _ _
theorem ql_pos (q : Rat) : 1 ≤ ql q := Nat.le_trans (wl_pos (Nat.pos_of_ne_zero q.den_nz)) (Nat.le_max_right _ _)
theorem natAbs_ediv_le (x : Int) (g : Nat) : (x / (g : Int)).natAbs ≤ x.natAbs := by
  rcases Nat.eq_zero_or_pos g with h | h
  · subst h; simp
  · exact Int.natAbs_ediv_le_natAbs x g
theorem ql_divInt (x y : Int) : ql (Rat.divInt x y) ≤ max 1 (max (zl x) (zl y)) := by
  unfold ql
  have h1 : zl (Rat.divInt x y).num ≤ zl x := by
    unfold zl
    refine wl_mono ?_
    rw [Rat.num_divInt]
    refine Nat.le_trans (natAbs_ediv_le _ _) ?_
    rw [Int.natAbs_mul]
    have : y.sign.natAbs ≤ 1 := by
      rcases Int.lt_trichotomy y 0 with h | h | h
      · rw [Int.sign_eq_neg_one_of_neg h]; decide
      · subst h; decide
      · rw [Int.sign_eq_one_of_pos h]; decide
    calc y.sign.natAbs * x.natAbs ≤ 1 * x.natAbs := Nat.mul_le_mul_right _ this
      _ = x.natAbs := Nat.one_mul _
  have h2 : wl (Rat.divInt x y).den ≤ max 1 (zl y) := by
    rw [Rat.den_divInt]
    split
    · rw [wl_one]; omega
    · unfold zl
      exact Nat.le_trans (wl_mono (Nat.div_le_self _ _)) (Nat.le_max_right _ _)
  omega
theorem divInt_add (a b : Rat) : a + b = Rat.divInt (a.num * b.den + b.num * a.den) ((a.den : Int) * b.den) := by
  rw [Rat.add_def', ← Rat.divInt_ofNat]; rfl
theorem divInt_mul (a b : Rat) : a * b = Rat.divInt (a.num * b.num) ((a.den : Int) * b.den) := by
  rw [Rat.mul_def', ← Rat.divInt_ofNat]; rfl
theorem divInt_self (a : Rat) : Rat.divInt a.num a.den = a := Rat.num_divInt_den a
theorem ql_add (a b : Rat) : ql (a + b) ≤ ql a + ql b + 1 := by
  rw [divInt_add]
  refine Nat.le_trans (ql_divInt _ _) ?_
  have h1 := zl_add (a.num * b.den) (b.num * a.den)
  have h2 := zl_mul a.num b.den
  have h3 := zl_mul b.num a.den
  have h4 := zl_mul a.den b.den
  have h5 := ql_num a
  have h6 := ql_den a
  have h7 := ql_num b
  have h8 := ql_den b
  omega
theorem ql_mul (a b : Rat) : ql (a * b) ≤ ql a + ql b := by
  rw [divInt_mul]
  refine Nat.le_trans (ql_divInt _ _) ?_
  have h2 := zl_mul a.num b.num
  have h4 := zl_mul a.den b.den
  have h5 := ql_num a
  have h6 := ql_den a
  have h7 := ql_num b
  have h8 := ql_den b
  have h9 := ql_pos a
  omega
theorem ql_neg (a : Rat) : ql (-a) = ql a := by
  unfold ql
  rw [Rat.neg_num, Rat.neg_den, zl_neg]
theorem ql_sub (a b : Rat) : ql (a - b) ≤ ql a + ql b + 1 := by
  have := ql_add a (-b)
  rwa [ql_neg, ← Rat.sub_eq_add_neg] at this
theorem ql_int (n : Int) : ql (n : Rat) = max (zl n) 1 := by
  unfold ql
  rw [Rat.num_intCast, Rat.den_intCast, wl_one]
theorem divInt_one (n : Int) : Rat.divInt n 1 = (n : Rat) := by
  rw [Rat.divInt_eq_div]
  show (n : Rat) / ((1 : Int) : Rat) = n
  rw [Rat.intCast_one]
  grind
/-- The sign's side: numerator and denominator of a quotient. -/
theorem num_gcd (x y : Int) : (Rat.divInt x y).num = (y.sign * x) / (Int.gcd x y : Int) := by rw [Rat.num_divInt, Int.gcd_comm]
theorem den_gcd {x y : Int} (h : y ≠ 0) : ((Rat.divInt x y).den : Int) = (y.natAbs : Int) / (Int.gcd x y : Int) := by
  rw [Rat.den_divInt, if_neg h, Int.gcd_comm]; rfl
/-! ### Bounds put together -/
theorem le_d {a k m : Nat} (h : a ≤ k) (hk : Nat.ble k m = true) : a ≤ m := Nat.le_trans h (Nat.le_of_ble_eq_true hk)
theorem zl_mul_le {x y : Int} {k l : Nat} (hx : zl x ≤ k) (hy : zl y ≤ l) : zl (x * y) ≤ k + l := Nat.le_trans (zl_mul x y) (Nat.add_le_add hx hy)
theorem zl_add_le {x y : Int} {k : Nat} (hx : zl x ≤ k) (hy : zl y ≤ k) : zl (x + y) ≤ k + 1 := Nat.le_trans (zl_add x y) (Nat.add_le_add_right (Nat.max_le.2 ⟨hx, hy⟩) 1)
theorem zl_sub_le {x y : Int} {k : Nat} (hx : zl x ≤ k) (hy : zl y ≤ k) : zl (x - y) ≤ k + 1 := Nat.le_trans (zl_sub x y) (Nat.add_le_add_right (Nat.max_le.2 ⟨hx, hy⟩) 1)
theorem ql_mul_le {x y : Rat} {k l : Nat} (hx : ql x ≤ k) (hy : ql y ≤ l) : ql (x * y) ≤ k + l := Nat.le_trans (ql_mul x y) (Nat.add_le_add hx hy)
theorem ql_add_le {x y : Rat} {k l : Nat} (hx : ql x ≤ k) (hy : ql y ≤ l) : ql (x + y) ≤ k + l + 1 := Nat.le_trans (ql_add x y) (Nat.add_le_add_right (Nat.add_le_add hx hy) 1)
theorem ql_sub_le {x y : Rat} {k l : Nat} (hx : ql x ≤ k) (hy : ql y ≤ l) : ql (x - y) ≤ k + l + 1 := Nat.le_trans (ql_sub x y) (Nat.add_le_add_right (Nat.add_le_add hx hy) 1)
theorem ql_neg_le {x : Rat} {k : Nat} (hx : ql x ≤ k) : ql (-x) ≤ k := by rw [ql_neg]; exact hx
theorem ql_num_le {x : Rat} {k : Nat} (hx : ql x ≤ k) : zl x.num ≤ k := Nat.le_trans (ql_num x) hx
theorem ql_den_le {x : Rat} {k : Nat} (hx : ql x ≤ k) : zl (x.den : Int) ≤ k := Nat.le_trans (ql_den x) hx
theorem ql_divInt_le {x y : Int} {k : Nat} (hk : Nat.ble 1 k = true) (hx : zl x ≤ k) (hy : zl y ≤ k) : ql (Rat.divInt x y) ≤ k :=
  Nat.le_trans (ql_divInt x y) (Nat.max_le.2 ⟨Nat.le_of_ble_eq_true hk, Nat.max_le.2 ⟨hx, hy⟩⟩)
end Go.Proofs.YtipenembpidoiaaGreatDoor

/- Rotations as pairs of integers. No condition. -/
namespace Go.Proofs.YtipenembpidoiaaGreatDoor

/-- Is the pair on the wrong side? -/
def rneg (p q : Int) : Bool := decide (q < 0) || (decide (q = 0) && decide (p < 0))
/-- By what a pair is divided. -/
def rg (p q : Int) : Int := if rneg p q then -(Int.gcd p q : Int) else (Int.gcd p q : Int)
/-- The canonical pair. -/
def rP (p q : Int) : Int := if p = 0 ∧ q = 0 then 0 else p / rg p q
def rQ (p q : Int) : Int := if p = 0 ∧ q = 0 then 1 else q / rg p q

theorem gcd_ne {p q : Int} (h : ¬ (p = 0 ∧ q = 0)) : (Int.gcd p q : Int) ≠ 0 := by
  intro h'
  have := Int.gcd_eq_zero_iff.1 (by omega : Int.gcd p q = 0)
  exact h this
theorem rg_ne {p q : Int} (h : ¬ (p = 0 ∧ q = 0)) : rg p q ≠ 0 := by
  have := gcd_ne h
  unfold rg; split <;> omega
theorem rg_dvd (p q : Int) : rg p q ∣ p ∧ rg p q ∣ q := by
  have h1 : (Int.gcd p q : Int) ∣ p := Int.gcd_dvd_left ..
  have h2 : (Int.gcd p q : Int) ∣ q := Int.gcd_dvd_right ..
  unfold rg
  split
  · exact ⟨Int.neg_dvd.2 h1, Int.neg_dvd.2 h2⟩
  · exact ⟨h1, h2⟩
theorem rPQ_mul {p q : Int} (h : ¬ (p = 0 ∧ q = 0)) : rP p q * rg p q = p ∧ rQ p q * rg p q = q := by
  unfold rP rQ
  rw [if_neg h, if_neg h]
  exact ⟨Int.ediv_mul_cancel (rg_dvd p q).1, Int.ediv_mul_cancel (rg_dvd p q).2⟩
theorem rPQ_ne (p q : Int) : ¬ (rP p q = 0 ∧ rQ p q = 0) := by
  by_cases h : p = 0 ∧ q = 0
  · unfold rP rQ; rw [if_pos h, if_pos h]; omega
  · intro h'
    have := rPQ_mul h
    rw [h'.1, h'.2] at this
    omega
theorem natAbs_rg (p q : Int) : (rg p q).natAbs = Int.gcd p q := by unfold rg; split <;> omega
theorem natAbs_rdiv (x p q : Int) : (x / rg p q).natAbs ≤ x.natAbs := by
  unfold rg
  split
  · rw [Int.ediv_neg, Int.natAbs_neg]; exact natAbs_ediv_le x _
  · exact natAbs_ediv_le x _
theorem zl_rP (p q : Int) : zl (rP p q) ≤ max 1 (zl p) := by
  unfold rP
  split
  · simp [zl, wl, wof_zero]
  · exact Nat.le_trans (wl_mono (natAbs_rdiv p p q)) (Nat.le_max_right _ _)
theorem zl_rQ (p q : Int) : zl (rQ p q) ≤ max 1 (zl q) := by
  unfold rQ
  split
  · show wl 1 ≤ _; rw [wl_one]; omega
  · exact Nat.le_trans (wl_mono (natAbs_rdiv q p q)) (Nat.le_max_right _ _)
theorem zl_rP_le {p q : Int} {k : Nat} (hk : Nat.ble 1 k = true) (hp : zl p ≤ k) : zl (rP p q) ≤ k := Nat.le_trans (zl_rP p q) (Nat.max_le.2 ⟨Nat.le_of_ble_eq_true hk, hp⟩)
theorem zl_rQ_le {p q : Int} {k : Nat} (hk : Nat.ble 1 k = true) (hq : zl q ≤ k) : zl (rQ p q) ≤ k := Nat.le_trans (zl_rQ p q) (Nat.max_le.2 ⟨Nat.le_of_ble_eq_true hk, hq⟩)
theorem rP0 : rP 0 0 = 0 := rfl
theorem rQ0 : rQ 0 0 = 1 := rfl

/-- A product of pairs is not zero. -/
theorem rmul_ne {p q r s : Int} (h : ¬ (p = 0 ∧ q = 0)) (k : ¬ (r = 0 ∧ s = 0)) : ¬ (q * r + p * s = 0 ∧ q * s - p * r = 0) := by
  rintro ⟨h1, h2⟩
  have e : (p * p + q * q) * (r * r + s * s) = (q * r + p * s) * (q * r + p * s) + (q * s - p * r) * (q * s - p * r) := by grind
  rw [h1, h2] at e
  have e' : (p * p + q * q) * (r * r + s * s) = 0 := by rw [e]; rfl
  have sq : ∀ x : Int, 0 ≤ x * x := fun x => by
    rcases Int.le_total 0 x with h | h
    · exact Int.mul_nonneg h h
    · exact Int.mul_nonneg_of_nonpos_of_nonpos h h
  rcases Int.mul_eq_zero.1 e' with h' | h'
  · have a := sq p
    have b := sq q
    have : p * p = 0 := by omega
    have : q * q = 0 := by omega
    exact h ⟨by rcases Int.mul_eq_zero.1 ‹p * p = 0› with h | h <;> exact h, by rcases Int.mul_eq_zero.1 ‹q * q = 0› with h | h <;> exact h⟩
  · have a := sq r
    have b := sq s
    have : r * r = 0 := by omega
    have : s * s = 0 := by omega
    exact k ⟨by rcases Int.mul_eq_zero.1 ‹r * r = 0› with h | h <;> exact h, by rcases Int.mul_eq_zero.1 ‹s * s = 0› with h | h <;> exact h⟩

/-- Cosine and sine of a pair. -/
def cosR (p q : Int) : Rat := Rat.divInt (rQ p q * rQ p q - rP p q * rP p q) (rQ p q * rQ p q + rP p q * rP p q)
def sinR (p q : Int) : Rat := Rat.divInt (rQ p q * rP p q + rP p q * rQ p q) (rQ p q * rQ p q + rP p q * rP p q)
/-- One rotation after the other. -/
def thP (p q r s : Int) : Int := rP (rQ p q * rP r s + rP p q * rQ r s) (rQ p q * rQ r s - rP p q * rP r s)
def thQ (p q r s : Int) : Int := rQ (rQ p q * rP r s + rP p q * rQ r s) (rQ p q * rQ r s - rP p q * rP r s)
theorem ql_cos (p q : Int) {k : Nat} (hp : zl p ≤ k) (hq : zl q ≤ k) (hk : 1 ≤ k) : ql (cosR p q) ≤ 2 * k + 1 := by
  have h1 := zl_rP p q
  have h2 := zl_rQ p q
  refine Nat.le_trans (ql_divInt _ _) ?_
  have m1 := zl_mul (rQ p q) (rQ p q)
  have m2 := zl_mul (rP p q) (rP p q)
  have m3 := zl_sub (rQ p q * rQ p q) (rP p q * rP p q)
  have m4 := zl_add (rQ p q * rQ p q) (rP p q * rP p q)
  omega
theorem ql_sin (p q : Int) {k : Nat} (hp : zl p ≤ k) (hq : zl q ≤ k) (hk : 1 ≤ k) : ql (sinR p q) ≤ 2 * k + 1 := by
  have h1 := zl_rP p q
  have h2 := zl_rQ p q
  refine Nat.le_trans (ql_divInt _ _) ?_
  have m1 := zl_mul (rQ p q) (rQ p q)
  have m2 := zl_mul (rP p q) (rP p q)
  have m5 := zl_mul (rQ p q) (rP p q)
  have m6 := zl_mul (rP p q) (rQ p q)
  have m3 := zl_add (rQ p q * rP p q) (rP p q * rQ p q)
  have m4 := zl_add (rQ p q * rQ p q) (rP p q * rP p q)
  omega
theorem zl_th (p q r s : Int) {k l : Nat} (hp : zl p ≤ k) (hq : zl q ≤ k) (hr : zl r ≤ l) (hs : zl s ≤ l) (hk : 1 ≤ k) (hl : 1 ≤ l) : zl (thP p q r s) ≤ k + l + 1 ∧ zl (thQ p q r s) ≤ k + l + 1 := by
  have h1 := zl_rP p q
  have h2 := zl_rQ p q
  have h3 := zl_rP r s
  have h4 := zl_rQ r s
  have m1 := zl_mul (rQ p q) (rP r s)
  have m2 := zl_mul (rP p q) (rQ r s)
  have m3 := zl_mul (rQ p q) (rQ r s)
  have m4 := zl_mul (rP p q) (rP r s)
  have m5 := zl_add (rQ p q * rP r s) (rP p q * rQ r s)
  have m6 := zl_sub (rQ p q * rQ r s) (rP p q * rP r s)
  unfold thP thQ
  have a := zl_rP (rQ p q * rP r s + rP p q * rQ r s) (rQ p q * rQ r s - rP p q * rP r s)
  have b := zl_rQ (rQ p q * rP r s + rP p q * rQ r s) (rQ p q * rQ r s - rP p q * rP r s)
  omega
end Go.Proofs.YtipenembpidoiaaGreatDoor

/- Roots of a forest over numbers, and the numbers of its trees. No condition. -/
namespace Go.Proofs.YtipenembpidoiaaGreatDoor

/-- Following the roots, at most k steps. -/
def fnd (r : List Nat) : Nat → Nat → Nat
  | 0, v => v
  | k + 1, v => if r.getD v 0 = v then v else fnd r k (r.getD v 0)
/-- The root above v. -/
def fd (r : List Nat) (v : Nat) : Nat := fnd r v v
def RG (r : List Nat) : Prop := ∀ v, r.getD v 0 ≤ v
theorem fnd_fuel {r : List Nat} (h : RG r) : ∀ v k, v ≤ k → fnd r k v = fd r v := by
  intro v
  induction v using Nat.strongRecOn with
  | _ v ih =>
    intro k hk
    by_cases hv : r.getD v 0 = v
    · have a : ∀ k, fnd r k v = v := by intro k; cases k with | zero => rfl | succ k => rw [fnd, if_pos hv]
      rw [fd, a, a]
    · have hlt : r.getD v 0 < v := by have := h v; omega
      obtain ⟨v', rfl⟩ : ∃ v', v = v' + 1 := ⟨v - 1, by omega⟩
      obtain ⟨k', rfl⟩ : ∃ k', k = k' + 1 := ⟨k - 1, by omega⟩
      rw [fd, fnd, fnd, if_neg hv, if_neg hv, ih _ hlt k' (by omega), ih _ hlt v' (by omega)]
theorem fd_eq {r : List Nat} (h : RG r) (v : Nat) : fd r v = if r.getD v 0 = v then v else fd r (r.getD v 0) := by
  by_cases hv : r.getD v 0 = v
  · rw [if_pos hv, fd]; cases v with | zero => rfl | succ v => rw [fnd, if_pos hv]
  · have hlt : r.getD v 0 < v := by have := h v; omega
    rw [if_neg hv]
    obtain ⟨v', rfl⟩ : ∃ v', v = v' + 1 := ⟨v - 1, by omega⟩
    rw [fd, fnd, if_neg hv, fnd_fuel h _ _ (by omega)]
theorem fd_le {r : List Nat} (h : RG r) (v : Nat) : fd r v ≤ v := by
  induction v using Nat.strongRecOn with
  | _ v ih =>
    rw [fd_eq h]
    by_cases hv : r.getD v 0 = v
    · rw [if_pos hv]; exact Nat.le_refl _
    · rw [if_neg hv]
      have := h v
      have := ih _ (by omega : r.getD v 0 < v)
      omega
theorem fd_root {r : List Nat} (h : RG r) (v : Nat) : r.getD (fd r v) 0 = fd r v := by
  induction v using Nat.strongRecOn with
  | _ v ih =>
    rw [fd_eq h]
    by_cases hv : r.getD v 0 = v
    · rw [if_pos hv]; exact hv
    · rw [if_neg hv]
      have := h v
      exact ih _ (by omega)
/-- The two trees become one. -/
def uni (r : List Nat) (f t : Nat) : List Nat := r.set (max (fd r f) (fd r t)) (min (fd r f) (fd r t))
theorem RG_uni {r : List Nat} (h : RG r) (f t : Nat) : RG (uni r f t) := by
  intro v
  rw [uni, List.getD_eq_getElem?_getD, List.getElem?_set]
  split
  · split
    · rw [Option.getD_some]; omega
    · simp
  · rw [← List.getD_eq_getElem?_getD]; exact h v
theorem uni_length (r : List Nat) (f t : Nat) : (uni r f t).length = r.length := by simp [uni]
theorem uni_comm (r : List Nat) (f t : Nat) : uni r f t = uni r t f := by rw [uni, uni, Nat.max_comm, Nat.min_comm]
theorem RG_range (n : Nat) : RG (List.range n) := by
  intro v
  rw [List.getD_eq_getElem?_getD]
  rcases Nat.lt_or_ge v n with h | h
  · rw [List.getElem?_eq_getElem (by simpa using h)]; simp
  · rw [List.getElem?_eq_none (by simpa using h)]; simp
/-- The numbers of the trees of the first v. -/
def num (r : List Nat) : Nat → List Nat × Nat
  | 0 => ([], 0)
  | v + 1 => if fd r v = v then ((num r v).1 ++ [(num r v).2], (num r v).2 + 1) else ((num r v).1 ++ [(num r v).1.getD (fd r v) 0], (num r v).2)
theorem num_length (r : List Nat) (v : Nat) : (num r v).1.length = v := by
  induction v with
  | zero => rfl
  | succ v ih => rw [num]; split <;> simp [ih]
theorem num_le (r : List Nat) (v : Nat) : (num r v).2 ≤ v := by
  induction v with
  | zero => exact Nat.le_refl _
  | succ v ih => rw [num]; split <;> simp <;> omega
theorem num_lt (r : List Nat) (v : Nat) : ∀ x ∈ (num r v).1, x < v := by
  induction v with
  | zero => intro x hx; cases hx
  | succ v ih =>
    intro x hx
    have h2 := num_le r v
    rw [num] at hx
    split at hx
    · rcases List.mem_append.1 hx with h | h
      · have := ih x h; omega
      · have : x = (num r v).2 := by simpa using h
        omega
    · rcases List.mem_append.1 hx with h | h
      · have := ih x h; omega
      · have : x = (num r v).1.getD (fd r v) 0 := by simpa using h
        rw [List.getD_eq_getElem?_getD] at this
        rcases Nat.lt_or_ge (fd r v) (num r v).1.length with hl | hl
        · rw [List.getElem?_eq_getElem hl] at this
          have := ih x (this ▸ List.getElem_mem hl); omega
        · rw [List.getElem?_eq_none hl] at this; simp at this; omega
end Go.Proofs.YtipenembpidoiaaGreatDoor

/- Components of a graph: the least member of each, by joined trees and by repeated minima. No condition. -/
namespace Go.Proofs.YtipenembpidoiaaGreatDoor

/-- Two numbers are joined by the pairs. -/
inductive Cnn (ps : List (Nat × Nat)) : Nat → Nat → Prop
  | refl (a : Nat) : Cnn ps a a
  | step {a b c : Nat} (h : Cnn ps a b) (hp : (b, c) ∈ ps ∨ (c, b) ∈ ps) : Cnn ps a c
section
variable {ps : List (Nat × Nat)} {a b c : Nat}
theorem Cnn.trans (h : Cnn ps a b) (h' : Cnn ps b c) : Cnn ps a c := by
  induction h' with
  | refl => exact h
  | step _ hp ih => exact .step ih hp
theorem Cnn.one (hp : (a, b) ∈ ps ∨ (b, a) ∈ ps) : Cnn ps a b := .step (.refl a) hp
theorem Cnn.symm (h : Cnn ps a b) : Cnn ps b a := by
  induction h with
  | refl => exact .refl _
  | step _ hp ih => exact (Cnn.one hp.symm).trans ih
theorem Cnn.mono {qs : List (Nat × Nat)} (hs : ∀ p ∈ ps, p ∈ qs) (h : Cnn ps a b) : Cnn qs a b := by
  induction h with
  | refl => exact .refl _
  | step _ hp ih => exact .step ih (hp.imp (hs _) (hs _))
theorem Cnn.nil (h : Cnn [] a b) : a = b := by
  induction h with
  | refl => rfl
  | step _ hp _ => rcases hp with hp | hp <;> cases hp
theorem Cnn.lt {n : Nat} (hn : ∀ p ∈ ps, p.1 < n ∧ p.2 < n) (h : Cnn ps a b) (ha : a < n) : b < n := by
  induction h with
  | refl => exact ha
  | step _ hp _ => exact hp.elim (fun hp => (hn _ hp).2) (fun hp => (hn _ hp).1)
theorem Cnn.snoc {f t : Nat} : Cnn (ps ++ [(f, t)]) a b ↔ Cnn ps a b ∨ (Cnn ps a f ∧ Cnn ps t b) ∨ (Cnn ps a t ∧ Cnn ps f b) := by
  constructor
  · intro h
    induction h with
    | refl => exact Or.inl (.refl _)
    | step _ hp ih =>
      have key : ∀ {x y : Nat}, (x, y) ∈ ps ++ [(f, t)] ∨ (y, x) ∈ ps ++ [(f, t)] → Cnn ps x y ∨ (x = f ∧ y = t) ∨ (x = t ∧ y = f) := by
        intro x y h
        simp only [List.mem_append, List.mem_singleton, Prod.mk.injEq] at h
        rcases h with (h | h) | (h | h)
        · exact Or.inl (.one (Or.inl h))
        · exact Or.inr (Or.inl h)
        · exact Or.inl (.one (Or.inr h))
        · exact Or.inr (Or.inr ⟨h.2, h.1⟩)
      rcases key hp with h | ⟨rfl, rfl⟩ | ⟨rfl, rfl⟩
      · rcases ih with i | i | i
        · exact Or.inl (i.trans h)
        · exact Or.inr (Or.inl ⟨i.1, i.2.trans h⟩)
        · exact Or.inr (Or.inr ⟨i.1, i.2.trans h⟩)
      · rcases ih with i | i | i
        · exact Or.inr (Or.inl ⟨i, .refl _⟩)
        · exact Or.inr (Or.inl ⟨i.1, .refl _⟩)
        · exact Or.inl i.1
      · rcases ih with i | i | i
        · exact Or.inr (Or.inr ⟨i, .refl _⟩)
        · exact Or.inl i.1
        · exact Or.inr (Or.inr ⟨i.1, .refl _⟩)
  · have s : ∀ p ∈ ps, p ∈ ps ++ [(f, t)] := fun p hp => List.mem_append_left _ hp
    have e : Cnn (ps ++ [(f, t)]) f t := .one (Or.inl (by simp))
    rintro (h | h | h)
    · exact h.mono s
    · exact ((h.1.mono s).trans e).trans (h.2.mono s)
    · exact ((h.1.mono s).trans e.symm).trans (h.2.mono s)
end

theorem fd_idem {r : List Nat} (h : RG r) (v : Nat) : fd r (fd r v) = fd r v := by
  rw [fd_eq h (fd r v), if_pos (fd_root h v)]
theorem getD_setN {r : List Nat} {i j x : Nat} (hi : i < r.length) : (r.set i x).getD j 0 = if j = i then x else r.getD j 0 := by
  rw [List.getD_eq_getElem?_getD, List.getElem?_set, List.getD_eq_getElem?_getD]
  by_cases h : i = j
  · subst h; rw [if_pos rfl, if_pos rfl, if_pos hi]; rfl
  · rw [if_neg h, if_neg (fun e => h e.symm)]
theorem fd_uni {r : List Nat} (h : RG r) {f t : Nat} (hf : fd r f < r.length) (ht : fd r t < r.length) (v : Nat) : fd (uni r f t) v = if fd r v = max (fd r f) (fd r t) then min (fd r f) (fd r t) else fd r v := by
  have hu := RG_uni h f t
  have hm : max (fd r f) (fd r t) < r.length := by omega
  have hroot : r.getD (max (fd r f) (fd r t)) 0 = max (fd r f) (fd r t) := by
    rcases Nat.le_total (fd r f) (fd r t) with hl | hl
    · rw [Nat.max_eq_right hl]; exact fd_root h t
    · rw [Nat.max_eq_left hl]; exact fd_root h f
  have hmin : r.getD (min (fd r f) (fd r t)) 0 = min (fd r f) (fd r t) := by
    rcases Nat.le_total (fd r f) (fd r t) with hl | hl
    · rw [Nat.min_eq_left hl]; exact fd_root h f
    · rw [Nat.min_eq_right hl]; exact fd_root h t
  have hg : ∀ j, (uni r f t).getD j 0 = if j = max (fd r f) (fd r t) then min (fd r f) (fd r t) else r.getD j 0 := fun j => getD_setN hm
  have hmm : fd (uni r f t) (min (fd r f) (fd r t)) = min (fd r f) (fd r t) := by
    rw [fd_eq hu, hg]
    by_cases e : min (fd r f) (fd r t) = max (fd r f) (fd r t)
    · rw [if_pos e, if_pos rfl]
    · rw [if_neg e, if_pos hmin]
  induction v using Nat.strongRecOn with
  | _ v ih =>
    by_cases hv : v = max (fd r f) (fd r t)
    · have e1 : fd r v = v := by rw [fd_eq h, hv, if_pos hroot]
      rw [e1, if_pos hv, fd_eq hu, hg, if_pos hv]
      by_cases e : min (fd r f) (fd r t) = v
      · rw [if_pos e]; exact e.symm
      · rw [if_neg e]; exact hmm
    · rw [fd_eq hu, hg, if_neg hv]
      by_cases hr : r.getD v 0 = v
      · have e1 : fd r v = v := by rw [fd_eq h, if_pos hr]
        rw [if_pos hr, e1, if_neg hv]
      · have hlt : r.getD v 0 < v := by have := h v; omega
        have e1 : fd r v = fd r (r.getD v 0) := by rw [fd_eq h v, if_neg hr]
        rw [if_neg hr, ih _ hlt, e1]

/-- All pairs joined. -/
def uniL (n : Nat) (ps : List (Nat × Nat)) : List Nat := ps.foldl (fun r p => uni r p.1 p.2) (List.range n)
theorem uniL_ok (n : Nat) (ps : List (Nat × Nat)) : RG (uniL n ps) ∧ (uniL n ps).length = n := by
  have : ∀ (ps : List (Nat × Nat)) (r : List Nat), RG r → RG (ps.foldl (fun r p => uni r p.1 p.2) r) ∧ (ps.foldl (fun r p => uni r p.1 p.2) r).length = r.length := by
    intro ps
    induction ps with
    | nil => intro r h; exact ⟨h, rfl⟩
    | cons p ps ih =>
      intro r h
      have := ih _ (RG_uni h p.1 p.2)
      rw [uni_length] at this
      exact this
  have h := this ps (List.range n) (RG_range n)
  rw [List.length_range] at h
  exact h
theorem uniL_snoc (n : Nat) (ps : List (Nat × Nat)) (p : Nat × Nat) : uniL n (ps ++ [p]) = uni (uniL n ps) p.1 p.2 := by
  rw [uniL, List.foldl_append]; rfl
theorem fd_range {n v : Nat} (h : v < n) : fd (List.range n) v = v := by
  rw [fd_eq (RG_range n), List.getD_eq_getElem?_getD, List.getElem?_range h]; simp
theorem snocInd {α : Type} {P : List α → Prop} (h0 : P []) (h1 : ∀ l a, P l → P (l ++ [a])) : ∀ l, P l := by
  intro l
  have : ∀ k, ∀ l : List α, l.length = k → P l := by
    intro k
    induction k with
    | zero => intro l hl; rw [List.length_eq_zero_iff.1 hl]; exact h0
    | succ k ih =>
      intro l hl
      rcases List.eq_nil_or_concat l with rfl | ⟨l', a, rfl⟩
      · exact h0
      · rw [List.concat_eq_append] at *
        exact h1 _ _ (ih _ (by simpa using hl))
  exact this _ l rfl
theorem uniL_iff (n : Nat) (ps : List (Nat × Nat)) (hn : ∀ p ∈ ps, p.1 < n ∧ p.2 < n) : ∀ u v, u < n → v < n → (fd (uniL n ps) u = fd (uniL n ps) v ↔ Cnn ps u v) := by
  induction ps using snocInd with
  | h0 =>
    intro u v hu hv
    have e : uniL n [] = List.range n := rfl
    rw [e, fd_range hu, fd_range hv]
    exact ⟨fun h => h ▸ .refl _, Cnn.nil⟩
  | h1 ps p ih =>
    obtain ⟨f, t⟩ := p
    intro u v hu hv
    have ih := ih fun p hp => hn p (List.mem_append_left _ hp)
    have hp := hn (f, t) (by simp)
    obtain ⟨o1, o2⟩ := uniL_ok n ps
    have lt : ∀ {x}, x < n → fd (uniL n ps) x < (uniL n ps).length := fun hx => by have := fd_le o1 (v := ‹_›); omega
    rw [uniL_snoc, fd_uni o1 (lt hp.1) (lt hp.2), fd_uni o1 (lt hp.1) (lt hp.2), Cnn.snoc, ← ih u v hu hv, ← ih u f hu hp.1, ← ih t v hp.2 hv, ← ih u t hu hp.2, ← ih f v hp.1 hv]
    simp only
    generalize fd (uniL n ps) u = a
    generalize fd (uniL n ps) v = b
    generalize fd (uniL n ps) f = c
    generalize fd (uniL n ps) t = d
    rcases Nat.le_total c d with h | h
    · rw [Nat.max_eq_right h, Nat.min_eq_left h]
      split <;> split <;> omega
    · rw [Nat.max_eq_left h, Nat.min_eq_right h]
      split <;> split <;> omega

/-! ### By repeated minima -/
def rx1 (L : List Nat) (p : Nat × Nat) : List Nat := (L.set p.1 (min (L.getD p.1 0) (L.getD p.2 0))).set p.2 (min (L.getD p.1 0) (L.getD p.2 0))
def rxs (ps : List (Nat × Nat)) (L : List Nat) : List Nat := ps.foldl rx1 L
def rxN (ps : List (Nat × Nat)) : Nat → List Nat → List Nat
  | 0, L => L
  | k + 1, L => rxs ps (rxN ps k L)
theorem rx1_length (L : List Nat) (p : Nat × Nat) : (rx1 L p).length = L.length := by simp [rx1]
theorem rxs_length (ps : List (Nat × Nat)) (L : List Nat) : (rxs ps L).length = L.length := by
  induction ps generalizing L with
  | nil => rfl
  | cons p ps ih => rw [rxs, List.foldl_cons]; exact (ih _).trans (rx1_length _ _)
theorem rxN_length (ps : List (Nat × Nat)) (k : Nat) (L : List Nat) : (rxN ps k L).length = L.length := by
  induction k with
  | zero => rfl
  | succ k ih => rw [rxN, rxs_length, ih]
theorem rx1_get {L : List Nat} {p : Nat × Nat} (h1 : p.1 < L.length) (h2 : p.2 < L.length) (j : Nat) : (rx1 L p).getD j 0 = if j = p.2 ∨ j = p.1 then min (L.getD p.1 0) (L.getD p.2 0) else L.getD j 0 := by
  rw [rx1, getD_setN (by simpa using h2), getD_setN h1]
  by_cases e : j = p.2
  · rw [if_pos e, if_pos (Or.inl e)]
  · rw [if_neg e]
    by_cases e' : j = p.1
    · rw [if_pos e', if_pos (Or.inr e')]
    · rw [if_neg e', if_neg (by omega)]
theorem rx1_le {L : List Nat} {p : Nat × Nat} (h1 : p.1 < L.length) (h2 : p.2 < L.length) (j : Nat) : (rx1 L p).getD j 0 ≤ L.getD j 0 := by
  rw [rx1_get h1 h2]
  split
  · rename_i h; rcases h with rfl | rfl <;> omega
  · exact Nat.le_refl _
theorem rxs_le {n : Nat} : ∀ {ps : List (Nat × Nat)} {L : List Nat}, (∀ p ∈ ps, p.1 < n ∧ p.2 < n) → L.length = n → ∀ j, (rxs ps L).getD j 0 ≤ L.getD j 0
  | [], _, _, _, _ => Nat.le_refl _
  | p :: ps, L, hn, hl, j => by
    have hp := hn p (List.mem_cons_self ..)
    exact Nat.le_trans (rxs_le (ps := ps) (L := rx1 L p) (fun q hq => hn q (List.mem_cons_of_mem _ hq)) (by rw [rx1_length, hl]) j) (rx1_le (by omega) (by omega) j)
/-- M is a lower bound that is the same at both ends of each pair. -/
theorem rxs_ge {n : Nat} {M : Nat → Nat} : ∀ {ps : List (Nat × Nat)} {L : List Nat}, (∀ p ∈ ps, p.1 < n ∧ p.2 < n) → (∀ p ∈ ps, M p.1 = M p.2) → L.length = n → (∀ j, j < n → M j ≤ L.getD j 0) → ∀ j, j < n → M j ≤ (rxs ps L).getD j 0
  | [], _, _, _, _, h => h
  | p :: ps, L, hn, hm, hl, h => by
    have hp := hn p (List.mem_cons_self ..)
    have hq := hm p (List.mem_cons_self ..)
    refine rxs_ge (ps := ps) (L := rx1 L p) (fun q hq => hn q (List.mem_cons_of_mem _ hq)) (fun q hq => hm q (List.mem_cons_of_mem _ hq)) (by rw [rx1_length, hl]) fun j hj => ?_
    rw [rx1_get (by omega) (by omega)]
    split
    · rename_i e
      have := h p.1 hp.1
      have := h p.2 hp.2
      rcases e with rfl | rfl <;> omega
    · exact h j hj
/-- One round: what was done at one end is done at both. -/
theorem rxs_done {n : Nat} {M : Nat → Nat} : ∀ {ps : List (Nat × Nat)} {L : List Nat}, (∀ p ∈ ps, p.1 < n ∧ p.2 < n) → (∀ p ∈ ps, M p.1 = M p.2) → L.length = n → (∀ j, j < n → M j ≤ L.getD j 0) →
    ∀ p ∈ ps, (L.getD p.1 0 = M p.1 ∨ L.getD p.2 0 = M p.2) → (rxs ps L).getD p.1 0 = M p.1 ∧ (rxs ps L).getD p.2 0 = M p.2
  | q :: ps, L, hn, hm, hl, h, p, hp, hd => by
    have hq := hn q (List.mem_cons_self ..)
    have hn' : ∀ p ∈ ps, p.1 < n ∧ p.2 < n := fun q hq => hn q (List.mem_cons_of_mem _ hq)
    have hm' : ∀ p ∈ ps, M p.1 = M p.2 := fun q hq => hm q (List.mem_cons_of_mem _ hq)
    have hl' : (rx1 L q).length = n := by rw [rx1_length, hl]
    have h' : ∀ j, j < n → M j ≤ (rx1 L q).getD j 0 := rxs_ge (ps := [q]) (L := L) (fun p hp => by rw [List.mem_singleton.1 hp]; exact hq) (fun p hp => by rw [List.mem_singleton.1 hp]; exact hm q (List.mem_cons_self ..)) hl h
    have le1 : ∀ j, (rx1 L q).getD j 0 ≤ L.getD j 0 := rx1_le (by omega) (by omega)
    have le2 := rxs_le hn' hl'
    have ge2 := rxs_ge hn' hm' hl' h'
    show (rxs ps (rx1 L q)).getD p.1 0 = M p.1 ∧ (rxs ps (rx1 L q)).getD p.2 0 = M p.2
    have hpn := hn p hp
    rcases List.mem_cons.1 hp with rfl | hp'
    · have e := hm p (List.mem_cons_self ..)
      have g1 := rx1_get (L := L) (p := p) (by omega) (by omega) p.1
      have g2 := rx1_get (L := L) (p := p) (by omega) (by omega) p.2
      rw [if_pos (Or.inr rfl)] at g1
      rw [if_pos (Or.inl rfl)] at g2
      have a1 := le2 p.1
      have a2 := le2 p.2
      have b1 := ge2 p.1 hpn.1
      have b2 := ge2 p.2 hpn.2
      have c1 := h p.1 hpn.1
      have c2 := h p.2 hpn.2
      omega
    · refine rxs_done hn' hm' hl' h' p hp' ?_
      have c1 := h' p.1 hpn.1
      have c2 := h' p.2 hpn.2
      have d1 := le1 p.1
      have d2 := le1 p.2
      omega

theorem countP_lt {α : Type} {p q : α → Bool} : ∀ {l : List α}, (∀ x ∈ l, p x = true → q x = true) → (∃ x ∈ l, q x = true ∧ p x = false) → l.countP p < l.countP q
  | [], _, ⟨_, h, _⟩ => by cases h
  | a :: l, h, ⟨x, hx, hq, hp⟩ => by
    have hle : l.countP p ≤ l.countP q := List.countP_mono_left fun x hx => h x (List.mem_cons_of_mem _ hx)
    rw [List.countP_cons, List.countP_cons]
    rcases List.mem_cons.1 hx with rfl | hx
    · rw [if_neg (by rw [hp]; simp), if_pos hq]; omega
    · have := countP_lt (fun x hx => h x (List.mem_cons_of_mem _ hx)) ⟨x, hx, hq, hp⟩
      have ha := h a (List.mem_cons_self ..)
      split <;> split <;> simp_all <;> omega

/-- A way from a done number to one that isn't crosses a pair. -/
theorem cross {ps : List (Nat × Nat)} {D : Nat → Prop} {a b : Nat} (h : Cnn ps a b) (ha : D a) (hb : ¬ D b) : ∃ p ∈ ps, (D p.1 ∧ ¬ D p.2) ∨ (¬ D p.1 ∧ D p.2) := by
  induction h with
  | refl => exact absurd ha hb
  | step _ hp ih =>
    rename_i x y _
    by_cases hx : D x
    · rcases hp with hp | hp
      · exact ⟨_, hp, Or.inl ⟨hx, hb⟩⟩
      · exact ⟨_, hp, Or.inr ⟨hb, hx⟩⟩
    · exact ih hx

theorem rxN_min (n : Nat) (ps : List (Nat × Nat)) (hn : ∀ p ∈ ps, p.1 < n ∧ p.2 < n) : ∀ v, v < n → (rxN ps n (List.range n)).getD v 0 = fd (uniL n ps) v := by
  let M := fd (uniL n ps)
  obtain ⟨o1, o2⟩ := uniL_ok n ps
  have hM : ∀ p ∈ ps, M p.1 = M p.2 := fun p hp => (uniL_iff n ps hn p.1 p.2 (hn p hp).1 (hn p hp).2).2 (.one (Or.inl hp))
  have hle : ∀ v, M v ≤ v := fd_le o1
  let L := fun k => rxN ps k (List.range n)
  have hL : ∀ k, (L k).length = n := fun k => by simp only [L]; rw [rxN_length, List.length_range]
  have hrange : ∀ v, v < n → (List.range n).getD v 0 = v := fun v hv => by rw [List.getD_eq_getElem?_getD, List.getElem?_range hv]; rfl
  have hge : ∀ k v, v < n → M v ≤ (L k).getD v 0 := by
    intro k
    induction k with
    | zero => intro v hv; show M v ≤ (List.range n).getD v 0; rw [hrange v hv]; exact hle v
    | succ k ih => exact rxs_ge hn hM (hL k) ih
  have hup : ∀ k v, v < n → (L k).getD v 0 ≤ v := by
    intro k
    induction k with
    | zero => intro v hv; show (List.range n).getD v 0 ≤ v; rw [hrange v hv]; exact Nat.le_refl _
    | succ k ih => intro v hv; exact Nat.le_trans (rxs_le hn (hL k) v) (ih v hv)
  let bad := fun k => (List.range n).countP fun v => !(decide ((L k).getD v 0 = M v))
  have hkey : ∀ k, bad k = 0 ∨ bad (k + 1) < bad k := by
    intro k
    rcases Nat.eq_zero_or_pos (bad k) with h | h
    · exact Or.inl h
    · refine Or.inr ?_
      obtain ⟨v, hv, hb⟩ := List.countP_pos_iff.1 h
      have hv := List.mem_range.1 hv
      have hb : ¬ (L k).getD v 0 = M v := by simpa using hb
      have hmv : M v < n := by have := hle v; omega
      have hd : (L k).getD (M v) 0 = M (M v) := by
        have h1 : M (M v) = M v := fd_idem o1 v
        have h2 := hup k (M v) hmv
        have h3 := hge k (M v) hmv
        omega
      have hc : Cnn ps (M v) v := (uniL_iff n ps hn (M v) v hmv hv).1 (fd_idem o1 v)
      obtain ⟨p, hp, hx⟩ := cross (D := fun v => (L k).getD v 0 = M v) hc hd hb
      have hdone := rxs_done hn hM (hL k) (hge k) p hp (hx.elim (fun hx => Or.inl hx.1) (fun hx => Or.inr hx.2))
      refine countP_lt (fun x hx hb => ?_) ?_
      · have hx := List.mem_range.1 hx
        have hb : ¬ (L (k + 1)).getD x 0 = M x := by simpa using hb
        have h1 := rxs_le hn (hL k) x
        have h2 := hge (k + 1) x hx
        have h1 : (L (k + 1)).getD x 0 ≤ (L k).getD x 0 := h1
        simp only [Bool.not_eq_true', decide_eq_false_iff_not]
        omega
      · rcases hx with hx | hx
        · exact ⟨p.2, List.mem_range.2 (hn p hp).2, by simpa using hx.2, by rw [Bool.not_eq_false', decide_eq_true_eq]; exact hdone.2⟩
        · exact ⟨p.1, List.mem_range.2 (hn p hp).1, by simpa using hx.1, by rw [Bool.not_eq_false', decide_eq_true_eq]; exact hdone.1⟩
  have hmono : ∀ k, bad (k + 1) ≤ bad k := by
    intro k
    refine List.countP_mono_left fun x hx hb => ?_
    have hx := List.mem_range.1 hx
    have hb : ¬ (L (k + 1)).getD x 0 = M x := by simpa using hb
    have h1 : (L (k + 1)).getD x 0 ≤ (L k).getD x 0 := rxs_le hn (hL k) x
    have h2 := hge (k + 1) x hx
    simp only [Bool.not_eq_true', decide_eq_false_iff_not]
    omega
  have hcnt : ∀ k, bad k ≤ n - k := by
    intro k
    induction k with
    | zero =>
      have := List.countP_le_length (p := fun v => !(decide ((L 0).getD v 0 = M v))) (l := List.range n)
      rw [List.length_range] at this
      exact this
    | succ k ih =>
      have h1 := hmono k
      rcases hkey k with h | h <;> omega
  intro v hv
  have h0 : bad n = 0 := by have := hcnt n; omega
  have := (List.countP_eq_zero.1 h0) v (List.mem_range.2 hv)
  simpa using this

/-- The numbers of the trees, out of whatever tells the least member. -/
def numF (f : Nat → Nat) : Nat → List Nat × Nat
  | 0 => ([], 0)
  | v + 1 => if f v = v then ((numF f v).1 ++ [(numF f v).2], (numF f v).2 + 1) else ((numF f v).1 ++ [(numF f v).1.getD (f v) 0], (numF f v).2)
theorem numF_fd (r : List Nat) (v : Nat) : numF (fd r) v = num r v := by
  induction v with
  | zero => rfl
  | succ v ih => rw [numF, num, ih]
theorem numF_congr {f g : Nat → Nat} : ∀ {v : Nat}, (∀ u, u < v → f u = g u) → numF f v = numF g v
  | 0, _ => rfl
  | v + 1, h => by rw [numF, numF, numF_congr fun u hu => h u (by omega), h v (by omega)]
end Go.Proofs.YtipenembpidoiaaGreatDoor

/- Cosine and sine; sums over links. No condition. -/
namespace Go.Proofs.YtipenembpidoiaaGreatDoor

theorem sq_pos {x y : Int} (h : ¬ (x = 0 ∧ y = 0)) : 0 < x * x + y * y := by
  have h1 : 0 ≤ x * x := (Int.le_total 0 x).elim (fun h => Int.mul_nonneg h h) (fun h => Int.mul_nonneg_of_nonpos_of_nonpos h h)
  have h2 : 0 ≤ y * y := (Int.le_total 0 y).elim (fun h => Int.mul_nonneg h h) (fun h => Int.mul_nonneg_of_nonpos_of_nonpos h h)
  rcases Int.lt_or_eq_of_le (show 0 ≤ x * x + y * y by omega) with h' | h'
  · exact h'
  · have e1 : x * x = 0 := by omega
    have e2 : y * y = 0 := by omega
    rw [Int.mul_eq_zero, or_self] at e1 e2
    exact absurd ⟨e1, e2⟩ h
theorem rPQ_pos (p q : Int) : 0 < rQ p q * rQ p q + rP p q * rP p q := sq_pos (fun h => rPQ_ne p q ⟨h.2, h.1⟩)
theorem rPQ_rat (p q : Int) : ((rQ p q * rQ p q + rP p q * rP p q : Int) : Rat) ≠ 0 := by
  have := rPQ_pos p q
  intro h
  have : rQ p q * rQ p q + rP p q * rP p q = 0 := by exact_mod_cast h
  omega
theorem cos_sin (p q : Int) : cosR p q * cosR p q + sinR p q * sinR p q = 1 := by
  have h := rPQ_rat p q
  unfold cosR sinR
  rw [Rat.divInt_eq_div, Rat.divInt_eq_div]
  simp only [Rat.intCast_add, Rat.intCast_sub, Rat.intCast_mul] at h ⊢
  generalize (rQ p q : Rat) = a at h ⊢
  generalize (rP p q : Rat) = b at h ⊢
  grind
theorem turn_len (p q : Int) (x y : Rat) : (cosR p q * x - sinR p q * y) * (cosR p q * x - sinR p q * y) + (sinR p q * x + cosR p q * y) * (sinR p q * x + cosR p q * y) = x * x + y * y := by
  have h := cos_sin p q
  generalize cosR p q = c at h ⊢
  generalize sinR p q = s at h ⊢
  grind
theorem sq_le {x : Int} {n : Int} (h : -n ≤ x ∧ x ≤ n) : 0 ≤ x * x ∧ x * x ≤ n * n := by
  have hn : 0 ≤ n := by omega
  rcases Int.le_total 0 x with hx | hx
  · exact ⟨Int.mul_nonneg hx hx, Int.mul_le_mul h.2 h.2 hx hn⟩
  · refine ⟨Int.mul_nonneg_of_nonpos_of_nonpos hx hx, ?_⟩
    have := Int.mul_le_mul (show -x ≤ n by omega) (show -x ≤ n by omega) (by omega) hn
    rwa [Int.neg_mul_neg] at this
end Go.Proofs.YtipenembpidoiaaGreatDoor

/- Rotations as pairs up to a factor. No condition. -/
namespace Go.Proofs.YtipenembpidoiaaGreatDoor

def nz (a : Int × Int) : Prop := ¬ (a.1 = 0 ∧ a.2 = 0)
/-- Proportional. -/
def Px (a b : Int × Int) : Prop := a.1 * b.2 = b.1 * a.2
def gm (a b : Int × Int) : Int × Int := (a.2 * b.1 + a.1 * b.2, a.2 * b.2 - a.1 * b.1)
def gc (a : Int × Int) : Int × Int := (rP a.1 a.2, rQ a.1 a.2)
theorem gc_nz (a : Int × Int) : nz (gc a) := rPQ_ne a.1 a.2
theorem gm_nz {a b : Int × Int} (ha : nz a) (hb : nz b) : nz (gm a b) := rmul_ne ha hb
theorem rQ_nn (p q : Int) : 0 < rQ p q ∨ (rQ p q = 0 ∧ 0 < rP p q) := by
  by_cases h : p = 0 ∧ q = 0
  · left; rw [h.1, h.2]; decide
  · obtain ⟨h1, h2⟩ := rPQ_mul h
    have hg := rg_ne h
    have hs : (0 < rg p q ∧ (0 < q ∨ (q = 0 ∧ 0 < p))) ∨ (rg p q < 0 ∧ (q < 0 ∨ (q = 0 ∧ p < 0))) := by
      have hp := gcd_ne h
      unfold rg
      cases hr : rneg p q with
      | true =>
        right
        simp only [rneg, Bool.or_eq_true, Bool.and_eq_true, decide_eq_true_eq] at hr
        exact ⟨by rw [if_pos rfl]; omega, by omega⟩
      | false =>
        left
        simp only [rneg, Bool.or_eq_false_iff, Bool.and_eq_false_iff, decide_eq_false_iff_not] at hr
        exact ⟨by rw [if_neg Bool.false_ne_true]; omega, by omega⟩
    generalize rg p q = g at *
    generalize rP p q = P at *
    generalize rQ p q = Q at *
    have zc : ∀ {x : Int}, x * g = 0 → x = 0 := fun h => (Int.mul_eq_zero.1 h).resolve_right hg
    rcases hs with ⟨g0, hq⟩ | ⟨g0, hq⟩
    · have pos : ∀ {x : Int}, 0 < x * g → 0 < x := fun h => Int.pos_of_mul_pos_left h g0
      rcases hq with hq | ⟨hq, hp⟩
      · left; exact pos (by rw [h2]; exact hq)
      · right; exact ⟨zc (by rw [h2]; exact hq), pos (by rw [h1]; exact hp)⟩
    · have pos : ∀ {x : Int}, x * g < 0 → 0 < x := fun {x} h => by
        rcases Int.lt_or_le 0 x with hx | hx
        · exact hx
        · have := Int.mul_nonneg_of_nonpos_of_nonpos hx (by omega : g ≤ 0)
          omega
      rcases hq with hq | ⟨hq, hp⟩
      · left; exact pos (by rw [h2]; exact hq)
      · right; exact ⟨zc (by rw [h2]; exact hq), pos (by rw [h1]; exact hp)⟩
theorem rPQ_cop (p q : Int) : Nat.Coprime (rP p q).natAbs (rQ p q).natAbs := by
  by_cases h : p = 0 ∧ q = 0
  · rw [h.1, h.2]; decide
  · obtain ⟨h1, h2⟩ := rPQ_mul h
    have h0 := gcd_ne h
    have hg : (rg p q).natAbs = Int.gcd p q := natAbs_rg p q
    have e1 : (rP p q).natAbs * Int.gcd p q = p.natAbs := by rw [← hg, ← Int.natAbs_mul, h1]
    have e2 : (rQ p q).natAbs * Int.gcd p q = q.natAbs := by rw [← hg, ← Int.natAbs_mul, h2]
    have hpos : 0 < Int.gcd p q := by omega
    have hc := Nat.coprime_div_gcd_div_gcd (m := p.natAbs) (n := q.natAbs) hpos
    have d1 : p.natAbs / Nat.gcd p.natAbs q.natAbs = (rP p q).natAbs := by
      exact Nat.div_eq_of_eq_mul_left hpos e1.symm
    have d2 : q.natAbs / Nat.gcd p.natAbs q.natAbs = (rQ p q).natAbs := by
      exact Nat.div_eq_of_eq_mul_left hpos e2.symm
    rwa [d1, d2] at hc
/-- Canonical pairs that are proportional are the same. -/
theorem can_uniq {P Q P' Q' : Int} (c : Nat.Coprime P.natAbs Q.natAbs) (c' : Nat.Coprime P'.natAbs Q'.natAbs) (s : 0 < Q ∨ (Q = 0 ∧ 0 < P)) (s' : 0 < Q' ∨ (Q' = 0 ∧ 0 < P')) (h : P * Q' = P' * Q) : P = P' ∧ Q = Q' := by
  have hn : P.natAbs * Q'.natAbs = P'.natAbs * Q.natAbs := by rw [← Int.natAbs_mul, ← Int.natAbs_mul, h]
  have d1 : Q.natAbs ∣ Q'.natAbs := c.symm.dvd_of_dvd_mul_left (hn ▸ Nat.dvd_mul_left _ _)
  have d2 : Q'.natAbs ∣ Q.natAbs := c'.symm.dvd_of_dvd_mul_left (hn ▸ Nat.dvd_mul_left _ _)
  have hq : Q.natAbs = Q'.natAbs := Nat.dvd_antisymm d1 d2
  have eQ : Q = Q' := by omega
  subst eQ
  rcases s with s | ⟨s, sp⟩
  · refine ⟨?_, rfl⟩
    have := (Int.mul_eq_mul_right_iff (by omega : Q ≠ 0)).1 h
    exact this
  · subst s
    have e1 : P.natAbs = 1 := by simpa [Nat.Coprime] using c
    have e2 : P'.natAbs = 1 := by simpa [Nat.Coprime] using c'
    exact ⟨by omega, rfl⟩
theorem gc_px {a : Int × Int} (h : nz a) : Px (gc a) a := by
  obtain ⟨h1, h2⟩ := rPQ_mul h
  unfold Px gc
  have e : a.1 * rQ a.1 a.2 = (rP a.1 a.2 * rg a.1 a.2) * rQ a.1 a.2 := by rw [h1]
  have e2 : rP a.1 a.2 * a.2 = rP a.1 a.2 * (rQ a.1 a.2 * rg a.1 a.2) := by rw [h2]
  simp only
  rw [e, e2]; grind
theorem gc_eq {a b : Int × Int} (ha : nz a) (hb : nz b) (h : Px a b) : gc a = gc b := by
  obtain ⟨a1, a2⟩ := rPQ_mul ha
  obtain ⟨b1, b2⟩ := rPQ_mul hb
  have ga := rg_ne ha
  have gb := rg_ne hb
  have key : rP a.1 a.2 * rQ b.1 b.2 = rP b.1 b.2 * rQ a.1 a.2 := by
    unfold Px at h
    rw [← a1, ← a2, ← b1, ← b2] at h
    simp only [a1, a2, b1, b2] at h
    have h' : (rP a.1 a.2 * rQ b.1 b.2) * (rg a.1 a.2 * rg b.1 b.2) = (rP b.1 b.2 * rQ a.1 a.2) * (rg a.1 a.2 * rg b.1 b.2) := by
      have e1 : (rP a.1 a.2 * rQ b.1 b.2) * (rg a.1 a.2 * rg b.1 b.2) = (rP a.1 a.2 * rg a.1 a.2) * (rQ b.1 b.2 * rg b.1 b.2) := by grind
      have e2 : (rP b.1 b.2 * rQ a.1 a.2) * (rg a.1 a.2 * rg b.1 b.2) = (rP b.1 b.2 * rg b.1 b.2) * (rQ a.1 a.2 * rg a.1 a.2) := by grind
      rw [e1, e2, a1, a2, b1, b2]; exact h
    exact (Int.mul_eq_mul_right_iff (Int.mul_ne_zero ga gb)).1 h'
  obtain ⟨e1, e2⟩ := can_uniq (rPQ_cop a.1 a.2) (rPQ_cop b.1 b.2) (rQ_nn a.1 a.2) (rQ_nn b.1 b.2) key
  exact Prod.ext e1 e2
theorem gc_idem (a : Int × Int) : gc (gc a) = gc a := by
  have h := gc_nz a
  obtain ⟨e1, e2⟩ := can_uniq (rPQ_cop (gc a).1 (gc a).2) (rPQ_cop a.1 a.2) (rQ_nn _ _) (rQ_nn _ _) (by
    have := gc_px h
    exact this)
  exact Prod.ext e1 e2
theorem Px.refl (a : Int × Int) : Px a a := rfl
theorem Px.symm {a b : Int × Int} (h : Px a b) : Px b a := Eq.symm h
theorem gm_px {a b c d : Int × Int} (h1 : Px a c) (h2 : Px b d) : Px (gm a b) (gm c d) := by
  unfold Px gm at *
  grind
theorem gm_comm (a b : Int × Int) : gm a b = gm b a := by
  unfold gm; apply Prod.ext <;> grind
theorem gm_assoc (a b c : Int × Int) : gm (gm a b) c = gm a (gm b c) := by
  unfold gm; apply Prod.ext <;> grind
theorem gc_gm_l {a b : Int × Int} (ha : nz a) (hb : nz b) : gc (gm (gc a) b) = gc (gm a b) :=
  gc_eq (gm_nz (gc_nz a) hb) (gm_nz ha hb) (gm_px (gc_px ha) (Px.refl b))
theorem gc_gm_r {a b : Int × Int} (ha : nz a) (hb : nz b) : gc (gm a (gc b)) = gc (gm a b) :=
  gc_eq (gm_nz ha (gc_nz b)) (gm_nz ha hb) (gm_px (Px.refl a) (gc_px hb))
/-- Cosine and sine by whatever pair. -/
def cs2 (a : Int × Int) : Rat := ((a.2 * a.2 - a.1 * a.1 : Int) : Rat) / ((a.2 * a.2 + a.1 * a.1 : Int) : Rat)
def sn2 (a : Int × Int) : Rat := ((a.2 * a.1 + a.1 * a.2 : Int) : Rat) / ((a.2 * a.2 + a.1 * a.1 : Int) : Rat)
theorem nz_rat {a : Int × Int} (h : nz a) : (a.2 : Rat) * a.2 + (a.1 : Rat) * a.1 ≠ 0 := by
  have := sq_pos (x := a.2) (y := a.1) (fun e => h ⟨e.2, e.1⟩)
  intro h'
  have : ((a.2 * a.2 + a.1 * a.1 : Int) : Rat) = 0 := by simp only [Rat.intCast_add, Rat.intCast_mul]; exact h'
  have : a.2 * a.2 + a.1 * a.1 = 0 := by exact_mod_cast this
  omega
theorem cs_px {a b : Int × Int} (ha : nz a) (hb : nz b) (h : Px a b) : cs2 a = cs2 b ∧ sn2 a = sn2 b := by
  have h1 := nz_rat ha
  have h2 := nz_rat hb
  have h3 : (a.1 : Rat) * b.2 = b.1 * a.2 := by
    have : ((a.1 * b.2 : Int) : Rat) = ((b.1 * a.2 : Int) : Rat) := by rw [show a.1 * b.2 = b.1 * a.2 from h]
    simpa only [Rat.intCast_mul] using this
  unfold cs2 sn2
  simp only [Rat.intCast_add, Rat.intCast_sub, Rat.intCast_mul]
  generalize (a.1 : Rat) = p at *
  generalize (a.2 : Rat) = q at *
  generalize (b.1 : Rat) = r at *
  generalize (b.2 : Rat) = s at *
  constructor <;> grind
theorem cos_gc {a : Int × Int} (h : nz a) : cosR a.1 a.2 = cs2 a ∧ sinR a.1 a.2 = sn2 a := by
  have := cs_px (gc_nz a) h (gc_px h)
  rw [← this.1, ← this.2]
  unfold cosR sinR cs2 sn2 gc
  rw [Rat.divInt_eq_div, Rat.divInt_eq_div]
  exact ⟨rfl, rfl⟩
/-- The angles add up. -/
theorem cs_gm {a b : Int × Int} (ha : nz a) (hb : nz b) : cs2 (gm a b) = cs2 a * cs2 b - sn2 a * sn2 b ∧ sn2 (gm a b) = sn2 a * cs2 b + cs2 a * sn2 b := by
  have h1 := nz_rat ha
  have h2 := nz_rat hb
  have h3 := nz_rat (gm_nz ha hb)
  unfold cs2 sn2
  unfold gm at *
  simp only [Rat.intCast_add, Rat.intCast_sub, Rat.intCast_mul] at *
  generalize (a.1 : Rat) = p at *
  generalize (a.2 : Rat) = q at *
  generalize (b.1 : Rat) = r at *
  generalize (b.2 : Rat) = s at *
  have e : (q * s - p * r) * (q * s - p * r) + (q * r + p * s) * (q * r + p * s) = (q * q + p * p) * (s * s + r * r) := by grind
  rw [e]
  constructor <;> grind
theorem cs_inv {a : Int × Int} (ha : nz a) : cs2 (-a.1, a.2) = cs2 a ∧ sn2 (-a.1, a.2) = - sn2 a := by
  have h1 := nz_rat ha
  unfold cs2 sn2
  simp only [Rat.intCast_add, Rat.intCast_sub, Rat.intCast_mul, Rat.intCast_neg]
  constructor <;> grind
end Go.Proofs.YtipenembpidoiaaGreatDoor

/- Powers of rotations, their orders; transforms. No condition. -/
namespace Go.Proofs.YtipenembpidoiaaGreatDoor

abbrev one2 : Int × Int := (0, 1)
theorem nz_one : nz one2 := fun h => by cases h.2
theorem gc_one : gc one2 = one2 := rfl
theorem gm_one (a : Int × Int) : gm one2 a = a := by unfold gm; apply Prod.ext <;> simp
theorem gc_one_iff {a : Int × Int} (h : nz a) : gc a = one2 ↔ a.1 = 0 := by
  constructor
  · intro e
    have := gc_px h
    rw [e] at this
    unfold Px at this
    simp at this; exact this.symm
  · intro e
    rw [← gc_one]
    refine gc_eq h nz_one ?_
    unfold Px; rw [e]; simp
def inv2 (a : Int × Int) : Int × Int := gc (-a.1, a.2)
theorem nz_neg {a : Int × Int} (h : nz a) : nz (-a.1, a.2) := fun h' => h ⟨by have := h'.1; simp only at this; omega, h'.2⟩
theorem inv2_nz (a : Int × Int) : nz (inv2 a) := gc_nz _
theorem gm_inv {a : Int × Int} (h : nz a) : gc (gm a (inv2 a)) = one2 := by
  unfold inv2
  rw [gc_gm_r h (nz_neg h)]
  rw [gc_one_iff (gm_nz h (nz_neg h))]
  unfold gm; simp only; grind
theorem neg_px {a b : Int × Int} (h : Px a b) : Px (-a.1, a.2) (-b.1, b.2) := by
  unfold Px at *; simp only; grind
theorem inv2_gc {a : Int × Int} (h : nz a) : inv2 (gc a) = inv2 a :=
  gc_eq (nz_neg (gc_nz a)) (nz_neg h) (neg_px (gc_px h))
theorem inv2_inv2 {a : Int × Int} (h : nz a) : inv2 (inv2 a) = gc a := by
  have e : inv2 (inv2 a) = inv2 (-a.1, a.2) := inv2_gc (nz_neg h)
  rw [e]; unfold inv2; simp only [Int.neg_neg]
def pw (a : Int × Int) : Nat → Int × Int
  | 0 => one2
  | n + 1 => gc (gm (pw a n) a)
def gp (a : Int × Int) : Nat → Int × Int
  | 0 => one2
  | n + 1 => gm (gp a n) a
theorem gp_nz {a : Int × Int} (h : nz a) : ∀ n, nz (gp a n)
  | 0 => nz_one
  | n + 1 => gm_nz (gp_nz h n) h
theorem pw_gp {a : Int × Int} (h : nz a) : ∀ n, pw a n = gc (gp a n)
  | 0 => gc_one.symm
  | n + 1 => by
    show gc (gm (pw a n) a) = gc (gm (gp a n) a)
    rw [pw_gp h n, gc_gm_l (gp_nz h n) h]
theorem pw_nz {a : Int × Int} (h : nz a) (n : Nat) : nz (pw a n) := by rw [pw_gp h]; exact gc_nz _
theorem pw_gc {a : Int × Int} (h : nz a) (n : Nat) : gc (pw a n) = pw a n := by rw [pw_gp h, gc_idem]
/-- Powers with a sign. -/
def pwZ (a : Int × Int) (n : Int) : Int × Int := if n < 0 then pw (inv2 a) n.natAbs else pw a n.natAbs
theorem pwZ_nz {a : Int × Int} (h : nz a) (n : Int) : nz (pwZ a n) := by
  unfold pwZ; split
  · exact pw_nz (inv2_nz a) _
  · exact pw_nz h _
theorem pwZ_gc {a : Int × Int} (h : nz a) (n : Int) : gc (pwZ a n) = pwZ a n := by
  unfold pwZ; split
  · exact pw_gc (inv2_nz a) _
  · exact pw_gc h _
/-- Undo a step. -/
theorem gm_undo {x a : Int × Int} (hx : nz x) (ha : nz a) : gc (gm (gc (gm x (inv2 a))) a) = gc x := by
  rw [gc_gm_l (gm_nz hx (inv2_nz a)) ha, gm_assoc, gm_comm (inv2 a) a, ← gc_gm_r hx (gm_nz ha (inv2_nz a)), gm_inv ha, gm_comm, gm_one]
theorem pwZ_succ {a : Int × Int} (h : nz a) (n : Int) : pwZ a (n + 1) = gc (gm (pwZ a n) a) := by
  by_cases h0 : 0 ≤ n
  · have e1 : (n + 1).natAbs = n.natAbs + 1 := by omega
    unfold pwZ
    rw [if_neg (by omega), if_neg (by omega), e1]; rfl
  · obtain ⟨k, hk⟩ : ∃ k, n.natAbs = k + 1 := ⟨n.natAbs - 1, by omega⟩
    have e2 : pwZ a n = gc (gm (pw (inv2 a) k) (inv2 a)) := by
      unfold pwZ; rw [if_pos (by omega), hk]; rfl
    have e3 : pwZ a (n + 1) = pw (inv2 a) k := by
      unfold pwZ
      by_cases h1 : n + 1 < 0
      · rw [if_pos h1]; congr 1; omega
      · rw [if_neg h1]
        have : k = 0 := by omega
        subst this
        have : (n + 1).natAbs = 0 := by omega
        rw [this]; rfl
    rw [e2, e3, gm_undo (pw_nz (inv2_nz a) k) h, pw_gc (inv2_nz a)]
theorem pwZ_pred {a : Int × Int} (h : nz a) (n : Int) : pwZ a (n - 1) = gc (gm (pwZ a n) (inv2 a)) := by
  have e := pwZ_succ h (n - 1)
  rw [show n - 1 + 1 = n by omega] at e
  rw [e, gc_gm_l (gm_nz (pwZ_nz h _) h) (inv2_nz a), gm_assoc, ← gc_gm_r (pwZ_nz h _) (gm_nz h (inv2_nz a)), gm_inv h, gm_comm, gm_one, pwZ_gc h]
theorem pwZ_add {a : Int × Int} (h : nz a) (m n : Int) : gc (gm (pwZ a m) (pwZ a n)) = pwZ a (m + n) := by
  have up : ∀ k : Nat, gc (gm (pwZ a m) (pwZ a k)) = pwZ a (m + k) := by
    intro k
    induction k with
    | zero =>
      show gc (gm (pwZ a m) one2) = _
      rw [gm_comm, gm_one, pwZ_gc h]; simp
    | succ k ih =>
      have e1 : pwZ a ((k + 1 : Nat) : Int) = gc (gm (pwZ a k) a) := pwZ_succ h k
      have e2 : pwZ a (m + ((k + 1 : Nat) : Int)) = gc (gm (pwZ a (m + k)) a) := by
        rw [← pwZ_succ h]; congr 1; omega
      rw [e1, e2, ← ih, gc_gm_r (pwZ_nz h _) (gm_nz (pwZ_nz h _) h), gc_gm_l (gm_nz (pwZ_nz h _) (pwZ_nz h _)) h, gm_assoc]
  have down : ∀ k : Nat, gc (gm (pwZ a m) (pwZ a (-(k : Int)))) = pwZ a (m - k) := by
    intro k
    induction k with
    | zero =>
      show gc (gm (pwZ a m) one2) = _
      rw [gm_comm, gm_one, pwZ_gc h]; simp
    | succ k ih =>
      have e1 : pwZ a (-((k + 1 : Nat) : Int)) = gc (gm (pwZ a (-(k : Int))) (inv2 a)) := by
        rw [← pwZ_pred h]; congr 1; omega
      have e2 : pwZ a (m - ((k + 1 : Nat) : Int)) = gc (gm (pwZ a (m - k)) (inv2 a)) := by
        rw [← pwZ_pred h]; congr 1; omega
      rw [e1, e2, ← ih, gc_gm_r (pwZ_nz h _) (gm_nz (pwZ_nz h _) (inv2_nz a)), gc_gm_l (gm_nz (pwZ_nz h _) (pwZ_nz h _)) (inv2_nz a), gm_assoc]
  by_cases h0 : 0 ≤ n
  · have := up n.toNat
    rwa [Int.toNat_of_nonneg h0] at this
  · have := down (-n).toNat
    rw [Int.toNat_of_nonneg (by omega), Int.neg_neg] at this
    rw [this]; congr 1; omega
theorem pwZ_inv {a : Int × Int} (h : nz a) (hc : gc a = a) (m : Int) : pwZ (inv2 a) (-m) = pwZ a m := by
  unfold pwZ
  by_cases h0 : m < 0
  · rw [if_pos h0, if_neg (by omega), Int.natAbs_neg]
  · rw [if_neg h0]
    by_cases h1 : m = 0
    · subst h1; rfl
    · rw [if_pos (by omega), inv2_inv2 h, hc, Int.natAbs_neg]
/-- The order. -/
def ordN (a : Int × Int) : Int := if a.1 = 0 then 1 else if a.2 = 0 then 2 else if a.1.natAbs = a.2 then 4 else 0
def ordF (a : Int × Int) : Int := if pw a 1 = one2 then 1 else if pw a 2 = one2 then 2 else if pw a 3 = one2 then 3 else if pw a 4 = one2 then 4 else 0
/-- Canonical ones. -/
def Cn2 (a : Int × Int) : Prop := Nat.Coprime a.1.natAbs a.2.natAbs ∧ (0 < a.2 ∨ (a.2 = 0 ∧ 0 < a.1))
theorem gc_Cn (a : Int × Int) : Cn2 (gc a) := ⟨rPQ_cop _ _, rQ_nn _ _⟩
theorem Cn2.nz {a : Int × Int} (h : Cn2 a) : nz a := fun e => by
  rcases h.2 with h | h <;> omega
theorem Cn2.gc {a : Int × Int} (h : Cn2 a) : gc a = a := by
  obtain ⟨e1, e2⟩ := can_uniq (rPQ_cop a.1 a.2) h.1 (rQ_nn _ _) h.2 (gc_px h.nz)
  exact Prod.ext e1 e2
theorem mod3 {p : Int} (h : p * p % 3 = 0) : p % 3 = 0 := by
  have e := Int.emod_add_mul_ediv p 3
  rcases (show p % 3 = 0 ∨ p % 3 = 1 ∨ p % 3 = 2 by omega) with h' | h' | h'
  · exact h'
  · exfalso
    rw [h'] at e
    have : p * p = 3 * (3 * (p / 3) * (p / 3) + 2 * (p / 3)) + 1 := by grind
    omega
  · exfalso
    rw [h'] at e
    have : p * p = 3 * (3 * (p / 3) * (p / 3) + 4 * (p / 3) + 1) + 1 := by grind
    omega
theorem no3 {p q : Int} (hc : Nat.Coprime p.natAbs q.natAbs) : 3 * (q * q) ≠ p * p := by
  intro h
  have h1 : p % 3 = 0 := mod3 (by omega)
  have e1 : p = 3 * (p / 3) := by omega
  have h2 : q * q = 3 * ((p / 3) * (p / 3)) := by grind
  have h3 : q % 3 = 0 := mod3 (by omega)
  have d1 : 3 ∣ p.natAbs := by omega
  have d2 : 3 ∣ q.natAbs := by omega
  have := Nat.dvd_gcd d1 d2
  rw [hc] at this
  omega
theorem sq_eq {p q : Int} (h : q * q = p * p) : p = q ∨ p = -q := by
  have : (q - p) * (q + p) = 0 := by grind
  rcases Int.mul_eq_zero.1 this with h | h
  · left; omega
  · right; omega
theorem gp2 (a : Int × Int) : (gp a 2).1 = 2 * (a.1 * a.2) := by
  simp only [gp, gm, one2]; grind
theorem gp3 (a : Int × Int) : (gp a 3).1 = a.1 * (3 * (a.2 * a.2) - a.1 * a.1) := by
  simp only [gp, gm, one2]; grind
theorem gp4 (a : Int × Int) : (gp a 4).1 = 4 * (a.1 * (a.2 * (a.2 * a.2 - a.1 * a.1))) := by
  simp only [gp, gm, one2]; grind
theorem gp1 (a : Int × Int) : (gp a 1).1 = a.1 := by
  simp only [gp, gm, one2]; grind
theorem pw_one {a : Int × Int} (h : nz a) (n : Nat) : pw a n = one2 ↔ (gp a n).1 = 0 := by
  rw [pw_gp h, gc_one_iff (gp_nz h n)]
theorem ord_eq {a : Int × Int} (h : Cn2 a) : ordF a = ordN a := by
  have hz := h.nz
  unfold ordF ordN
  simp only [pw_one hz]
  rw [gp1, gp2, gp3, gp4]
  by_cases h1 : a.1 = 0
  · rw [if_pos h1, if_pos h1]
  rw [if_neg h1, if_neg h1]
  by_cases h2 : a.2 = 0
  · rw [if_pos h2, if_pos (by rw [h2]; simp)]
  have m1 : a.1 * a.2 ≠ 0 := Int.mul_ne_zero h1 h2
  rw [if_neg h2, if_neg (by omega)]
  have m3 : a.1 * (3 * (a.2 * a.2) - a.1 * a.1) ≠ 0 := Int.mul_ne_zero h1 (by have := no3 h.1; omega)
  rw [if_neg m3]
  have hq : 0 < a.2 := by rcases h.2 with h | h <;> omega
  by_cases h3 : (a.1.natAbs : Int) = a.2
  · rw [if_pos h3, if_pos]
    have : a.2 * a.2 - a.1 * a.1 = 0 := by
      have : a.2 * a.2 = a.1 * a.1 := by rw [← h3, ← Int.natCast_mul, ← Int.natAbs_mul, Int.natAbs_of_nonneg]; exact (Int.le_total 0 a.1).elim (fun h => Int.mul_nonneg h h) (fun h => Int.mul_nonneg_of_nonpos_of_nonpos h h)
      omega
    rw [this]; simp
  · rw [if_neg h3, if_neg]
    intro h4
    have h5 : a.1 * (a.2 * (a.2 * a.2 - a.1 * a.1)) = 0 := by omega
    rcases Int.mul_eq_zero.1 h5 with h6 | h6
    · exact h1 h6
    rcases Int.mul_eq_zero.1 h6 with h7 | h7
    · exact h2 h7
    rcases sq_eq (show a.2 * a.2 = a.1 * a.1 by omega) with h8 | h8 <;> omega
end Go.Proofs.YtipenembpidoiaaGreatDoor

/- Which powers are the identity; transforms; marks. No condition. -/
namespace Go.Proofs.YtipenembpidoiaaGreatDoor

/-- Modulo the square of the length. -/
theorem gp_mod (a : Int × Int) : ∀ n : Nat, ∃ u v : Int, (gp a (n + 1)).1 = (2 * a.2) ^ n * a.1 + (a.1 * a.1 + a.2 * a.2) * u ∧ (gp a (n + 1)).2 = (2 * a.2) ^ n * a.2 + (a.1 * a.1 + a.2 * a.2) * v
  | 0 => ⟨0, 0, by simp [gp, gm, one2], by simp [gp, gm, one2]⟩
  | n + 1 => by
    obtain ⟨u, v, h1, h2⟩ := gp_mod a n
    refine ⟨v * a.1 + u * a.2, v * a.2 - u * a.1 - (2 * a.2) ^ n, ?_, ?_⟩
    · show (gm (gp a (n + 1)) a).1 = _
      unfold gm
      simp only
      rw [h1, h2, Int.pow_succ]; grind
    · show (gm (gp a (n + 1)) a).2 = _
      unfold gm
      simp only
      rw [h1, h2, Int.pow_succ]; grind
theorem odd_dvd {M n : Nat} (hm : M % 2 = 1) (h : M ∣ 2 ^ n) : M = 1 := by
  have hc : Nat.Coprime M (2 ^ n) := by
    apply Nat.Coprime.pow_right
    unfold Nat.Coprime
    have h1 := Nat.gcd_dvd_left M 2
    have h2 := Nat.le_of_dvd (by omega) (Nat.gcd_dvd_right M 2)
    have h3 : Nat.gcd M 2 ≠ 0 := by
      intro h0; have := Nat.eq_zero_of_gcd_eq_zero_right h0; omega
    rcases (show Nat.gcd M 2 = 1 ∨ Nat.gcd M 2 = 2 by omega) with h4 | h4
    · exact h4
    · rw [h4] at h1; omega
  have := Nat.dvd_gcd (Nat.dvd_refl M) h
  rw [hc] at this
  exact Nat.dvd_one.1 this
theorem sqmod (p : Int) : (p % 2 = 1 → p * p % 4 = 1) ∧ (p % 2 = 0 → p * p % 4 = 0) := by
  have e := Int.emod_add_mul_ediv p 2
  constructor <;> intro h
  · rw [h] at e
    have : p * p = 4 * ((p / 2) * (p / 2) + p / 2) + 1 := by grind
    omega
  · rw [h] at e
    have : p * p = 4 * ((p / 2) * (p / 2)) := by grind
    omega
theorem cop_sq {p q : Int} (h : Nat.Coprime p.natAbs q.natAbs) : Nat.Coprime (p * p + q * q).natAbs q.natAbs := by
  have e : Int.gcd (p * p + q * q) q = Int.gcd (p * p) q := Int.gcd_add_mul_right_left q (p * p) q
  show Int.gcd (p * p + q * q) q = 1
  rw [e]
  show Nat.gcd (p * p).natAbs q.natAbs = 1
  rw [Int.natAbs_mul]
  exact Nat.Coprime.mul_left h h
/-- No power of another rotation is the identity. -/
theorem gp_never {a : Int × Int} (h : Nat.Coprime a.1.natAbs a.2.natAbs) (h1 : a.1 ≠ 0) (h2 : a.2 ≠ 0) (h3 : a.1.natAbs ≠ a.2.natAbs) (n : Nat) : (gp a (n + 1)).1 ≠ 0 := by
  intro h0
  obtain ⟨u, v, e1, -⟩ := gp_mod a n
  rw [h0] at e1
  generalize hp : a.1 = p at *
  generalize hq : a.2 = q at *
  have d1 : (p * p + q * q).natAbs ∣ ((2 * q) ^ n * p).natAbs := by
    rw [Int.natAbs_dvd_natAbs]
    exact ⟨-u, by grind⟩
  have c1 : Nat.Coprime (p * p + q * q).natAbs q.natAbs := cop_sq h
  have c2 : Nat.Coprime (p * p + q * q).natAbs p.natAbs := by
    rw [Int.add_comm]; exact cop_sq (Nat.Coprime.symm h)
  rw [Int.natAbs_mul, Int.natAbs_pow, Int.natAbs_mul, Nat.mul_pow] at d1
  have d2 := Nat.Coprime.dvd_of_dvd_mul_right c2 d1
  have d3 := Nat.Coprime.dvd_of_dvd_mul_right (Nat.Coprime.pow_right n c1) d2
  have hpos : ∀ x : Int, x ≠ 0 → 0 < x * x := fun x hx => by
    rcases Int.lt_or_lt_of_ne hx with h | h
    · exact Int.mul_pos_of_neg_of_neg h h
    · exact Int.mul_pos h h
  have p1 := hpos p h1
  have p2 := hpos q h2
  have hpar : p % 2 = 1 ∨ q % 2 = 1 := by
    rcases (show p % 2 = 1 ∨ (p % 2 = 0 ∧ (q % 2 = 1 ∨ q % 2 = 0)) by omega) with h' | ⟨h', h'' | h''⟩
    · exact Or.inl h'
    · exact Or.inr h''
    · exfalso
      have := Nat.dvd_gcd (show 2 ∣ p.natAbs by omega) (show 2 ∣ q.natAbs by omega)
      rw [h] at this; omega
  have s1 := sqmod p
  have s2 := sqmod q
  have e2 : (2 : Int).natAbs = 2 := rfl
  rw [e2] at d3
  by_cases ho : (p * p + q * q) % 2 = 1
  · have := odd_dvd (show (p * p + q * q).natAbs % 2 = 1 by omega) d3
    omega
  · have hN : (p * p + q * q) % 4 = 2 := by
      rcases (show p % 2 = 1 ∨ p % 2 = 0 by omega) with hp | hp <;> rcases (show q % 2 = 1 ∨ q % 2 = 0 by omega) with hq | hq
      · have := s1.1 hp; have := s2.1 hq; omega
      · have := s1.1 hp; have := s2.2 hq; omega
      · have := s1.2 hp; have := s2.1 hq; omega
      · omega
    have d4 : (p * p + q * q).natAbs / 2 ∣ 2 ^ n := Nat.dvd_trans ⟨2, by omega⟩ d3
    have h5 := odd_dvd (by omega) d4
    have h6 : p * p = 1 := by omega
    have h7 : q * q = 1 := by omega
    have h8 : p * p = q * q := by omega
    rcases sq_eq h8 with h | h <;> omega
/-- Which power is the identity. -/
theorem ord_iff {a : Int × Int} (h : Cn2 a) (n : Nat) (hn : 1 ≤ n ∧ n ≤ 32) : pw a n = one2 ↔ (ordN a ≠ 0 ∧ ((n : Int)).tmod (ordN a) = 0) := by
  by_cases h1 : a.1 = 0
  · have e : ordN a = 1 := by unfold ordN; rw [if_pos h1]
    rw [e]
    have hz : ∀ n, (gp a n).1 = 0 := by
      intro n
      induction n with
      | zero => rfl
      | succ n ih => show (gm (gp a n) a).1 = 0; unfold gm; simp only; rw [ih, h1]; simp
    rw [pw_one h.nz]
    exact ⟨fun _ => ⟨by decide, by rw [Int.tmod_one]⟩, fun _ => hz n⟩
  by_cases h2 : a.2 = 0
  · have e : ordN a = 2 := by unfold ordN; rw [if_neg h1, if_pos h2]
    have ea : a = (1, 0) := by
      have h3 := h.1
      have h4 := h.2
      rw [h2] at h3
      simp [Nat.Coprime] at h3
      exact Prod.ext (by show a.1 = 1; omega) h2
    rw [e, pw_one h.nz, ea]
    have : ∀ n : Fin 33, 1 ≤ n.val → ((gp (1, 0) n.val).1 = 0 ↔ ((2 : Int) ≠ 0 ∧ ((n.val : Nat) : Int).tmod 2 = 0)) := by decide
    exact this ⟨n, by omega⟩ hn.1
  have hq : 0 < a.2 := by rcases h.2 with h | h <;> omega
  by_cases h3 : (a.1.natAbs : Int) = a.2
  · have e : ordN a = 4 := by unfold ordN; rw [if_neg h1, if_neg h2, if_pos h3]
    have h4 := h.1
    have e5 : a.2.natAbs = a.1.natAbs := by omega
    rw [e5] at h4
    have h6 : a.1.natAbs = 1 := by simpa [Nat.Coprime] using h4
    have ea : a = (1, 1) ∨ a = (-1, 1) := by
      rcases (show a.1 = 1 ∨ a.1 = -1 by omega) with h7 | h7
      · left; exact Prod.ext h7 (by show a.2 = 1; omega)
      · right; exact Prod.ext h7 (by show a.2 = 1; omega)
    rw [e, pw_one h.nz]
    have t1 : ∀ n : Fin 33, 1 ≤ n.val → ((gp (1, 1) n.val).1 = 0 ↔ ((4 : Int) ≠ 0 ∧ ((n.val : Nat) : Int).tmod 4 = 0)) := by decide
    have t2 : ∀ n : Fin 33, 1 ≤ n.val → ((gp (-1, 1) n.val).1 = 0 ↔ ((4 : Int) ≠ 0 ∧ ((n.val : Nat) : Int).tmod 4 = 0)) := by decide
    rcases ea with ea | ea <;> rw [ea]
    · exact t1 ⟨n, by omega⟩ hn.1
    · exact t2 ⟨n, by omega⟩ hn.1
  · have e : ordN a = 0 := by unfold ordN; rw [if_neg h1, if_neg h2, if_neg h3]
    rw [e, pw_one h.nz]
    obtain ⟨m, rfl⟩ : ∃ m, n = m + 1 := ⟨n - 1, by omega⟩
    exact ⟨fun h0 => absurd h0 (gp_never h.1 h1 h2 (by omega) m), fun h0 => absurd rfl h0.1⟩
theorem ordN_vals (a : Int × Int) : ordN a = 0 ∨ ordN a = 1 ∨ ordN a = 2 ∨ ordN a = 4 := by
  unfold ordN; repeat' split
  all_goals omega
theorem pw_ord {a : Int × Int} (h : Cn2 a) : pwZ a (ordN a) = one2 := by
  rcases ordN_vals a with e | e | e | e
  · rw [e]; rfl
  · have := (ord_iff h 1 (by omega)).2 (by rw [e]; decide)
    rw [e]; exact this
  · have := (ord_iff h 2 (by omega)).2 (by rw [e]; decide)
    rw [e]; exact this
  · have := (ord_iff h 4 (by omega)).2 (by rw [e]; decide)
    rw [e]; exact this
/-- Turned points. -/
def tnX (a : Int × Int) (x y : Rat) : Rat := cs2 a * x - sn2 a * y
def tnY (a : Int × Int) (x y : Rat) : Rat := sn2 a * x + cs2 a * y
theorem cs_one {a : Int × Int} (h : nz a) : cs2 a * cs2 a + sn2 a * sn2 a = 1 := by
  have := cos_sin a.1 a.2
  rw [(cos_gc h).1, (cos_gc h).2] at this; exact this
theorem cs_of_gc {a : Int × Int} (h : nz a) : cs2 (gc a) = cs2 a ∧ sn2 (gc a) = sn2 a := cs_px (gc_nz a) h (gc_px h)
theorem tn_gm {a b : Int × Int} (ha : nz a) (hb : nz b) (x y : Rat) : tnX (gc (gm a b)) x y = tnX a (tnX b x y) (tnY b x y) ∧ tnY (gc (gm a b)) x y = tnY a (tnX b x y) (tnY b x y) := by
  unfold tnX tnY
  rw [(cs_of_gc (gm_nz ha hb)).1, (cs_of_gc (gm_nz ha hb)).2, (cs_gm ha hb).1, (cs_gm ha hb).2]
  constructor <;> grind
theorem tn_inv {a : Int × Int} (ha : nz a) (x y : Rat) : tnX (inv2 a) x y = cs2 a * x + sn2 a * y ∧ tnY (inv2 a) x y = cs2 a * y - sn2 a * x := by
  unfold tnX tnY inv2
  rw [(cs_of_gc (nz_neg ha)).1, (cs_of_gc (nz_neg ha)).2, (cs_inv ha).1, (cs_inv ha).2]
  constructor <;> grind
theorem tn_undo {a : Int × Int} (ha : nz a) (x y : Rat) : tnX (inv2 a) (tnX a x y) (tnY a x y) = x ∧ tnY (inv2 a) (tnX a x y) (tnY a x y) = y := by
  rw [(tn_inv ha _ _).1, (tn_inv ha _ _).2]
  have := cs_one ha
  unfold tnX tnY
  constructor <;> grind
theorem tn_redo {a : Int × Int} (ha : nz a) (x y : Rat) : tnX a (tnX (inv2 a) x y) (tnY (inv2 a) x y) = x ∧ tnY a (tnX (inv2 a) x y) (tnY (inv2 a) x y) = y := by
  rw [(tn_inv ha _ _).1, (tn_inv ha _ _).2]
  have := cs_one ha
  unfold tnX tnY
  constructor <;> grind
theorem tn_lin (a : Int × Int) (x y u v : Rat) : tnX a (x + u) (y + v) = tnX a x y + tnX a u v ∧ tnY a (x + u) (y + v) = tnY a x y + tnY a u v := by
  unfold tnX tnY; constructor <;> grind
theorem tn_neg (a : Int × Int) (x y : Rat) : tnX a (-x) (-y) = - tnX a x y ∧ tnY a (-x) (-y) = - tnY a x y := by
  unfold tnX tnY; constructor <;> grind
theorem tn_len {a : Int × Int} (ha : nz a) (x y : Rat) : tnX a x y * tnX a x y + tnY a x y * tnY a x y = x * x + y * y := by
  have := cs_one ha
  unfold tnX tnY; grind
/-- Marks. -/
def mkN (h : Nat) : Nat → Int × Int
  | 0 => gc ((h % 64 : Nat), 64)
  | n + 1 => gc (gm (mkN h n) (1, 1))
def mk2 (h : Nat) : Int × Int := mkN h (h / 64)
def drN (h : Nat) : Nat → Int × Int
  | 0 => (4096 - ((h % 64 : Nat) : Int) * ((h % 64 : Nat) : Int), 128 * ((h % 64 : Nat) : Int))
  | n + 1 => (-(drN h n).2, (drN h n).1)
def drD (h : Nat) : Int := 4096 + ((h % 64 : Nat) : Int) * ((h % 64 : Nat) : Int)
theorem drD_pos (h : Nat) : 0 < drD h := by
  have : 0 ≤ ((h % 64 : Nat) : Int) * ((h % 64 : Nat) : Int) := Int.mul_nonneg (by omega) (by omega)
  unfold drD; omega
theorem mkN_nz (h : Nat) : ∀ n, nz (mkN h n)
  | 0 => gc_nz _
  | n + 1 => gc_nz _
theorem mkN_gc (h : Nat) : ∀ n, gc (mkN h n) = mkN h n
  | 0 => gc_idem _
  | n + 1 => gc_idem _
theorem mkN_cs (h : Nat) : ∀ n, cs2 (mkN h n) = ((drN h n).1 : Rat) / (drD h : Rat) ∧ sn2 (mkN h n) = ((drN h n).2 : Rat) / (drD h : Rat)
  | 0 => by
    have hz : nz (((h % 64 : Nat) : Int), 64) := fun e => by have := e.2; simp at this
    show cs2 (gc _) = _ ∧ sn2 (gc _) = _
    rw [(cs_of_gc hz).1, (cs_of_gc hz).2]
    unfold cs2 sn2 drN drD
    simp only
    generalize ((h % 64 : Nat) : Int) = k
    have e1 : (64 : Int) * 64 - k * k = 4096 - k * k := by omega
    have e2 : (64 : Int) * 64 + k * k = 4096 + k * k := by omega
    have e3 : (64 : Int) * k + k * 64 = 128 * k := by omega
    rw [e1, e2, e3]; exact ⟨rfl, rfl⟩
  | n + 1 => by
    have hz : nz ((1 : Int), (1 : Int)) := fun e => by cases e.1
    obtain ⟨i1, i2⟩ := mkN_cs h n
    show cs2 (gc _) = _ ∧ sn2 (gc _) = _
    rw [(cs_of_gc (gm_nz (mkN_nz h n) hz)).1, (cs_of_gc (gm_nz (mkN_nz h n) hz)).2, (cs_gm (mkN_nz h n) hz).1, (cs_gm (mkN_nz h n) hz).2, i1, i2]
    have c1 : cs2 ((1 : Int), (1 : Int)) = 0 := by unfold cs2; simp only; rw [show (1 : Int) * 1 - 1 * 1 = 0 from rfl, show (1 : Int) * 1 + 1 * 1 = 2 from rfl]; grind
    have s1 : sn2 ((1 : Int), (1 : Int)) = 1 := by unfold sn2; simp only; rw [show (1 : Int) * 1 + 1 * 1 = 2 from rfl]; grind
    rw [c1, s1]
    show _ = ((-(drN h n).2 : Int) : Rat) / _ ∧ _ = (((drN h n).1 : Int) : Rat) / _
    rw [Rat.intCast_neg]
    constructor <;> grind
end Go.Proofs.YtipenembpidoiaaGreatDoor

/- A framework for functions over values: pure data, a simulation between an abstract state and the model's act and world. No condition. -/
namespace Go.Proofs.YtipenembpidoiaaGreatDoor
open Go.RowKit

/-- A datum of one cell: a scalar, or a slice as the list of its elements, each a list of cells. -/
inductive DC where
  | lit (v : Value)
  | sl (es : List (List DC))

/-- Cells of the abstract state. -/
inductive SC where
  | d (c : DC)
  | nil
  | own (id sz off len : Nat)
  | bad

/-- A value: one cell, or a struct. -/
inductive VV where
  | one (c : SC)
  | agg (cs : List SC)

/-- What a slot holds: nothing known, a value, several values, an address in an own variable, an address in an own array's element, an address of data. -/
inductive SV where
  | none
  | val (x : VV)
  | tup (xs : List VV)
  | ptr (id off : Nat)
  | pe (id sz i j : Nat)
  | pd (cs : List DC)
  | clo (f : FuncId) (id : Nat)

/-- An own object: a variable (its cells), or an array of elements that are data. -/
inductive OO where
  | box (cs : List SC)
  | arr (sz : Nat) (es : List (List DC))

abbrev Objs := Nat → Option OO

/-- The abstract state: slots, own objects, and the numbers of those variables that may hold references. -/
structure St where
  ρ : List SV
  σ : Objs
  rb : List Nat

def at2 {α : Type} (es : List (List α)) (i j : Nat) : Option α := (es[i]?).bind (·[j]?)

def scal : Value → Bool
  | .bool _ | .int _ _ | .string _ => true
  | _ => false

/-- 'v reads as d in w, through blocks outside X'. -/
inductive RdC (w : World) (X : Nat → Prop) : Value → DC → Prop where
  | lit {v : Value} (h : scal v = true) : RdC w X v (.lit v)
  | nil {a : Option Addr} {c : Nat} : RdC w X (.slice a 0 c) (.sl [])
  | sl {b off len cap sz : Nat} {cs : Array Value} {E : TypeId} {fr : Nat × Nat} {es : List (List DC)} (vs : Nat → Nat → Value)
      (hh : w.heap[b]? = some (.cells cs E fr)) (hx : ¬ X b) (hl : len = es.length) (hcap : len ≤ cap)
      (hs : ∀ (i : Nat) (e : List DC), es[i]? = some e → e.length = sz)
      (hv : ∀ (i j : Nat) (d : DC), at2 es i j = some d → cs[off + i * sz + j]? = some (vs i j))
      (hr : ∀ (i j : Nat) (d : DC), at2 es i j = some d → RdC w X (vs i j) d) :
      RdC w X (.slice (some ⟨b, off, none⟩) len cap) (.sl es)

theorem lt_of_heap {w : World} {b : Nat} {o : Obj} (h : w.heap[b]? = some o) : b < w.heap.size := by
  rcases Nat.lt_or_ge b w.heap.size with h' | h'
  · exact h'
  · simp [Array.getElem?_eq_none h'] at h

theorem RdC.mono {w w' : World} {X X' : Nat → Prop} (hX : ∀ b, b < w.heap.size → X' b → X b)
    (hw : ∀ b, b < w.heap.size → ¬ X b → w'.heap[b]? = w.heap[b]?) {v : Value} {d : DC} (h : RdC w X v d) : RdC w' X' v d := by
  induction h with
  | lit h => exact .lit h
  | nil => exact .nil
  | sl vs hh hx hl hcap hs hv _ ih =>
    have hb := lt_of_heap hh
    exact .sl vs ((hw _ hb hx).trans hh) (fun h' => hx (hX _ hb h')) hl hcap hs hv ih

theorem RdC.oneCell {w : World} {X : Nat → Prop} {v : Value} {d : DC} (h : RdC w X v d) : v.oneCell' = true := by
  cases h with
  | lit h => cases v <;> simp_all [scal, Value.oneCell']
  | nil => rfl
  | sl => rfl

def RelC (w : World) (X : Nat → Prop) (μ : Nat → Nat) (v : Value) : SC → Prop
  | .d c => RdC w X v c
  | .nil => v = .slice none 0 0
  | .own id sz off len => ∃ (cap : Nat) (cs : Array Value) (E : TypeId) (fr : Nat × Nat), v = .slice (some ⟨μ id, off * sz, none⟩) len cap ∧ len ≤ cap ∧
      w.heap[μ id]? = some (.cells cs E fr) ∧ (off + cap) * sz ≤ cs.size
  | .bad => v.oneCell' = true

theorem RelC.oneCell {w : World} {X : Nat → Prop} {μ : Nat → Nat} {v : Value} {c : SC} (h : RelC w X μ v c) : v.oneCell' = true := by
  cases c with
  | d c => exact RdC.oneCell h
  | nil => cases h; rfl
  | own => obtain ⟨_, _, _, _, rfl, _⟩ := h; rfl
  | bad => exact h

def RelL (w : World) (X : Nat → Prop) (μ : Nat → Nat) (vs : List Value) (cs : List SC) : Prop :=
  vs.length = cs.length ∧ ∀ (i : Nat) (c : SC), cs[i]? = some c → ∃ v, vs[i]? = some v ∧ RelC w X μ v c

def RelVV (w : World) (X : Nat → Prop) (μ : Nat → Nat) (v : Value) : VV → Prop
  | .one c => RelC w X μ v c
  | .agg cs => ∃ vs : List Value, v = .agg vs.toArray ∧ RelL w X μ vs cs

def RelV (w : World) (X : Nat → Prop) (μ : Nat → Nat) (v : Value) : SV → Prop
  | .none => True
  | .val x => RelVV w X μ v x
  | .tup xs => ∃ vs : List Value, v = .tuple vs.toArray ∧ vs.length = xs.length ∧ ∀ (i : Nat) (x : VV), xs[i]? = some x → ∃ u, vs[i]? = some u ∧ RelVV w X μ u x
  | .ptr id off => v = .pointer (some ⟨μ id, off, none⟩)
  | .pe id sz i j => v = .pointer (some ⟨μ id, i * sz + j, none⟩)
  | .clo f id => v = .func (.func f) #[] #[.pointer (some ⟨μ id, 0, none⟩)]
  | .pd cs => ∃ (b off : Nat) (cells : Array Value) (E : TypeId) (fr : Nat × Nat), v = .pointer (some ⟨b, off, none⟩) ∧ w.heap[b]? = some (.cells cells E fr) ∧ ¬ X b ∧
      ∀ (j : Nat) (d : DC), cs[j]? = some d → ∃ x, cells[off + j]? = some x ∧ RdC w X x d

/-- The world goes on: what lies outside X is kept; every row of cells stays a row of as many cells. -/
structure Fwd (X : Nat → Prop) (w w' : World) : Prop where
  size : w.heap.size ≤ w'.heap.size
  keep : ∀ b, b < w.heap.size → ¬ X b → w'.heap[b]? = w.heap[b]?
  row : ∀ (b : Nat) (cs : Array Value) (E : TypeId) (fr : Nat × Nat), w.heap[b]? = some (Obj.cells cs E fr) → ∃ (cs' : Array Value) (fr' : Nat × Nat), w'.heap[b]? = some (Obj.cells cs' E fr') ∧ cs'.size = cs.size

theorem Fwd.refl (X : Nat → Prop) (w : World) : Fwd X w w := ⟨Nat.le_refl _, fun _ _ _ => rfl, fun _ cs _ fr h => ⟨cs, fr, h, rfl⟩⟩

theorem Fwd.of_below {w w' : World} {X : Nat → Prop} (h : Below w.heap.size w w') : Fwd X w w' :=
  ⟨h.size, fun b hb _ => h.block b hb, fun b cs _ fr hc => ⟨cs, fr, (h.block b (lt_of_heap hc)).trans hc, rfl⟩⟩

theorem RelC.mono {w w' : World} {X X' : Nat → Prop} {μ : Nat → Nat} (hX : ∀ b, b < w.heap.size → X' b → X b) (hw : Fwd X w w') {v : Value} {c : SC}
    (h : RelC w X μ v c) : RelC w' X' μ v c := by
  cases c with
  | d c => exact RdC.mono hX hw.keep h
  | nil => exact h
  | own id sz off len =>
    obtain ⟨cap, cs, E, fr, hv, hle, hh, hsz⟩ := h
    obtain ⟨cs', fr', hh', hs'⟩ := hw.row _ _ _ _ hh
    exact ⟨cap, cs', E, fr', hv, hle, hh', by omega⟩
  | bad => exact h

theorem RelL.mono {w w' : World} {X X' : Nat → Prop} {μ : Nat → Nat} (hX : ∀ b, b < w.heap.size → X' b → X b) (hw : Fwd X w w') {vs : List Value} {cs : List SC}
    (h : RelL w X μ vs cs) : RelL w' X' μ vs cs :=
  ⟨h.1, fun i c hc => let ⟨v, h1, h2⟩ := h.2 i c hc; ⟨v, h1, h2.mono hX hw⟩⟩

theorem RelVV.mono {w w' : World} {X X' : Nat → Prop} {μ : Nat → Nat} (hX : ∀ b, b < w.heap.size → X' b → X b) (hw : Fwd X w w') {v : Value} {x : VV}
    (h : RelVV w X μ v x) : RelVV w' X' μ v x := by
  cases x with
  | one c => exact RelC.mono hX hw h
  | agg cs => obtain ⟨vs, h1, h2⟩ := h; exact ⟨vs, h1, h2.mono hX hw⟩

theorem RelV.mono {w w' : World} {X X' : Nat → Prop} {μ : Nat → Nat} (hX : ∀ b, b < w.heap.size → X' b → X b) (hw : Fwd X w w') {v : Value} {x : SV}
    (h : RelV w X μ v x) : RelV w' X' μ v x := by
  cases x with
  | none => trivial
  | val x => exact RelVV.mono hX hw h
  | tup xs =>
    obtain ⟨vs, h1, h2, h3⟩ := h
    exact ⟨vs, h1, h2, fun i x hx => let ⟨u, a, b⟩ := h3 i x hx; ⟨u, a, b.mono hX hw⟩⟩
  | ptr id off => exact h
  | pe id sz i j => exact h
  | clo f id => exact h
  | pd cs =>
    obtain ⟨b, off, cells, E, fr, h1, h2, h3, h4⟩ := h
    have hb := lt_of_heap h2
    exact ⟨b, off, cells, E, fr, h1, (hw.keep b hb h3).trans h2, fun h' => h3 (hX b hb h'), fun j d hd => let ⟨x, e1, e2⟩ := h4 j d hd; ⟨x, e1, e2.mono hX hw.keep⟩⟩

/-! ### References to an object's number -/
def SC.noRef (id : Nat) : SC → Bool
  | .own id' _ _ _ => id' != id
  | _ => true
def VV.noRef (id : Nat) : VV → Bool
  | .one c => c.noRef id
  | .agg cs => cs.all (SC.noRef id)
def SV.noRef (id : Nat) : SV → Bool
  | .none | .pd _ => true
  | .val x => x.noRef id
  | .tup xs => xs.all (VV.noRef id)
  | .ptr id' _ => id' != id
  | .pe id' _ _ _ => id' != id
  | .clo _ id' => id' != id
def OO.noRef (id : Nat) : OO → Bool
  | .box cs => cs.all (SC.noRef id)
  | .arr _ _ => true

theorem RelC.ren {w : World} {X : Nat → Prop} {μ μ' : Nat → Nat} {v : Value} {c : SC} (h : RelC w X μ v c) {id : Nat} (hc : c.noRef id = true)
    (hm : ∀ k, k ≠ id → μ' k = μ k) : RelC w X μ' v c := by
  cases c with
  | own id' sz off len =>
    have hne : id' ≠ id := by simpa [SC.noRef] using hc
    obtain ⟨cap, cs, E, fr, hv, hle, hh, hsz⟩ := h
    exact ⟨cap, cs, E, fr, by rw [hm _ hne]; exact hv, hle, by rw [hm _ hne]; exact hh, hsz⟩
  | d c => exact h
  | nil => exact h
  | bad => exact h

theorem RelL.ren {w : World} {X : Nat → Prop} {μ μ' : Nat → Nat} {vs : List Value} {cs : List SC} (h : RelL w X μ vs cs) {id : Nat} (hc : cs.all (SC.noRef id) = true)
    (hm : ∀ k, k ≠ id → μ' k = μ k) : RelL w X μ' vs cs :=
  ⟨h.1, fun i c hi => let ⟨v, h1, h2⟩ := h.2 i c hi; ⟨v, h1, h2.ren (List.all_eq_true.1 hc c (List.mem_of_getElem? hi)) hm⟩⟩

theorem RelVV.ren {w : World} {X : Nat → Prop} {μ μ' : Nat → Nat} {v : Value} {x : VV} (h : RelVV w X μ v x) {id : Nat} (hc : x.noRef id = true)
    (hm : ∀ k, k ≠ id → μ' k = μ k) : RelVV w X μ' v x := by
  cases x with
  | one c => exact RelC.ren h hc hm
  | agg cs => obtain ⟨vs, h1, h2⟩ := h; exact ⟨vs, h1, h2.ren hc hm⟩

theorem RelV.ren {w : World} {X : Nat → Prop} {μ μ' : Nat → Nat} {v : Value} {x : SV} (h : RelV w X μ v x) {id : Nat} (hc : x.noRef id = true)
    (hm : ∀ k, k ≠ id → μ' k = μ k) : RelV w X μ' v x := by
  cases x with
  | none => trivial
  | val x => exact RelVV.ren h hc hm
  | tup xs =>
    obtain ⟨vs, h1, h2, h3⟩ := h
    exact ⟨vs, h1, h2, fun i x hx => let ⟨u, a, b⟩ := h3 i x hx; ⟨u, a, b.ren (List.all_eq_true.1 hc x (List.mem_of_getElem? hx)) hm⟩⟩
  | ptr id' off =>
    have hne : id' ≠ id := by simpa [SV.noRef] using hc
    show v = _; rw [hm _ hne]; exact h
  | pe id' sz i j =>
    have hne : id' ≠ id := by simpa [SV.noRef] using hc
    show v = _; rw [hm _ hne]; exact h
  | clo f id' =>
    have hne : id' ≠ id := by simpa [SV.noRef] using hc
    show v = _; rw [hm _ hne]; exact h
  | pd cs => exact h

/-! ### The simulation -/
def St.get (st : St) (i : Nat) : SV := st.ρ.getD i .none
def St.put (st : St) (dst : Option Tmp) (v : SV) : St :=
  match dst with
  | some d => { st with ρ := st.ρ.set d v }
  | none => st

/-- Blocks that may change. -/
def Mut (X : Nat → Prop) (μ : Nat → Nat) (σ : Objs) (b : Nat) : Prop := X b ∨ ∃ id o, σ id = some o ∧ μ id = b

/-- An own object in the heap: its cells. -/
def RelO (w : World) (X : Nat → Prop) (μ : Nat → Nat) (cs : Array Value) : OO → Prop
  | .box o => o.length ≤ cs.size ∧ ∀ (i : Nat) (c : SC), o[i]? = some c → ∃ x, cs[i]? = some x ∧ RelC w X μ x c
  | .arr sz es => es.length * sz ≤ cs.size ∧ (∀ (i : Nat) (e : List DC), es[i]? = some e → e.length = sz) ∧
      ∀ (i j : Nat) (d : DC), at2 es i j = some d → ∃ x, cs[i * sz + j]? = some x ∧ RdC w X x d

structure Sim (w0 : World) (X : Nat → Prop) (μ : Nat → Nat) (a : Act) (w : World) (st : St) : Prop where
  xlt : ∀ b, X b → b < w0.heap.size
  dfr : a.defers = []
  bel : Below w0.heap.size w0 w
  len : a.tmps.size = st.ρ.length
  slots : ∀ i, RelV w (Mut X μ st.σ) μ (a.tmps.getD i undef) (st.get i)
  objs : ∀ (id : Nat) (o : OO), st.σ id = some o → w0.heap.size ≤ μ id ∧ ∃ (cs : Array Value) (E : TypeId), w.heap[μ id]? = some (Obj.cells cs E (0, 0)) ∧ RelO w (Mut X μ st.σ) μ cs o
  inj : ∀ (i j : Nat) (o o' : OO), st.σ i = some o → st.σ j = some o' → μ i = μ j → i = j
  rbs : ∀ (id : Nat) (cs : List SC), st.σ id = some (.box cs) → id ∉ st.rb → ∀ k, cs.all (SC.noRef k) = true

/-- 'From every act and world that the state speaks of, the code comes to an end of which Q speaks.' -/
def AWP (P : Program) (w0 : World) (X : Nat → Prop) (c : Code) (Q : Exit → St → Prop) (st : St) : Prop :=
  ∀ μ a w, Sim w0 X μ a w st → c.wp P (fun e a' w' => ∃ μ' st', Sim w0 X μ' a' w' st' ∧ Q e st') a w

theorem RelO.mono {w w' : World} {X X' : Nat → Prop} {μ : Nat → Nat} (hX : ∀ b, b < w.heap.size → X' b → X b) (hw : Fwd X w w') {cs : Array Value} {o : OO}
    (h : RelO w X μ cs o) : RelO w' X' μ cs o := by
  cases o with
  | box o => exact ⟨h.1, fun i c hc => let ⟨x, h1, h2⟩ := h.2 i c hc; ⟨x, h1, h2.mono hX hw⟩⟩
  | arr sz es => exact ⟨h.1, h.2.1, fun i j d hd => let ⟨x, h1, h2⟩ := h.2.2 i j d hd; ⟨x, h1, h2.mono hX hw.keep⟩⟩

theorem RelO.ren {w : World} {X : Nat → Prop} {μ μ' : Nat → Nat} {cs : Array Value} {o : OO} (h : RelO w X μ cs o) {id : Nat} (hc : o.noRef id = true)
    (hm : ∀ k, k ≠ id → μ' k = μ k) : RelO w X μ' cs o := by
  cases o with
  | box o => exact ⟨h.1, fun i c hi => let ⟨x, h1, h2⟩ := h.2 i c hi; ⟨x, h1, h2.ren (List.all_eq_true.1 hc c (List.mem_of_getElem? hi)) hm⟩⟩
  | arr sz es => exact h

end Go.Proofs.YtipenembpidoiaaGreatDoor

/- Memory: loading and storing rows of cells. No condition. -/
namespace Go.Proofs.YtipenembpidoiaaGreatDoor

theorem addr_add (b off n : Nat) : (Addr.add ⟨b, off, none⟩ n) = ⟨b, off + n, none⟩ := by
  unfold Addr.add
  split
  · rename_i h; simp [h]
  · rfl

theorem cell_of_heap {w : World} {b : Nat} {cs : Array Value} {E : TypeId} {fr : Nat × Nat} (h : w.heap[b]? = some (.cells cs E fr)) (off : Nat) :
    w.cell? ⟨b, off, none⟩ = cs[off]? := by
  simp [World.cell?, h]

theorem run_loadCellsFrom {P : Program} {w : World} {b : Nat} {cs : Array Value} {E : TypeId} {fr : Nat × Nat} (h : w.heap[b]? = some (.cells cs E fr)) (off : Nat) :
    ∀ (n i : Nat) (acc : Array Value), off + i + n ≤ cs.size →
      (loadCellsFrom ⟨b, off, none⟩ i n acc).run P w = .ok (acc ++ cs.extract (off + i) (off + i + n)) w := by
  intro n
  induction n with
  | zero => intro i acc _; simp only [loadCellsFrom, Sem.run_pure, Nat.add_zero, Array.extract_eq_empty_of_le (show min (off + i) cs.size ≤ off + i by omega), Array.append_empty]
  | succ n ih =>
    intro i acc hle
    have hlt : off + i < cs.size := by omega
    simp only [loadCellsFrom, Sem.run_bind, addr_add, run_load, cell_of_heap h, Array.getElem?_eq_getElem hlt, Result.andThen_ok]
    rw [ih (i + 1) _ (by omega)]
    congr 1
    apply Array.ext'
    simp only [Array.toList_append, Array.toList_push, Array.toList_extract, List.append_assoc]
    congr 1
    have e1 : off + (i + 1) = off + i + 1 := by omega
    have e2 : off + i + 1 + n = off + i + (n + 1) := by omega
    rw [e1, e2, List.extract_eq_take_drop, List.extract_eq_take_drop]
    have hlt' : off + i < cs.toList.length := by simpa using hlt
    rw [List.drop_eq_getElem_cons hlt']
    have e3 : off + i + (n + 1) - (off + i) = n + 1 := by omega
    have e4 : off + i + (n + 1) - (off + i + 1) = n := by omega
    rw [e3, e4, List.take_succ_cons]
    simp

theorem run_loadCells {P : Program} {w : World} {b : Nat} {cs : Array Value} {E : TypeId} {fr : Nat × Nat} (h : w.heap[b]? = some (.cells cs E fr)) (off n : Nat) (hle : off + n ≤ cs.size) :
    (loadCells ⟨b, off, none⟩ n).run P w = .ok (cs.extract off (off + n)) w := by
  unfold loadCells
  rw [run_loadCellsFrom h off n 0 #[] (by omega)]
  simp

/-- Values laid over a row from place k on. -/
def spl (cs : Array Value) : Nat → List Value → Array Value
  | _, [] => cs
  | k, v :: vs => spl (cs.setIfInBounds k v) (k + 1) vs

theorem spl_size : ∀ (vs : List Value) (cs : Array Value) (k : Nat), (spl cs k vs).size = cs.size
  | [], _, _ => rfl
  | v :: vs, cs, k => by rw [spl, spl_size vs]; simp

theorem spl_get : ∀ (vs : List Value) (cs : Array Value) (k m : Nat), k + vs.length ≤ cs.size →
    (spl cs k vs)[m]? = if k ≤ m ∧ m < k + vs.length then vs[m - k]? else cs[m]?
  | [], cs, k, m, _ => by rw [spl, if_neg (by simp)]
  | v :: vs, cs, k, m, h => by
    simp only [List.length_cons] at h
    rw [spl, spl_get vs _ _ _ (by simp; omega)]
    simp only [List.length_cons]
    by_cases hm : m = k
    · subst hm
      rw [if_neg (by omega), if_pos (by omega)]
      have hlt : m < cs.size := by omega
      simp [hlt]
    · by_cases h1 : k + 1 ≤ m ∧ m < k + 1 + vs.length
      · rw [if_pos h1, if_pos (by omega)]
        have : m - k = (m - (k + 1)) + 1 := by omega
        rw [this, List.getElem?_cons_succ]
      · rw [if_neg h1, if_neg (by omega)]
        rw [Array.getElem?_setIfInBounds_ne (Ne.symm hm)]

def setRow (w : World) (b : Nat) (cs : Array Value) : World :=
  { w with heap := w.heap.modify b fun
      | .cells _ E fr => .cells cs E fr
      | o => o }

theorem setRow_heap_ne (w : World) (b : Nat) (cs : Array Value) {k : Nat} (h : k ≠ b) : (setRow w b cs).heap[k]? = w.heap[k]? := by
  simp only [setRow, Array.getElem?_modify]
  rw [if_neg (Ne.symm h)]

theorem setRow_heap {w : World} {b : Nat} {cs : Array Value} {E : TypeId} {fr : Nat × Nat} (h : w.heap[b]? = some (.cells cs E fr)) (cs' : Array Value) :
    (setRow w b cs').heap[b]? = some (.cells cs' E fr) := by
  simp only [setRow, Array.getElem?_modify, if_true, h, Option.map_some]

theorem setRow_size (w : World) (b : Nat) (cs : Array Value) : (setRow w b cs).heap.size = w.heap.size := by simp [setRow]

theorem setRow_same {w : World} {b : Nat} {cs : Array Value} {E : TypeId} {fr : Nat × Nat} (h : w.heap[b]? = some (.cells cs E fr)) : setRow w b cs = w := by
  have : w.heap.modify b (fun | .cells _ E fr => .cells cs E fr | o => o) = w.heap := by
    apply Array.ext_getElem?
    intro i
    rw [Array.getElem?_modify]
    split
    · rename_i hi; subst hi; simp [h]
    · rfl
  unfold setRow; rw [this]

theorem setRow_setRow {w : World} {b : Nat} {cs cs' cs'' : Array Value} {E : TypeId} {fr : Nat × Nat} (h : w.heap[b]? = some (.cells cs E fr)) :
    setRow (setRow w b cs') b cs'' = setRow w b cs'' := by
  have : (setRow w b cs').heap.modify b (fun | .cells _ E fr => .cells cs'' E fr | o => o) = w.heap.modify b (fun | .cells _ E fr => .cells cs'' E fr | o => o) := by
    apply Array.ext_getElem?
    intro i
    rw [Array.getElem?_modify, Array.getElem?_modify]
    split
    · rename_i hi; subst hi; rw [setRow_heap h, h]; rfl
    · rename_i hi; exact setRow_heap_ne _ _ _ (Ne.symm hi)
  unfold setRow at this ⊢
  simp only [this]

theorem setCell_row {w : World} {b : Nat} {cs : Array Value} {E : TypeId} {fr : Nat × Nat} (h : w.heap[b]? = some (.cells cs E fr)) (off : Nat) (v : Value) :
    w.setCell ⟨b, off, none⟩ v = setRow w b (cs.setIfInBounds off v) := by
  have : w.heap.modify b (fun | .cells c elem frozen => .cells (if (none : Option Nat).isSome then c else c.setIfInBounds off v) elem frozen | o => o) =
      w.heap.modify b (fun | .cells _ E fr => .cells (cs.setIfInBounds off v) E fr | o => o) := by
    apply Array.ext_getElem?
    intro i
    rw [Array.getElem?_modify, Array.getElem?_modify]
    split
    · rename_i hi; subst hi; simp [h]
    · rfl
  unfold World.setCell setRow
  exact congrArg (fun hp => ({ w with heap := hp } : World)) this

theorem frozen_of_heap {w : World} {b : Nat} {cs : Array Value} {E : TypeId} (h : w.heap[b]? = some (.cells cs E (0, 0))) (off : Nat) :
    w.frozen? ⟨b, off, none⟩ = false := by
  simp [World.frozen?, h]

theorem run_storeCells {P : Program} : ∀ (vs : List Value) {w : World} {b : Nat} {cs : Array Value} {E : TypeId} (_ : w.heap[b]? = some (.cells cs E (0, 0))) (off i : Nat),
    off + i + vs.length ≤ cs.size → (∀ v ∈ vs, v.oneCell' = true) →
      (storeCells ⟨b, off, none⟩ vs i).run P w = .ok () (setRow w b (spl cs (off + i) vs))
  | [], w, b, cs, E, h, off, i, _, _ => by
    simp only [storeCells, Sem.run_pure, spl]
    rw [setRow_same h]
  | v :: vs, w, b, cs, E, h, off, i, hle, hv => by
    simp only [List.length_cons] at hle
    have hlt : off + i < cs.size := by omega
    simp only [storeCells, Sem.run_bind, addr_add]
    rw [run_store P w _ v _ (hv v (by simp))]
    simp only [cell_of_heap h, Array.getElem?_eq_getElem hlt, frozen_of_heap h]
    rw [if_neg (by simp), setCell_row h]
    simp only [Result.andThen_ok]
    rw [run_storeCells vs (setRow_heap h _) off (i + 1) (by simp; omega) (fun v hv' => hv v (by simp [hv']))]
    rw [setRow_setRow h]
    rfl

theorem setRow_below {w : World} {b B : Nat} (cs : Array Value) (hb : B ≤ b) : RowKit.Below B w (setRow w b cs) :=
  ⟨rfl, rfl, rfl, by rw [setRow_size]; exact Nat.le_refl _, fun k hk => setRow_heap_ne _ _ _ (by omega)⟩

theorem setRow_fwd {w : World} {b : Nat} {X : Nat → Prop} {cs cs' : Array Value} {E : TypeId} {fr : Nat × Nat} (h : w.heap[b]? = some (.cells cs E fr)) (hs : cs'.size = cs.size) (hX : X b) :
    Fwd X w (setRow w b cs') := by
  refine ⟨by rw [setRow_size]; exact Nat.le_refl _, fun k _ hk => setRow_heap_ne _ _ _ (fun e => hk (e ▸ hX)), fun k c E' fr' hc => ?_⟩
  by_cases hk : k = b
  · subst hk
    rw [h] at hc; cases hc
    exact ⟨cs', fr, setRow_heap h cs', hs⟩
  · exact ⟨c, fr', by rw [setRow_heap_ne _ _ _ hk]; exact hc, rfl⟩

theorem alloc_fwd (X : Nat → Prop) (w : World) (o : Obj) : Fwd X w (w.alloc o) :=
  ⟨by simp, fun b hb _ => RowKit.Below.heap_alloc w o b hb, fun b cs E fr hc => ⟨cs, fr, by rw [RowKit.Below.heap_alloc w o b (lt_of_heap hc)]; exact hc, rfl⟩⟩

theorem alloc_heap (w : World) (o : Obj) : (w.alloc o).heap[w.heap.size]? = some o := by show (w.heap.push o)[w.heap.size]? = _; simp

/-! ### The types' table -/
inductive TD where
  | slice (e : TypeId)
  | struct (fs : List (Nat × TypeId))
  | int (k : IntKind)
  | bool
  | string
  | other

structure TI where
  size : Nat
  bytes : Nat
  agg : Bool
  zero : List SC
  und : TD

def tdOf : TypeDesc → TD
  | .slice e => .slice e
  | .struct fs => .struct (fs.toList.map fun f => (f.offset, f.type))
  | .int k => .int k
  | .bool => .bool
  | .string => .string
  | _ => .other

def zcell : SC → Value
  | .d (.lit v) => v
  | _ => .slice none 0 0

def mkV (agg : Bool) (vs : List Value) : Value := if agg then .agg vs.toArray else vs.headD undef

def isAggD : TypeDesc → Bool
  | .struct _ | .array _ _ => true
  | _ => false

/-- What is asked of the table's row: closed facts of the program. -/
structure TF (P : Program) (t : TypeId) (ti : TI) : Prop where
  info : (P.info? t).map (fun i => (i.size, i.bytes, i.zero)) = some (ti.size, ti.bytes, some (mkV ti.agg (ti.zero.map zcell)))
  und : (P.underlying t).map tdOf = some ti.und
  agg : (P.underlying t).map isAggD = some ti.agg
  zsz : ti.zero.length = ti.size
  zok : ti.zero.all (fun c => match c with | .d (.lit v) => scal v | .nil => true | _ => false) = true
  one : ti.agg = false → ti.size = 1

/-- What a call hands back: a value, and perhaps one new array of its own, to which all own references of the value refer. -/
structure Res where
  v : SV
  ob : Option (Nat × List (List DC)) := none

def rnC (d : Nat) : SC → SC
  | .own _ sz off len => .own d sz off len
  | c => c
def rnVV (d : Nat) : VV → VV
  | .one c => .one (rnC d c)
  | .agg cs => .agg (cs.map (rnC d))
def rnSV (d : Nat) : SV → SV
  | .val x => .val (rnVV d x)
  | .tup xs => .tup (xs.map (rnVV d))
  | x => x

def isLit : DC → Bool
  | .lit _ => true
  | .sl _ => false
def SC.flat : SC → Bool
  | .d (.lit _) => true
  | .d (.sl []) => true
  | .nil => true
  | .own _ _ _ _ => true
  | _ => false
def VV.flat : VV → Bool
  | .one c => c.flat
  | .agg cs => cs.all SC.flat
def SV.flat : SV → Bool
  | .val x => x.flat
  | .tup xs => xs.all VV.flat
  | .none => true
  | _ => false
def Flat (r : Res) : Prop := r.v.flat = true ∧ ∀ (sz : Nat) (es : List (List DC)), r.ob = some (sz, es) → ∀ e ∈ es, ∀ d ∈ e, isLit d = true

def Xp (X : Nat → Prop) (r : Res) (b c : Nat) : Prop := X c ∨ (r.ob.isSome = true ∧ c = b)
def RelRes (w : World) (X : Nat → Prop) (base : Nat) (v : Value) (r : Res) : Prop :=
  ∃ b, (∀ (sz : Nat) (es : List (List DC)), r.ob = some (sz, es) → base ≤ b ∧ ∃ (cs : Array Value) (E : TypeId), w.heap[b]? = some (Obj.cells cs E (0, 0)) ∧ RelO w (Xp X r b) (fun _ => b) cs (.arr sz es)) ∧
    RelV w (Xp X r b) (fun _ => b) v r.v

/-- The contract: called with values that read as 'args', the function returns what reads as 'r', and leaves all that was there as it was. -/
def Con (P : Program) (f : FuncId) (args : List SV) (r : Res) : Prop :=
  (∃ fn, P.funcs[f]? = some fn ∧ (fn.name == "runtime.NumGoroutine") = false ∧ fn.body.isSome = true) ∧
    ∀ (w : World) (X : Nat → Prop) (μ : Nat → Nat) (vs : List Value), (∀ b, X b → b < w.heap.size) → vs.length = args.length → (∀ (i : Nat) (x : SV), args[i]? = some x → ∃ v, vs[i]? = some v ∧ RelV w X μ v x) →
      Calls P f vs.toArray w (fun e w' => ∃ v, e = .returned v ∧ RowKit.Below w.heap.size w w' ∧ RelRes w' X w.heap.size v r)

def SC.noOwn : SC → Bool
  | .own _ _ _ _ => false
  | _ => true
def VV.noOwn : VV → Bool
  | .one c => c.noOwn
  | .agg cs => cs.all SC.noOwn
def SV.noOwn : SV → Bool
  | .val x => x.noOwn
  | .tup xs => xs.all VV.noOwn
  | _ => true

def SV.noAddr : SV → Bool
  | .ptr _ _ | .pe _ _ _ _ | .clo _ _ => false
  | _ => true
/-- The table: the types, and what is known of functions that are closures' bodies (called with one captured variable's address at the end). -/
structure Tab where
  ty : Nat → Option TI
  clo : FuncId → List SV → Option SV
  dat : Nat → Bool := fun _ => false
  eqs : Nat → Option Nat := fun _ => none
instance : CoeFun Tab (fun _ => Nat → Option TI) := ⟨Tab.ty⟩
/-- Two structs of n integers are compared as their integers are. -/
def EqOK (P : Program) (t : TypeId) (n : Nat) : Prop :=
  ∀ (w : World) (ox oy : Operand) (a b : List Int), a.length = n → b.length = n →
    ((do eqGuard .eql t ox oy (.agg (a.map (Value.int .i64)).toArray) (.agg (b.map (Value.int .i64)).toArray); binOp .eql t (.agg (a.map (Value.int .i64)).toArray) (.agg (b.map (Value.int .i64)).toArray)) : Sem Value).run P w = .ok (.bool (a == b)) w ∧
    ((do eqGuard .neq t ox oy (.agg (a.map (Value.int .i64)).toArray) (.agg (b.map (Value.int .i64)).toArray); binOp .neq t (.agg (a.map (Value.int .i64)).toArray) (.agg (b.map (Value.int .i64)).toArray)) : Sem Value).run P w = .ok (.bool (!(a == b))) w
structure TOK (P : Program) (T : Tab) : Prop where
  ty : ∀ t ti, T.ty t = some ti → TF P t ti
  clo : ∀ f args v, T.clo f args = some v → Con P f args { v := v } ∧ v.flat = true ∧ v.noOwn = true ∧ v.noAddr = true
  eqs : ∀ t n, T.eqs t = some n → EqOK P t n

section
variable {P : Program} {t : TypeId} {ti : TI} (h : TF P t ti) (w : World)
include h
theorem TF.run_sizeOf : (sizeOf t).run P w = .ok ti.size w := by
  have h1 := h.info
  cases hi : P.info? t with
  | none => rw [hi] at h1; cases h1
  | some i =>
    rw [hi] at h1; simp only [Option.map_some, Option.some.injEq, Prod.mk.injEq] at h1
    simp only [sizeOf, typeInfo, Sem.run_bind, run_program, Result.andThen_ok, hi, Sem.run_pure, h1.1]
theorem TF.run_zero : (zeroValue t).run P w = .ok (mkV ti.agg (ti.zero.map zcell)) w := by
  have h1 := h.info
  cases hi : P.info? t with
  | none => rw [hi] at h1; cases h1
  | some i =>
    rw [hi] at h1; simp only [Option.map_some, Option.some.injEq, Prod.mk.injEq] at h1
    simp only [zeroValue, typeInfo, Sem.run_bind, run_program, Result.andThen_ok, hi, Sem.run_pure, h1.2.2]
theorem TF.run_bytes : ∃ i, (typeInfo t).run P w = .ok i w ∧ i.bytes = ti.bytes ∧ i.size = ti.size := by
  have h1 := h.info
  cases hi : P.info? t with
  | none => rw [hi] at h1; cases h1
  | some i =>
    rw [hi] at h1; simp only [Option.map_some, Option.some.injEq, Prod.mk.injEq] at h1
    exact ⟨i, by simp only [typeInfo, Sem.run_bind, run_program, Result.andThen_ok, hi, Sem.run_pure], h1.2.1, h1.1⟩
theorem TF.run_und : ∃ u, (underlying t).run P w = .ok u w ∧ tdOf u = ti.und ∧ isAggD u = ti.agg := by
  have h1 := h.und
  have h2 := h.agg
  cases hi : P.underlying t with
  | none => rw [hi] at h1; cases h1
  | some u =>
    rw [hi] at h1 h2; simp only [Option.map_some, Option.some.injEq] at h1 h2
    exact ⟨u, by simp only [underlying, Sem.run_bind, run_program, Result.andThen_ok, hi, Sem.run_pure], h1, h2⟩
theorem TF.run_isAgg : (isAgg t).run P w = .ok ti.agg w := by
  obtain ⟨u, hu, _, ha⟩ := h.run_und w
  simp only [isAgg, Sem.run_bind, hu, Result.andThen_ok]
  rw [← ha]
  cases u <;> rfl
theorem TF.run_slice {e : TypeId} (he : ti.und = .slice e) : (underlying t).run P w = .ok (.slice e) w := by
  obtain ⟨u, hu, hd, _⟩ := h.run_und w
  rw [he] at hd
  cases u <;> simp only [tdOf] at hd <;> cases hd
  exact hu
theorem TF.run_int {k : IntKind} (he : ti.und = .int k) : (underlying t).run P w = .ok (.int k) w := by
  obtain ⟨u, hu, hd, _⟩ := h.run_und w
  rw [he] at hd
  cases u <;> simp only [tdOf] at hd <;> cases hd
  exact hu
theorem TF.run_string (he : ti.und = .string) : (underlying t).run P w = .ok .string w := by
  obtain ⟨u, hu, hd, _⟩ := h.run_und w
  rw [he] at hd
  cases u <;> simp only [tdOf] at hd <;> cases hd
  exact hu
theorem TF.run_bool (he : ti.und = .bool) : (underlying t).run P w = .ok .bool w := by
  obtain ⟨u, hu, hd, _⟩ := h.run_und w
  rw [he] at hd
  cases u <;> simp only [tdOf] at hd <;> cases hd
  exact hu
theorem TF.run_struct {fs : List (Nat × TypeId)} (he : ti.und = .struct fs) : ∃ fields : Array Field, (underlying t).run P w = .ok (.struct fields) w ∧
    fields.toList.map (fun f => (f.offset, f.type)) = fs := by
  obtain ⟨u, hu, hd, _⟩ := h.run_und w
  rw [he] at hd
  cases u <;> simp only [tdOf] at hd <;> cases hd
  exact ⟨_, hu, rfl⟩
end

end Go.Proofs.YtipenembpidoiaaGreatDoor

/- What each operation does to the abstract state. No condition. -/
namespace Go.Proofs.YtipenembpidoiaaGreatDoor

def cellOfV (v : Value) : SC :=
  match v with
  | .slice none 0 0 => .nil
  | .bool _ | .int _ _ | .string _ => .d (.lit v)
  | _ => .bad

def constV : Value → SV
  | .slice none 0 0 => .val (.one .nil)
  | .bool b => .val (.one (.d (.lit (.bool b))))
  | .int k n => .val (.one (.d (.lit (.int k n))))
  | .string s => .val (.one (.d (.lit (.string s))))
  | .agg cs => if cs.toList.all Value.oneCell' then .val (.agg (cs.toList.map cellOfV)) else .none
  | _ => .none

def opd (st : St) : Operand → SV
  | .tmp t => st.get t
  | .const v => constV v
  | _ => .none

def cellsOf : VV → List SC
  | .one c => [c]
  | .agg cs => cs
def mkVV (agg : Bool) (cs : List SC) : Option VV :=
  if agg then some (.agg cs) else match cs with
    | [c] => some (.one c)
    | _ => none
def SC.data? : SC → Option DC
  | .d c => some c
  | .nil => some (.sl [])
  | _ => none
def dataL : List SC → Option (List DC)
  | [] => some []
  | c :: cs => match c.data?, dataL cs with
    | some d, some ds => some (d :: ds)
    | _, _ => none
/-- Values laid over a list from place k on. -/
def splL {α : Type} (l : List α) : Nat → List α → List α
  | _, [] => l
  | k, v :: vs => splL (l.set k v) (k + 1) vs

inductive Eff where
  | set (v : SV)
  | new (o : OO) (v : Nat → SV)
  | upd (σ : Objs) (rb : List Nat)
  | app (id : Option Nat) (sz : Nat) (es : List (List DC))
  | call (f : FuncId) (args : List SV)
  | stuck

def binA : BinOp → Value → Value → Option Value
  | .shl, .int k a, .int _ b => if b < 0 then none else some (.int k (k.wrap (a * 2 ^ (min b.toNat k.bits))))
  | .shr, .int k a, .int _ b => if b < 0 then none else some (.int k (a.fdiv (2 ^ (min b.toNat k.bits))))
  | .add, .int k a, .int k' b => if k = k' then some (.int k (k.wrap (a + b))) else none
  | .sub, .int k a, .int k' b => if k = k' then some (.int k (k.wrap (a - b))) else none
  | .mul, .int k a, .int k' b => if k = k' then some (.int k (k.wrap (a * b))) else none
  | .quo, .int k a, .int k' b => if k = k' then if b = 0 then none else some (.int k (k.wrap (a.tdiv b))) else none
  | .rem, .int k a, .int k' b => if k = k' then if b = 0 then none else some (.int k (a.tmod b)) else none
  | .and, .int k a, .int k' b => if k = k' then some (.int k (k.wrap ((BitVec.ofInt k.bits a &&& BitVec.ofInt k.bits b).toNat))) else none
  | .or, .int k a, .int k' b => if k = k' then some (.int k (k.wrap ((BitVec.ofInt k.bits a ||| BitVec.ofInt k.bits b).toNat))) else none
  | .xor, .int k a, .int k' b => if k = k' then some (.int k (k.wrap ((BitVec.ofInt k.bits a ^^^ BitVec.ofInt k.bits b).toNat))) else none
  | .andNot, .int k a, .int k' b => if k = k' then some (.int k (k.wrap ((BitVec.ofInt k.bits a &&& ~~~ BitVec.ofInt k.bits b).toNat))) else none
  | .eql, .int k a, .int k' b => if k = k' then some (.bool (a == b)) else none
  | .neq, .int k a, .int k' b => if k = k' then some (.bool (a != b)) else none
  | .lss, .int k a, .int k' b => if k = k' then some (.bool (a < b)) else none
  | .leq, .int k a, .int k' b => if k = k' then some (.bool (a ≤ b)) else none
  | .gtr, .int k a, .int k' b => if k = k' then some (.bool (a > b)) else none
  | .geq, .int k a, .int k' b => if k = k' then some (.bool (a ≥ b)) else none
  | .eql, .string a, .string b => some (.bool (a.toList == b.toList))
  | .neq, .string a, .string b => some (.bool (!(a.toList == b.toList)))
  | .add, .string a, .string b => if a.size + b.size ≤ 4611686018427387904 then some (.string (a ++ b)) else none
  | _, _, _ => none

def unA : UnOp → Value → Option Value
  | .neg, .int k n => some (.int k (k.wrap (0 - n)))
  | .xor, .int k n => some (.int k (k.wrap ((BitVec.ofInt k.bits (if k.signed then -1 else k.max) ^^^ BitVec.ofInt k.bits n).toNat)))
  | .not, .bool b => some (.bool !b)
  | _, _ => none

def litOf : SV → Option Value
  | .val (.one (.d (.lit v))) => some v
  | _ => none
def intOfS : SV → Option (IntKind × Int)
  | .val (.one (.d (.lit (.int k n)))) => some (k, n)
  | _ => none
def setLit (v : Value) : Eff := .set (.val (.one (.d (.lit v))))

def isBoolT (T : Tab) (t : TypeId) : Bool :=
  match T t with
  | some ti => match ti.und with
    | .bool => true
    | _ => false
  | none => false
def intsC : List SC → Option (List Int)
  | [] => some []
  | .d (.lit (.int .i64 n)) :: cs => match intsC cs with
    | some l => some (n :: l)
    | none => none
  | _ => none
def effEq (T : Tab) (op : BinOp) (t : TypeId) (x y : SV) : Eff :=
  match T.eqs t, x, y with
  | some n, .val (.agg cs), .val (.agg ds) => match intsC cs, intsC ds with
    | some a, some b => if a.length = n ∧ b.length = n then match op with
        | .eql => setLit (.bool (a == b))
        | .neq => setLit (.bool (!(a == b)))
        | _ => .stuck else .stuck
    | _, _ => .stuck
  | _, _, _ => .stuck
def effBin (T : Tab) (op : BinOp) (t : TypeId) (x y : SV) : Eff :=
  match litOf x, litOf y with
  | some a, some b => match binA op a b with
    | some v => setLit v
    | none => match op, a, b with
      | .eql, .bool p, .bool q => if isBoolT T t then setLit (.bool (p == q)) else .stuck
      | .neq, .bool p, .bool q => if isBoolT T t then setLit (.bool (!(p == q))) else .stuck
      | _, _, _ => .stuck
  | _, _ => effEq T op t x y
def effUn (op : UnOp) (x : SV) : Eff :=
  match litOf x with
  | some a => match unA op a with
    | some v => setLit v
    | none => .stuck
  | none => .stuck
def effPick (c a b : SV) : Eff :=
  match litOf c with
  | some (.bool t) => .set (if t then a else b)
  | _ => .stuck
def effConv (T : Tab) (src dst : TypeId) (x : SV) : Eff :=
  match T src, T dst, intOfS x with
  | some _, some td, some (_, n) => match td.und with
    | .int k => setLit (.int k (k.wrap n))
    | _ => .stuck
  | _, _, _ => .stuck
def effLoad (T : Tab) (st : St) (t : TypeId) (x : SV) : Eff :=
  match T t with
  | none => .stuck
  | some ti => match x with
    | .ptr id off => match st.σ id with
      | some (.box cs) => if off + ti.size ≤ cs.length then match mkVV ti.agg ((cs.drop off).take ti.size) with
        | some v => .set (.val v)
        | none => .stuck else .stuck
      | _ => .stuck
    | .pe id sz i j => match st.σ id with
      | some (.arr sz' es) => if sz' = sz then match es[i]? with
        | some e => if j + ti.size ≤ e.length then match mkVV ti.agg (((e.drop j).take ti.size).map .d) with
          | some v => .set (.val v)
          | none => .stuck else .stuck
        | none => .stuck else .stuck
      | some (.box cs) => if i * sz + j + ti.size ≤ cs.length then match mkVV ti.agg ((cs.drop (i * sz + j)).take ti.size) with
        | some v => .set (.val v)
        | none => .stuck else .stuck
      | _ => .stuck
    | .pd cs => if 0 < ti.size ∧ ti.size ≤ cs.length then match mkVV ti.agg ((cs.take ti.size).map .d) with
        | some v => .set (.val v)
        | none => .stuck else .stuck
    | _ => .stuck
def updO (σ : Objs) (id : Nat) (o : OO) : Objs := fun k => if k = id then some o else σ k
def effStore (T : Tab) (st : St) (t : TypeId) (x y : SV) : Eff :=
  match T t, y with
  | some ti, .val v => if (cellsOf v).length = ti.size then match x with
    | .ptr id off => match st.σ id with
      | some (.box cs) => if off + ti.size ≤ cs.length then
          .upd (updO st.σ id (.box (splL cs off (cellsOf v)))) (if (cellsOf v).all SC.noOwn then st.rb else id :: st.rb) else .stuck
      | _ => .stuck
    | .pe id sz i j => match st.σ id, dataL (cellsOf v) with
      | some (.arr sz' es), some ds => if sz' = sz then match es[i]? with
        | some e => if j + ti.size ≤ e.length then .upd (updO st.σ id (.arr sz (es.set i (splL e j ds)))) st.rb else .stuck
        | none => .stuck else .stuck
      | some (.box cs), _ => if i * sz + j + ti.size ≤ cs.length then
          .upd (updO st.σ id (.box (splL cs (i * sz + j) (cellsOf v)))) (if (cellsOf v).all SC.noOwn then st.rb else id :: st.rb) else .stuck
      | _, _ => .stuck
    | _ => .stuck else .stuck
  | _, _ => .stuck
def effFieldAddr (T : Tab) (s : TypeId) (x : SV) (f : Nat) : Eff :=
  match T s with
  | some si => match si.und with
    | .struct fs => match fs[f]? with
      | some (off, t) => match T t with
        | some ti => if ti.size = 0 then .stuck else match x with
          | .ptr id o => .set (.ptr id (o + off))
          | .pe id sz i j => .set (.pe id sz i (j + off))
          | .pd cs => .set (.pd (cs.drop off))
          | _ => .stuck
        | none => .stuck
      | none => .stuck
    | _ => .stuck
  | none => .stuck
def effField (T : Tab) (s : TypeId) (x : SV) (f : Nat) : Eff :=
  match T s, x with
  | some si, .val (.agg cs) => match si.und with
    | .struct fs => match fs[f]? with
      | some (off, t) => match T t with
        | some ti => if off + ti.size ≤ cs.length then match mkVV ti.agg ((cs.drop off).take ti.size) with
          | some v => .set (.val v)
          | none => .stuck else .stuck
        | none => .stuck
      | none => .stuck
    | _ => .stuck
  | _, _ => .stuck
def effIndexAddr (T : Tab) (t : TypeId) (x i : SV) : Eff :=
  match T t, intOfS i with
  | some ti, some (_, n) => match ti.und with
    | .slice e => match T e with
      | some ei => if 0 ≤ n then match x with
        | .val (.one (.own id sz off len)) => if sz = ei.size ∧ n < len then .set (.pe id sz (off + n.toNat) 0) else .stuck
        | .val (.one (.d (.sl es))) => match es[n.toNat]? with
          | some el => if el.length = ei.size then .set (.pd el) else .stuck
          | none => .stuck
        | _ => .stuck else .stuck
      | none => .stuck
    | _ => .stuck
  | _, _ => .stuck
def effExtract (x : SV) (i : Nat) : Eff :=
  match x with
  | .tup xs => match xs[i]? with
    | some v => .set (.val v)
    | none => .stuck
  | _ => .stuck
def lenOfS : SV → Option Nat
  | .val (.one (.own _ _ _ len)) => some len
  | .val (.one (.d (.sl es))) => some es.length
  | .val (.one .nil) => some 0
  | _ => none
def effLen (T : Tab) (t : TypeId) (x : SV) : Eff :=
  match T t with
  | some ti => match ti.und with
    | .slice _ => match lenOfS x with
      | some n => setLit (.int .i64 n)
      | none => .stuck
    | _ => .stuck
  | none => .stuck
/-- The cells of the parts laid over the zero value's. -/
def fillA (T : Tab) (fs : List (Nat × TypeId)) : List SC → List (Nat × SV) → Option (List SC)
  | cs, [] => some cs
  | cs, (i, .val v) :: rest => match fs[i]? with
    | some (off, t) => match T t with
      | some ti => if (cellsOf v).length = ti.size ∧ off + ti.size ≤ cs.length then fillA T fs (splL cs off (cellsOf v)) rest else none
      | none => none
    | none => none
  | _, _ => none
def effBuild (T : Tab) (t : TypeId) (parts : List (Nat × SV)) : Eff :=
  match T t with
  | some ti => match ti.und with
    | .struct fs => if fs.all (fun p => (T p.2).isSome) then match fillA T fs ti.zero parts with
      | some cs => .set (.val (.agg cs))
      | none => .stuck else .stuck
    | _ => .stuck
  | none => .stuck
def zeroD (ei : TI) : List DC := (dataL ei.zero).getD []
def fillS (sz : Nat) : List (List DC) → List (Nat × SV) → Option (List (List DC))
  | es, [] => some es
  | es, (i, .val v) :: rest => match dataL (cellsOf v) with
    | some ds => if ds.length = sz ∧ i < es.length then fillS sz (es.set i ds) rest else none
    | none => none
  | _, _ => none
def effBuildSlice (T : Tab) (t : TypeId) (len : Nat) (parts : List (Nat × SV)) : Eff :=
  match T t with
  | some ti => match ti.und with
    | .slice e => match T e with
      | some ei => if len * ei.size ≤ 2 ^ 24 ∧ ei.size ≠ 0 then match fillS ei.size (List.replicate len (zeroD ei)) parts with
        | some es => .new (.arr ei.size es) (fun d => .val (.one (.own d ei.size 0 len)))
        | none => .stuck else .stuck
      | none => .stuck
    | _ => .stuck
  | none => .stuck
/-- n zero elements: slices are kept as cells, for they may come to hold own arrays. -/
def zeroO (ei : TI) (n : Nat) : OO :=
  match ei.zero with
  | [.nil] => .box (List.replicate n .nil)
  | _ => .arr ei.size (List.replicate n (zeroD ei))
/-- A literal that is never written: data at once. -/
def effBuildSliceD (T : Tab) (t : TypeId) (len : Nat) (parts : List (Nat × SV)) : Eff :=
  match effBuildSlice T t len parts with
  | .new (.arr _ es) _ => .set (.val (.one (.d (.sl es))))
  | _ => .stuck
def effMakeSlice (T : Tab) (t : TypeId) (l c : SV) : Eff :=
  match T t, intOfS l, intOfS c with
  | some ti, some (_, n), some (_, m) => match ti.und with
    | .slice e => match T e with
      | some ei => if 0 ≤ n ∧ n ≤ m ∧ Nat.ble m.toNat 1099511627776 = true ∧ ei.bytes ≤ 256 ∧ ei.size ≠ 0 then
          .new (zeroO ei n.toNat) (fun d => .val (.one (.own d ei.size 0 n.toNat))) else .stuck
      | none => .stuck
    | _ => .stuck
  | _, _, _ => .stuck
def strOf : SV → Option ByteArray
  | .val (.one (.d (.lit (.string s)))) => some s
  | _ => none
def effSliceN (T : Tab) (t : TypeId) (x : SV) (l h : Int) : Eff :=
  match T t with
  | some ti => match ti.und with
    | .string => match strOf x with
      | some s => if 0 ≤ l ∧ l ≤ h ∧ h ≤ s.size then setLit (.string (s.extract l.toNat h.toNat)) else .stuck
      | none => .stuck
    | .slice e => match T e with
      | some ei => match lenOfS x with
        | some n => if 0 ≤ l ∧ l ≤ h ∧ h ≤ n then
            if l = h then .set (.val (.one (.d (.sl [])))) else match x with
            | .val (.one (.own id sz off _)) => if sz = ei.size then .set (.val (.one (.own id sz (off + l.toNat) (h - l).toNat))) else .stuck
            | .val (.one (.d (.sl es))) => if es.all (fun e => e.length == ei.size) then .set (.val (.one (.d (.sl ((es.take h.toNat).drop l.toNat))))) else .stuck
            | _ => .stuck else .stuck
        | none => .stuck
      | none => .stuck
    | _ => .stuck
  | none => .stuck
def loI (f : Operand → SV) : Option Operand → Option Int
  | none => some 0
  | some o => (intOfS (f o)).map (·.2)
def hiI (f : Operand → SV) (x : SV) : Option Operand → Option Int
  | none => (lenOfS x).map fun n => (n : Int)
  | some o => (intOfS (f o)).map (·.2)
def effSlice (T : Tab) (st : St) (t : TypeId) (x : SV) (lo hi : Option Operand) : Eff :=
  match loI (opd st) lo, hiI (opd st) x hi with
  | some l, some h => effSliceN T t x l h
  | _, _ => .stuck
def elemsOf (st : St) : SV → Option (List (List DC))
  | .val (.one (.d (.sl es))) => some es
  | .val (.one .nil) => some []
  | .val (.one (.own id sz off len)) => match st.σ id with
    | some (.arr sz' es) => if sz' = sz ∧ off + len ≤ es.length then some ((es.drop off).take len) else none
    | _ => none
  | _ => none
def effAppend (T : Tab) (st : St) (t t2 : TypeId) (s x : SV) : Eff :=
  match T t, T t2 with
  | some ti, some ti2 => match ti.und, ti2.und with
    | .slice e, .slice _ => match T e, elemsOf st x with
      | some ei, some new => if ei.size ≠ 0 ∧ ei.bytes ≤ 256 ∧ new.all (fun e => e.length == ei.size) then match s with
        | .val (.one .nil) => if 0 < new.length ∧ new.length ≤ 2 ^ 36 then .app none ei.size new else .stuck
        | .val (.one (.own id sz 0 len)) => match st.σ id with
          | some (.arr sz' es) => if sz = ei.size ∧ sz' = sz ∧ len = es.length ∧ len + new.length ≤ 2 ^ 36 then .app (some id) sz (es ++ new) else .stuck
          | _ => .stuck
        | _ => .stuck else .stuck
      | _, _ => .stuck
    | _, _ => .stuck
  | _, _ => .stuck
def effMM (max : Bool) (x y : SV) : Eff :=
  match intOfS x, intOfS y with
  | some (k, a), some (k', b) => if k = k' then setLit (.int k (if max then (if b > a then b else a) else (if b < a then b else a))) else .stuck
  | _, _ => .stuck
def dataC (st : St) : SC → Option DC
  | .d c => some c
  | .nil => some (.sl [])
  | .own id sz off len => match st.σ id with
    | some (.arr sz' es) => if sz' = sz ∧ off + len ≤ es.length then some (.sl ((es.drop off).take len)) else none
    | _ => none
  | .bad => none
def dataCs (st : St) : List SC → Option (List SC)
  | [] => some []
  | c :: cs => match dataC st c, dataCs st cs with
    | some d, some ds => some (.d d :: ds)
    | _, _ => none
def argOf (st : St) : SV → Option SV
  | .val (.one c) => match dataC st c with
    | some d => some (.val (.one (.d d)))
    | none => none
  | .val (.agg cs) => match dataCs st cs with
    | some ds => some (.val (.agg ds))
    | none => none
  | .pd cs => some (.pd cs)
  | _ => none
def argsOf (st : St) : List SV → Option (List SV)
  | [] => some []
  | x :: xs => match argOf st x, argsOf st xs with
    | some y, some ys => some (y :: ys)
    | _, _ => none
/-- The cells of the captured variable. -/
def capOf (st : St) (id : Nat) : Option (List DC) :=
  match st.σ id with
  | some (.box cs) => match dataCs st cs with
    | some ds => dataL ds
    | none => none
  | _ => none
def effClo (T : Tab) (st : St) (x : SV) (xs : List SV) : Eff :=
  match x with
  | .clo f id => match argsOf st xs, capOf st id with
    | some ys, some ds => match T.clo f (ys ++ [.pd ds]) with
      | some v => .set v
      | none => .stuck
    | _, _ => .stuck
  | _ => .stuck
def effIndex (T : Tab) (t : TypeId) (x i : SV) : Eff :=
  match T t, litOf x, intOfS i with
  | some ti, some (.string s), some (_, n) => match ti.und with
    | .string => if 0 ≤ n then match s[n.toNat]? with
      | some b => setLit (.int .u8 b.toNat)
      | none => .stuck else .stuck
    | _ => .stuck
  | _, _, _ => .stuck
def effMakeFunc (f : FuncId) (captured : List SV) : Eff :=
  match captured with
  | [.ptr id 0] => .set (.clo f id)
  | _ => .stuck
def isPtr : SV → Bool
  | .ptr _ _ | .pe _ _ _ _ | .pd _ => true
  | _ => false

def effCall (T : Tab) (st : St) (callee : Callee) (xs : List SV) (ts : List TypeId) : Eff :=
  match callee, xs, ts with
  | .builtin .len, [x], [t] => effLen T t x
  | .builtin .append, [s, x], [t, t2] => effAppend T st t t2 s x
  | .builtin .max, [x, y], _ => effMM true x y
  | .builtin .min, [x, y], _ => effMM false x y
  | .value (.func f), xs, _ => .call f xs
  | .value (.tmp t), xs, _ => effClo T st (st.get t) xs
  | _, _, _ => .stuck

def eff (T : Tab) (st : St) (o : Oper) : Eff :=
  match o.op with
  | .move x | .assign x => .set (opd st x)
  | .pick c a b => effPick (opd st c) (opd st a) (opd st b)
  | .box _ x => match opd st x with
    | .val v => .new (.box (cellsOf v)) (fun d => .ptr d 0)
    | _ => .stuck
  | .alloc e => match T e with
    | some ti => .new (.box ti.zero) (fun d => .ptr d 0)
    | none => .stuck
  | .build t parts => effBuild T t (parts.toList.map fun p => (p.1, opd st p.2))
  | .buildSlice t len parts => if T.dat t then effBuildSliceD T t len (parts.toList.map fun p => (p.1, opd st p.2)) else effBuildSlice T t len (parts.toList.map fun p => (p.1, opd st p.2))
  | .load t x => effLoad T st t (opd st x)
  | .store t x y => effStore T st t (opd st x) (opd st y)
  | .nilCheck x => if isPtr (opd st x) then .set (opd st x) else .stuck
  | .binOp op t x y _ => effBin T op t (opd st x) (opd st y)
  | .unOp op _ x => effUn op (opd st x)
  | .convert src dst x => effConv T src dst (opd st x)
  | .makeSlice t l c => effMakeSlice T t (opd st l) (opd st c)
  | .slice t x lo hi none => effSlice T st t (opd st x) lo hi
  | .fieldAddr s x f => effFieldAddr T s (opd st x) f
  | .field s x f => effField T s (opd st x) f
  | .indexAddr t x i => effIndexAddr T t (opd st x) (opd st i)
  | .index t x i => effIndex T t (opd st x) (opd st i)
  | .makeFunc (.func f) first captured => if first.isEmpty then effMakeFunc f (captured.toList.map (opd st)) else .stuck
  | .extract x i => effExtract (opd st x) i
  | .call c => effCall T st c.callee (c.args.toList.map (opd st)) c.argTypes.toList
  | _ => .stuck

end Go.Proofs.YtipenembpidoiaaGreatDoor

/- Operations that only yield a value: what they yield in the model is what the abstract state says. No condition. -/
namespace Go.Proofs.YtipenembpidoiaaGreatDoor

section
variable {P : Program} {T : Tab} {w : World} {X : Nat → Prop} {μ : Nat → Nat}

theorem relC_cellOfV {v : Value} (h : v.oneCell' = true) : RelC w X μ v (cellOfV v) := by
  unfold cellOfV
  split
  · rfl
  · exact RdC.lit rfl
  · exact RdC.lit rfl
  · exact RdC.lit rfl
  · exact h

theorem relV_const (v : Value) : RelV w X μ v (constV v) := by
  unfold constV
  split
  · rfl
  · exact RdC.lit rfl
  · exact RdC.lit rfl
  · exact RdC.lit rfl
  · rename_i cs
    split
    · rename_i hall
      refine ⟨cs.toList, by simp, by simp, fun i c hc => ?_⟩
      rw [List.getElem?_map] at hc
      cases hv : cs.toList[i]? with
      | none => rw [hv] at hc; cases hc
      | some v =>
        rw [hv] at hc; simp at hc; subst hc
        exact ⟨v, rfl, relC_cellOfV (List.all_eq_true.1 hall v (List.mem_of_getElem? hv))⟩
    · trivial
  · trivial

theorem relV_opd {w0 : World} {a : Act} {st : St} (hs : Sim w0 X μ a w st) (x : Operand) : RelV w (Mut X μ st.σ) μ (a.eval x) (opd st x) := by
  cases x with
  | tmp t => exact hs.slots t
  | const v => exact relV_const v
  | global g => trivial
  | func f => trivial

theorem lit_inv {v : Value} {x : SV} {u : Value} (h : RelV w X μ v x) (hl : litOf x = some u) : v = u := by
  unfold litOf at hl
  split at hl
  · cases hl; cases h; rfl
  · cases hl

theorem int_inv {v : Value} {x : SV} {k : IntKind} {n : Int} (h : RelV w X μ v x) (hl : intOfS x = some (k, n)) : v = .int k n := by
  unfold intOfS at hl
  split at hl
  · cases hl; cases h; rfl
  · cases hl

theorem relV_lit {v : Value} (h : scal v = true) : RelV w X μ v (.val (.one (.d (.lit v)))) := RdC.lit h

/-! #### Arithmetic -/
theorem binA_scal {op : BinOp} {x y v : Value} (h : binA op x y = some v) : scal v = true := by
  unfold binA at h
  split at h <;> first
    | (cases h; done)
    | (cases h; rfl)
    | (split at h <;> first | (cases h; done) | (cases h; rfl) | (split at h <;> first | (cases h; done) | (cases h; rfl)))

theorem binA_run {op : BinOp} {x y v : Value} (h : binA op x y = some v) (t : TypeId) (ox oy : Operand) :
    ((do eqGuard op t ox oy x y; binOp op t x y) : Sem Value).run P w = .ok v w := by
  unfold binA at h
  split at h <;> first
    | (cases h; done)
    | (cases h; simp [eqGuard, binOp, Op.stringOp]; done)
    | (split at h <;> first
        | (cases h; done)
        | (rename_i hk; subst hk; split at h <;> first
            | (cases h; done)
            | (rename_i hb; cases h; simp [eqGuard, binOp, Op.intDiv, hb]))
        | (rename_i hk; subst hk; cases h; simp [eqGuard, binOp, Op.intArith, Op.intBits, Op.intCmp])
        | (rename_i hb; cases h; simp [eqGuard, binOp, Op.shift, hb]; done)
        | (rename_i hb; cases h; simp [eqGuard, binOp, Op.stringOp, IntKind.max, IntKind.signed, IntKind.bits]; omega))

theorem unA_scal {op : UnOp} {x v : Value} (h : unA op x = some v) : scal v = true := by
  unfold unA at h
  split at h <;> first | (cases h; done) | (cases h; rfl)

theorem unA_run {op : UnOp} {x v : Value} (h : unA op x = some v) : (Op.unary op x).run P w = .ok v w := by
  unfold unA at h
  split at h <;> first | (cases h; done) | (cases h; simp [Op.unary, Op.intArith, Op.intBits])

/-- What an operation that only yields a value does in the model. -/
def Yv (P : Program) (w : World) (X : Nat → Prop) (μ : Nat → Nat) (s : Sem Value) (v : SV) : Prop := ∃ u, s.run P w = .ok u w ∧ RelV w X μ u v

theorem equal_bool (hT : TOK P T) {t : TypeId} (h : isBoolT T t = true) (p q : Bool) : (Op.equal t (.bool p) (.bool q)).run P w = .ok (p == q) w := by
  unfold isBoolT at h
  split at h
  · rename_i ti hti
    split at h
    · rename_i hu
      have := (hT.ty _ _ hti).run_bool w hu
      have e : Op.maxDepth = 9999 + 1 := rfl
      unfold Op.equal
      rw [e, Op.equalIn]
      simp only [Sem.run_bind, this, Result.andThen_ok]
      rfl
    · cases h
  · cases h

theorem intsC_rel {vs : List Value} {cs : List SC} {a : List Int} (hr : RelL w X μ vs cs) (h : intsC cs = some a) : vs = a.map (Value.int .i64) := by
  induction cs generalizing vs a with
  | nil =>
    simp only [intsC, Option.some.injEq] at h; subst h
    exact List.length_eq_zero_iff.1 hr.1
  | cons c cs ih =>
    match vs, hr with
    | [], hr => have := hr.1; simp at this
    | v :: vs, hr =>
      have hr' : RelL w X μ vs cs := ⟨by simpa using hr.1, fun i c hc => by have := hr.2 (i + 1) c (by simpa using hc); simpa using this⟩
      obtain ⟨u, hu, hcu⟩ := hr.2 0 c rfl
      simp at hu; subst hu
      unfold intsC at h
      split at h
      · cases ‹_ :: _ = []›
      · rename_i n cs' heq
        cases heq
        split at h
        · rename_i l hl
          cases h
          have e : v = .int .i64 n := by
            have hcu : RdC w X v (.lit (.int .i64 n)) := hcu
            cases hcu; rfl
          rw [ih hr' hl, e]; rfl
        · cases h
      · cases h
theorem effEq_sound (hT : TOK P T) {op : BinOp} {t : TypeId} {ox oy : Operand} {vx vy : Value} {x y v : SV} (hx : RelV w X μ vx x) (hy : RelV w X μ vy y) (h : effEq T op t x y = .set v) :
    Yv P w X μ (do eqGuard op t ox oy vx vy; binOp op t vx vy) v := by
  unfold effEq at h
  split at h
  · rename_i n cs ds hn
    split at h
    · rename_i a b ha hb
      split at h
      · rename_i hl
        obtain ⟨us, rfl, hu⟩ := hx
        obtain ⟨vs, rfl, hv⟩ := hy
        have := hT.eqs _ _ hn w ox oy a b hl.1 hl.2
        rw [intsC_rel hu ha, intsC_rel hv hb]
        split at h
        · cases h; exact ⟨_, this.1, relV_lit rfl⟩
        · cases h; exact ⟨_, this.2, relV_lit rfl⟩
        · cases h
      · cases h
    · cases h
  · cases h

theorem effBin_sound (hT : TOK P T) {op : BinOp} {t : TypeId} {ox oy : Operand} {vx vy : Value} {x y v : SV} (hx : RelV w X μ vx x) (hy : RelV w X μ vy y) (h : effBin T op t x y = .set v) :
    Yv P w X μ (do eqGuard op t ox oy vx vy; binOp op t vx vy) v := by
  unfold effBin at h
  split at h
  · rename_i a b ha hb
    have e1 := lit_inv hx ha
    have e2 := lit_inv hy hb
    subst e1; subst e2
    split at h
    · rename_i u hu
      cases h
      exact ⟨u, binA_run hu t ox oy, relV_lit (binA_scal hu)⟩
    · split at h
      · split at h
        · rename_i p q _ hb
          cases h
          refine ⟨_, ?_, relV_lit rfl⟩
          have := equal_bool (w := w) hT hb p q
          simp [eqGuard, binOp, this]
        · cases h
      · split at h
        · rename_i p q _ hb
          cases h
          refine ⟨_, ?_, relV_lit rfl⟩
          have := equal_bool (w := w) hT hb p q
          simp [eqGuard, binOp, this]
        · cases h
      · cases h
  · exact effEq_sound hT hx hy h

theorem effUn_sound {op : UnOp} {vx : Value} {x v : SV} (hx : RelV w X μ vx x) (h : effUn op x = .set v) : Yv P w X μ (Op.unary op vx) v := by
  unfold effUn at h
  split at h
  · rename_i a ha
    have e1 := lit_inv hx ha
    subst e1
    split at h
    · rename_i u hu; cases h; exact ⟨u, unA_run hu, relV_lit (unA_scal hu)⟩
    · cases h
  · cases h

theorem effPick_sound {vc va vb : Value} {c a b v : SV} (hc : RelV w X μ vc c) (ha : RelV w X μ va a) (hb : RelV w X μ vb b) (h : effPick c a b = .set v) :
    Yv P w X μ (do pure (if ← asBool vc then va else vb)) v := by
  unfold effPick at h
  split at h
  · rename_i t ht
    have e1 := lit_inv hc ht
    subst e1
    cases h
    refine ⟨if t then va else vb, by simp [asBool], ?_⟩
    cases t
    · exact hb
    · exact ha
  · cases h

theorem effConv_sound (hT : TOK P T) {src dst : TypeId} {vx : Value} {x v : SV} (hx : RelV w X μ vx x) (h : effConv T src dst x = .set v) : Yv P w X μ (convert src dst vx) v := by
  unfold effConv at h
  split at h
  · rename_i ts td k n hs hd hi
    have e1 := int_inv hx hi
    subst e1
    split at h
    · rename_i k' hk
      cases h
      obtain ⟨us, hus, _, _⟩ := (hT.ty _ _ hs).run_und w
      have hud := (hT.ty _ _ hd).run_int w hk
      refine ⟨_, ?_, relV_lit rfl⟩
      simp only [convert, Sem.run_bind, hus, hud, Result.andThen_ok]
      cases us <;> rfl
    · cases h
  · cases h

theorem effExtract_sound {vx : Value} {x v : SV} {i : Nat} (hx : RelV w X μ vx x) (h : effExtract x i = .set v) : Yv P w X μ (Instr.extract vx i) v := by
  unfold effExtract at h
  split at h
  · rename_i xs
    split at h
    · rename_i v' hv
      cases h
      obtain ⟨vs, rfl, _, h3⟩ := hx
      obtain ⟨u, hu, hr⟩ := h3 i v' hv
      exact ⟨u, by simp [Instr.extract, hu], hr⟩
    · cases h
  · cases h

theorem effLen_sound (hT : TOK P T) {t t' : TypeId} {tys : Array TypeId} {vx : Value} {x v : SV} (ht : tys[0]? = some t) (hx : RelV w X μ vx x) (h : effLen T t x = .set v) :
    Yv P w X μ (Builtin.len_ tys t' #[vx]) v := by
  unfold effLen at h
  split at h
  · rename_i ti hti
    split at h
    · rename_i e he
      split at h
      · rename_i n hn
        cases h
        have hu := (hT.ty _ _ hti).run_slice w he
        have hv : ∃ a c, vx = .slice a n c := by
          unfold lenOfS at hn
          split at hn
          · cases hn; obtain ⟨cap, cs, E, fr, rfl, _⟩ := hx; exact ⟨_, _, rfl⟩
          · cases hn
            cases hx with
            | nil => exact ⟨_, _, rfl⟩
            | sl vs hh hxx hl => subst hl; exact ⟨_, _, rfl⟩
          · cases hn; cases hx; exact ⟨_, _, rfl⟩
          · cases hn
        obtain ⟨a, c, rfl⟩ := hv
        refine ⟨_, ?_, relV_lit rfl⟩
        simp only [Builtin.len_, ht, List.getElem?_toArray, List.getElem?_cons_zero, Sem.run_bind, hu, Result.andThen_ok]
        rfl
      · cases h
    · cases h
  · cases h

theorem effMM_sound {m : Bool} {vx vy : Value} {x y v : SV} {tys : Array TypeId} {t : TypeId} (hx : RelV w X μ vx x) (hy : RelV w X μ vy y) (h : effMM m x y = .set v) :
    Yv P w X μ (if m then Builtin.max_ tys t #[vx, vy] else Builtin.min_ tys t #[vx, vy]) v := by
  unfold effMM at h
  split at h
  · rename_i k a k' b ha hb
    have e1 := int_inv hx ha
    have e2 := int_inv hy hb
    subst e1; subst e2
    split at h
    · rename_i hk; subst hk
      cases h
      refine ⟨_, ?_, relV_lit rfl⟩
      cases m <;> rfl
    · cases h
  · cases h

/-! #### Memory -/
theorem mkVV_rel {agg : Bool} {vs : List Value} {cs : List SC} {v : VV} (h : mkVV agg cs = some v) (hr : RelL w X μ vs cs) (one : agg = false → cs.length = 1) :
    RelVV w X μ (mkV agg vs) v := by
  unfold mkVV at h
  cases agg with
  | true => cases h; exact ⟨vs, rfl, hr⟩
  | false =>
    have h1 := one rfl
    match cs, h1 with
    | [c], _ =>
      simp at h; subst h
      have hl := hr.1
      match vs, hl with
      | [u], _ =>
        obtain ⟨u', hu, hc⟩ := hr.2 0 c rfl
        simp at hu; subst hu
        exact hc

theorem relL_take_drop {vs : List Value} {cs : List SC} (off n : Nat) (h : RelL w X μ vs cs) : RelL w X μ ((vs.drop off).take n) ((cs.drop off).take n) := by
  refine ⟨by simp [h.1], fun i c hc => ?_⟩
  rw [List.getElem?_take] at hc
  split at hc
  · rename_i hi
    rw [List.getElem?_drop] at hc
    obtain ⟨v, hv, hr⟩ := h.2 _ _ hc
    exact ⟨v, by rw [List.getElem?_take, if_pos hi, List.getElem?_drop]; exact hv, hr⟩
  · cases hc

theorem run_loadVar {t : TypeId} {ti : TI} (ht : TF P t ti) {b off : Nat} {cs : Array Value} {E : TypeId} {fr : Nat × Nat} (hh : w.heap[b]? = some (.cells cs E fr)) (hle : off + ti.size ≤ cs.size) :
    (loadVar t ⟨b, off, none⟩).run P w = .ok (mkV ti.agg (cs.extract off (off + ti.size)).toList) w := by
  unfold loadVar
  simp only [Sem.run_bind, ht.run_isAgg, Result.andThen_ok]
  cases ha : ti.agg with
  | true =>
    simp only [if_true, Sem.run_bind, ht.run_sizeOf, Result.andThen_ok, run_loadCells hh off ti.size hle, Sem.run_pure, mkV, Array.toArray_toList]
  | false =>
    have h1 := ht.one ha
    rw [h1] at hle ⊢
    have hlt : off < cs.size := by omega
    simp [cell_of_heap hh, hlt, mkV]
    rw [List.drop_eq_getElem_cons (by simpa using hlt)]
    simp

/-- The cells of an extract, one by one. -/
theorem relL_extract {cs : Array Value} {off n : Nat} {l : List SC} (hle : off + n ≤ cs.size) (hl : l.length = n)
    (h : ∀ (i : Nat) (c : SC), l[i]? = some c → ∃ x, cs[off + i]? = some x ∧ RelC w X μ x c) : RelL w X μ (cs.extract off (off + n)).toList l := by
  refine ⟨by simp; omega, fun i c hc => ?_⟩
  obtain ⟨x, hx, hr⟩ := h i c hc
  refine ⟨x, ?_, hr⟩
  have hi : i < n := by
    rcases Nat.lt_or_ge i n with h' | h'
    · exact h'
    · rw [List.getElem?_eq_none (by omega)] at hc; cases hc
  rw [Array.getElem?_toList, Array.getElem?_extract]
  rw [if_pos (by omega)]
  exact hx

theorem effLoad_sound {w0 : World} {a : Act} {st : St} (hT : TOK P T) (hs : Sim w0 X μ a w st) {t : TypeId} {vx : Value} {x v : SV}
    (hx : RelV w (Mut X μ st.σ) μ vx x) (h : effLoad T st t x = .set v) : Yv P w (Mut X μ st.σ) μ (Instr.loadAt t vx) v := by
  unfold effLoad at h
  split at h
  · cases h
  · rename_i ti hti
    have ht := hT.ty _ _ hti
    split at h
    · rename_i id off
      have hx' : vx = .pointer (some ⟨μ id, off, none⟩) := hx
      subst hx'
      split at h
      · rename_i cs hcs
        split at h
        · rename_i hle
          split at h
          · rename_i u hu
            cases h
            obtain ⟨_, cells, E, hh, hsz, hrel⟩ := hs.objs _ _ hcs
            refine ⟨_, ?_, mkVV_rel hu (vs := (cells.extract off (off + ti.size)).toList) (relL_extract (by omega) (by simp; omega) ?_) ?_⟩
            · simp only [Instr.loadAt, Instr.sureAddr, Sem.run_bind, Sem.run_pure, Result.andThen_ok, run_loadVar ht hh (show off + ti.size ≤ cells.size by omega)]
            · intro i c hc
              rw [List.getElem?_take] at hc
              split at hc
              · rw [List.getElem?_drop] at hc; exact hrel _ _ hc
              · cases hc
            · intro ha; have := ht.one ha; simp; omega
          · cases h
        · cases h
      · cases h
    · rename_i id sz i j
      have hx' : vx = .pointer (some ⟨μ id, i * sz + j, none⟩) := hx
      subst hx'
      split at h
      · rename_i sz' es hes
        split at h
        · rename_i hsz; subst hsz
          split at h
          · rename_i e he
            split at h
            · rename_i hle
              split at h
              · rename_i u hu
                cases h
                obtain ⟨_, cells, E, hh, hsz, hlen, hrel⟩ := hs.objs _ _ hes
                have hel := hlen _ _ he
                have hi : i < es.length := (List.getElem?_eq_some_iff.1 he).1
                have hmul : i * sz' + sz' ≤ es.length * sz' := by rw [← Nat.succ_mul]; exact Nat.mul_le_mul_right _ hi
                refine ⟨_, ?_, mkVV_rel hu (vs := (cells.extract (i * sz' + j) (i * sz' + j + ti.size)).toList) (relL_extract (by omega) (by simp; omega) ?_) ?_⟩
                · simp only [Instr.loadAt, Instr.sureAddr, Sem.run_bind, Sem.run_pure, Result.andThen_ok, run_loadVar ht hh (show i * sz' + j + ti.size ≤ cells.size by omega)]
                · intro k c hc
                  rw [List.getElem?_map] at hc
                  cases hd : ((e.drop j).take ti.size)[k]? with
                  | none => rw [hd] at hc; cases hc
                  | some d =>
                    rw [hd] at hc; simp at hc; subst hc
                    rw [List.getElem?_take] at hd
                    split at hd
                    · rw [List.getElem?_drop] at hd
                      obtain ⟨x, hx1, hx2⟩ := hrel i (j + k) d (by simp [at2, he, hd])
                      exact ⟨x, by rw [← hx1]; congr 1; omega, hx2⟩
                    · cases hd
                · intro ha; have := ht.one ha; simp; omega
              · cases h
            · cases h
          · cases h
        · cases h
      · rename_i cs hcs
        split at h
        · rename_i hle
          split at h
          · rename_i u hu
            cases h
            obtain ⟨_, cells, E, hh, hsz, hrel⟩ := hs.objs _ _ hcs
            refine ⟨_, ?_, mkVV_rel hu (vs := (cells.extract (i * sz + j) (i * sz + j + ti.size)).toList) (relL_extract (by omega) (by simp; omega) ?_) ?_⟩
            · simp only [Instr.loadAt, Instr.sureAddr, Sem.run_bind, Sem.run_pure, Result.andThen_ok, run_loadVar ht hh (show i * sz + j + ti.size ≤ cells.size by omega)]
            · intro i c hc
              rw [List.getElem?_take] at hc
              split at hc
              · rw [List.getElem?_drop] at hc; exact hrel _ _ hc
              · cases hc
            · intro ha; have := ht.one ha; simp; omega
          · cases h
        · cases h
      · cases h
    · rename_i cs
      obtain ⟨b, off, cells, E, fr, hv, hh, _, hrel⟩ := hx
      subst hv
      split at h
      · rename_i hle
        split at h
        · rename_i u hu
          cases h
          have hsz : off + ti.size ≤ cells.size := by
            have : ti.size - 1 < cs.length := by omega
            obtain ⟨x, hx1, _⟩ := hrel (ti.size - 1) _ (List.getElem?_eq_getElem this)
            have := (Array.getElem?_eq_some_iff.1 hx1).1
            omega
          refine ⟨_, ?_, mkVV_rel hu (vs := (cells.extract off (off + ti.size)).toList) (relL_extract hsz (by simp; omega) ?_) ?_⟩
          · simp only [Instr.loadAt, Instr.sureAddr, Sem.run_bind, Sem.run_pure, Result.andThen_ok, run_loadVar ht hh hsz]
          · intro k c hc
            rw [List.getElem?_map] at hc
            cases hd : (cs.take ti.size)[k]? with
            | none => rw [hd] at hc; cases hc
            | some d =>
              rw [hd] at hc; simp at hc; subst hc
              rw [List.getElem?_take] at hd
              split at hd
              · exact hrel _ _ hd
              · cases hd
          · intro ha; have := ht.one ha; simp; omega
        · cases h
      · cases h
    · cases h

theorem effFieldAddr_sound (hT : TOK P T) {s : TypeId} {vx : Value} {x v : SV} {f : Nat} (hx : RelV w X μ vx x) (h : effFieldAddr T s x f = .set v) :
    Yv P w X μ (Instr.fieldAt s vx f) v := by
  unfold effFieldAddr at h
  split at h
  · rename_i si hsi
    split at h
    · rename_i fs hfs
      split at h
      · rename_i off t hf
        split at h
        · rename_i ti hti
          split at h
          · cases h
          · rename_i hne
            obtain ⟨fields, hu, hfl⟩ := (hT.ty _ _ hsi).run_struct w hfs
            rw [← hfl, List.getElem?_map] at hf
            cases hfi : fields.toList[f]? with
            | none => rw [hfi] at hf; cases hf
            | some fd =>
              rw [hfi] at hf
              simp only [Option.map_some, Option.some.injEq, Prod.mk.injEq] at hf
              rw [Array.getElem?_toList] at hfi
              have hsize := (hT.ty _ _ hti).run_sizeOf w
              have go : ∀ b o, (Instr.fieldAt s (.pointer (some ⟨b, o, none⟩)) f).run P w = .ok (.pointer (some ⟨b, o + off, none⟩)) w := by
                intro b o
                simp only [Instr.fieldAt, Sem.run_bind, hu, Result.andThen_ok, hfi, Instr.sureAddr, Sem.run_pure, fieldPlace, hf.1, hf.2, hsize, if_neg hne, addr_add]
              split at h
              · cases h; cases hx; exact ⟨_, go _ _, rfl⟩
              · cases h; cases hx; exact ⟨_, go _ _, by show _ = _; rw [Nat.add_assoc]⟩
              · rename_i cs
                cases h
                obtain ⟨b, o, cells, E, fr, rfl, hh, hX, hrel⟩ := hx
                refine ⟨_, go _ _, b, o + off, cells, E, fr, rfl, hh, hX, fun j d hd => ?_⟩
                rw [List.getElem?_drop] at hd
                obtain ⟨x, h1, h2⟩ := hrel _ _ hd
                exact ⟨x, by rw [← h1]; congr 1; omega, h2⟩
              · cases h
        · cases h
      · cases h
    · cases h
  · cases h

theorem run_part {t : TypeId} {ti : TI} (ht : TF P t ti) (cs : Array Value) {off : Nat} (hle : off + ti.size ≤ cs.size) :
    (part t cs off).run P w = .ok (mkV ti.agg (cs.extract off (off + ti.size)).toList) w := by
  unfold part
  simp only [Sem.run_bind, ht.run_isAgg, Result.andThen_ok]
  cases ha : ti.agg with
  | true => simp only [if_true, Sem.run_bind, ht.run_sizeOf, Result.andThen_ok, Sem.run_pure, mkV, Array.toArray_toList]
  | false =>
    have h1 := ht.one ha
    rw [h1] at hle ⊢
    have hlt : off < cs.size := by omega
    simp [hlt, mkV]
    rw [List.drop_eq_getElem_cons (by simpa using hlt)]
    simp

theorem effField_sound (hT : TOK P T) {s : TypeId} {vx : Value} {x v : SV} {f : Nat} (hx : RelV w X μ vx x) (h : effField T s x f = .set v) :
    Yv P w X μ (Instr.field s vx f) v := by
  unfold effField at h
  split at h
  · rename_i si cs hsi
    split at h
    · rename_i fs hfs
      split at h
      · rename_i off t hf
        split at h
        · rename_i ti hti
          split at h
          · rename_i hle
            split at h
            · rename_i u hu
              cases h
              obtain ⟨fields, hun, hfl⟩ := (hT.ty _ _ hsi).run_struct w hfs
              rw [← hfl, List.getElem?_map] at hf
              cases hfi : fields.toList[f]? with
              | none => rw [hfi] at hf; cases hf
              | some fd =>
                rw [hfi] at hf
                simp only [Option.map_some, Option.some.injEq, Prod.mk.injEq] at hf
                rw [Array.getElem?_toList] at hfi
                obtain ⟨vs, rfl, hl, hrel⟩ := hx
                have ht := hT.ty _ _ hti
                refine ⟨_, ?_, mkVV_rel hu (vs := (vs.toArray.extract off (off + ti.size)).toList) (relL_extract (by simp; omega) (by simp; omega) ?_) ?_⟩
                · simp only [Instr.field, Sem.run_bind, hun, Result.andThen_ok, hfi, asAgg, Sem.run_pure, hf.1, hf.2]
                  exact run_part ht _ (by simp; omega)
                · intro i c hc
                  rw [List.getElem?_take] at hc
                  split at hc
                  · rw [List.getElem?_drop] at hc
                    obtain ⟨x, h1, h2⟩ := hrel _ _ hc
                    exact ⟨x, by simpa using h1, h2⟩
                  · cases hc
                · intro ha; have := ht.one ha; simp; omega
            · cases h
          · cases h
        · cases h
      · cases h
    · cases h
  · cases h

theorem effIndex_sound (hT : TOK P T) {t : TypeId} {vx vi : Value} {x i v : SV} (hx : RelV w X μ vx x) (hi : RelV w X μ vi i) (h : effIndex T t x i = .set v) :
    Yv P w X μ (Instr.index t vx vi) v := by
  unfold effIndex at h
  split at h
  · rename_i ti s k n hti hs hn
    have e1 := int_inv hi hn
    have e2 := lit_inv hx hs
    subst e1 e2
    have ht := hT.ty _ _ hti
    split at h
    · rename_i hu
      split at h
      · rename_i h0
        split at h
        · rename_i b hb
          cases h
          refine ⟨.int .u8 b.toNat, ?_, .lit rfl⟩
          simp only [Instr.index, asIntOf, Sem.run_bind, Sem.run_pure, Result.andThen_ok, ht.run_string w hu, if_pos h0, hb]
        · cases h
      · cases h
    · cases h
  · cases h
theorem effMakeFunc_sound {f : FuncId} {vs : List Value} {xs : List SV} {v : SV} (hl : vs.length = xs.length) (hx : ∀ (i : Nat) (x : SV), xs[i]? = some x → ∃ u, vs[i]? = some u ∧ RelV w X μ u x) (h : effMakeFunc f xs = .set v) :
    Yv P w X μ (Instr.makeFunc (.func f) #[] vs.toArray) v := by
  unfold effMakeFunc at h
  split at h
  · rename_i id
    cases h
    obtain ⟨u, h1, h2⟩ := hx 0 _ rfl
    match vs, hl with
    | [u'], _ =>
      simp at h1; subst h1
      exact ⟨_, rfl, by show _ = _; rw [show u' = _ from h2]⟩
  · cases h
theorem effIndexAddr_sound (hT : TOK P T) {t : TypeId} {vx vi : Value} {x i v : SV} (hx : RelV w X μ vx x) (hi : RelV w X μ vi i) (h : effIndexAddr T t x i = .set v) :
    Yv P w X μ (Instr.indexAt t vx vi) v := by
  unfold effIndexAddr at h
  split at h
  · rename_i ti k n hti hn
    have e1 := int_inv hi hn
    subst e1
    split at h
    · rename_i e he
      split at h
      · rename_i ei hei
        split at h
        · rename_i h0
          have hu := (hT.ty _ _ hti).run_slice w he
          have hsz := (hT.ty _ _ hei).run_sizeOf w
          have go : ∀ b o len cap, n < (len : Nat) → (Instr.indexAt t (.slice (some ⟨b, o, none⟩) len cap) (.int k n)).run P w = .ok (.pointer (some ⟨b, o + n.toNat * ei.size, none⟩)) w := by
            intro b o len cap hlt
            simp only [Instr.indexAt, asIntOf, Sem.run_bind, Sem.run_pure, Result.andThen_ok, hu, if_pos (And.intro h0 hlt), hsz, addr_add]
          split at h
          · rename_i id sz off len
            split at h
            · rename_i hc
              cases h
              obtain ⟨cap, cs, E, fr, rfl, hle, hh, hcap⟩ := hx
              refine ⟨_, go _ _ _ _ hc.2, ?_⟩
              show _ = _
              rw [hc.1, Nat.add_mul]
              rfl
            · cases h
          · rename_i es
            split at h
            · rename_i el hel
              split at h
              · rename_i hsz'
                cases h
                cases hx with
                | nil => simp at hel
                | sl vs hh hX hl hcap hs hv hr =>
                  rename_i b off len cap sz cs E fr
                  have hlt := (List.getElem?_eq_some_iff.1 hel).1
                  have hs' := hs _ _ hel
                  refine ⟨_, go _ _ _ _ (by omega), b, off + n.toNat * ei.size, cs, E, fr, rfl, hh, hX, fun j d hd => ?_⟩
                  have hat : at2 es n.toNat j = some d := by simp [at2, hel, hd]
                  refine ⟨vs n.toNat j, ?_, hr _ _ _ hat⟩
                  rw [← hv _ _ _ hat, ← hs', hsz']
              · cases h
            · cases h
          · cases h
        · cases h
      · cases h
    · cases h
  · cases h

end
end Go.Proofs.YtipenembpidoiaaGreatDoor

/- Operations that build values, slices and new objects. No condition. -/
namespace Go.Proofs.YtipenembpidoiaaGreatDoor

section
variable {P : Program} {T : Tab} {w : World} {X : Nat → Prop} {μ : Nat → Nat}

theorem splL_length {α : Type} : ∀ (vs l : List α) (k : Nat), (splL l k vs).length = l.length
  | [], _, _ => rfl
  | v :: vs, l, k => by rw [splL, splL_length vs]; simp

theorem splL_get {α : Type} : ∀ (vs l : List α) (k m : Nat), k + vs.length ≤ l.length →
    (splL l k vs)[m]? = if k ≤ m ∧ m < k + vs.length then vs[m - k]? else l[m]?
  | [], l, k, m, _ => by rw [splL, if_neg (by simp)]
  | v :: vs, l, k, m, h => by
    simp only [List.length_cons] at h
    rw [splL, splL_get vs _ _ _ (by simp; omega)]
    simp only [List.length_cons]
    by_cases hm : m = k
    · subst hm
      rw [if_neg (by omega), if_pos (by omega)]
      have hlt : m < l.length := by omega
      simp [hlt]
    · by_cases h1 : k + 1 ≤ m ∧ m < k + 1 + vs.length
      · rw [if_pos h1, if_pos (by omega)]
        have : m - k = (m - (k + 1)) + 1 := by omega
        rw [this, List.getElem?_cons_succ]
      · rw [if_neg h1, if_neg (by omega)]
        rw [List.getElem?_set_ne (Ne.symm hm)]

/-- A value's cells. -/
theorem relVV_cells {v : Value} {x : VV} (h : RelVV w X μ v x) : RelL w X μ v.cells.toList (cellsOf x) := by
  cases x with
  | one c =>
    have h1 := RelC.oneCell h
    have : v.cells = #[v] := by cases v <;> first | rfl | (simp [Value.oneCell'] at h1)
    rw [this]
    refine ⟨rfl, fun i c' hc => ?_⟩
    match i with
    | 0 => simp [cellsOf] at hc; subst hc; exact ⟨v, rfl, h⟩
    | i + 1 => simp [cellsOf] at hc
  | agg cs =>
    obtain ⟨vs, rfl, hr⟩ := h
    simpa [Value.cells, cellsOf] using hr

theorem relL_one {vs : List Value} {cs : List SC} (h : RelL w X μ vs cs) : ∀ v ∈ vs, v.oneCell' = true := by
  intro v hv
  obtain ⟨i, hi⟩ := List.mem_iff_getElem?.1 hv
  have hlt := (List.getElem?_eq_some_iff.1 hi).1
  have hlt' : i < cs.length := by rw [← h.1]; exact hlt
  obtain ⟨u, hu, hr⟩ := h.2 i cs[i] (List.getElem?_eq_getElem hlt')
  rw [hi] at hu; cases hu
  exact hr.oneCell

/-- The model's laying of cells, over an array. -/
theorem foldl_spl (off : Nat) : ∀ (vs : List Value) (k : Nat) (cs : Array Value),
    (vs.zipIdx k).foldl (fun cs (x : Value × Nat) => cs.setIfInBounds (off + x.2) x.1) cs = spl cs (off + k) vs
  | [], _, _ => rfl
  | v :: vs, k, cs => by
    simp only [List.zipIdx_cons, List.foldl_cons]
    rw [foldl_spl off vs (k + 1)]
    rfl

theorem foldl_zipIdx (cs : Array Value) (vs : Array Value) (off : Nat) :
    vs.zipIdx.foldl (fun cs (x : Value × Nat) => cs.setIfInBounds (off + x.2) x.1) cs = spl cs off vs.toList := by
  rw [← Array.foldl_toList, Array.toList_zipIdx]
  exact foldl_spl off vs.toList 0 cs

theorem relL_spl {cs : Array Value} {l : List SC} {vs : List Value} {ls : List SC} {k : Nat} (h : RelL w X μ cs.toList l) (hv : RelL w X μ vs ls) (hk : k + ls.length ≤ l.length) :
    RelL w X μ (spl cs k vs).toList (splL l k ls) := by
  have hl := h.1
  rw [Array.length_toList] at hl
  refine ⟨by rw [Array.length_toList, spl_size, splL_length, hl], fun i c hc => ?_⟩
  rw [splL_get _ _ _ _ hk] at hc
  rw [Array.getElem?_toList, spl_get _ _ _ _ (by rw [hv.1]; omega), hv.1]
  split at hc
  · rename_i hi
    rw [if_pos hi]
    exact hv.2 _ _ hc
  · rename_i hi
    rw [if_neg hi]
    obtain ⟨v, h1, h2⟩ := h.2 _ _ hc
    exact ⟨v, by simpa using h1, h2⟩

theorem zcell_rel {ti : TI} {t : TypeId} (ht : TF P t ti) : RelL w X μ (ti.zero.map zcell) ti.zero := by
  refine ⟨by simp, fun i c hc => ⟨zcell c, by rw [List.getElem?_map, hc]; rfl, ?_⟩⟩
  have := List.all_eq_true.1 ht.zok c (List.mem_of_getElem? hc)
  cases c with
  | d c => cases c with
    | lit v => exact RdC.lit this
    | sl es => simp at this
  | nil => rfl
  | own => simp at this
  | bad => simp at this

theorem mkV_cells {ti : TI} {t : TypeId} (ht : TF P t ti) : (mkV ti.agg (ti.zero.map zcell)).cells.toList = ti.zero.map zcell := by
  unfold mkV
  cases ha : ti.agg with
  | true => simp [Value.cells]
  | false =>
    have h1 := ht.one ha
    have h2 := ht.zsz
    match hz : ti.zero, h2 with
    | [c], _ =>
      have hr := (zcell_rel (w := default) (X := fun _ => False) (μ := id) ht)
      have := relL_one hr (zcell c) (by rw [hz]; simp)
      simp
      cases hv : zcell c <;> first | rfl | (rw [hv] at this; simp [Value.oneCell'] at this)
    | [], h => rw [h1] at h; simp at h
    | _ :: _ :: _, h => rw [h1] at h; simp at h

/-! #### Structs -/
theorem fill_sound (hT : TOK P T) {fields : Array Field} {fs : List (Nat × TypeId)} (hfl : fields.toList.map (fun f => (f.offset, f.type)) = fs)
    {places : Array (Nat × Nat)} (hp : ∀ (i off : Nat) (t : TypeId) (ti : TI), fs[i]? = some (off, t) → T t = some ti → places[i]? = some (off, ti.size)) :
    ∀ (parts : List (Nat × SV)) (ps : List (Nat × Value)) (cs : Array Value) (l l' : List SC), ps.length = parts.length →
      (∀ (k : Nat) (p : Nat × SV), parts[k]? = some p → ∃ u, ps[k]? = some (p.1, u) ∧ RelV w X μ u p.2) → RelL w X μ cs.toList l → fillA T fs l parts = some l' →
      ∃ cs', Instr.fill (places[·]?) cs ps = some cs' ∧ RelL w X μ cs'.toList l'
  | [], ps, cs, l, l', hlen, _, hr, h => by
    have : ps = [] := by simpa using hlen
    subst this
    simp [fillA] at h; subst h
    exact ⟨cs, rfl, hr⟩
  | (i, x) :: parts, ps, cs, l, l', hlen, hps, hr, h => by
    match ps, hlen with
    | p :: ps, hlen =>
      obtain ⟨u, hu, hru⟩ := hps 0 _ rfl
      simp at hu; subst hu
      cases x with
      | val v =>
        simp only [fillA] at h
        split at h
        · rename_i off t hf
          split at h
          · rename_i ti hti
            split at h
            · rename_i hc
              have hcells := relVV_cells hru
              have hpl := hp _ _ _ _ hf hti
              have hsz : u.cells.size = ti.size := by have := hcells.1; rw [Array.length_toList] at this; omega
              have hcs := hr.1
              rw [Array.length_toList] at hcs
              simp only [Instr.fill, hpl]
              rw [if_neg (by simp [hsz]; omega), foldl_zipIdx]
              exact fill_sound hT hfl hp parts ps _ _ _ (by simpa using hlen) (fun k p hk => by
                have := hps (k + 1) p (by simpa using hk); simpa using this) (relL_spl hr hcells (by omega)) h
            · cases h
          · cases h
        · cases h
      | _ => simp [fillA] at h

/-- The places that 'build' reckons. -/
theorem run_places (hT : TOK P T) : ∀ (fields : List Field), (∀ f ∈ fields, (T f.type).isSome) →
    ∃ ps : List (Nat × Nat), (fields.mapM (fun f => do pure (f.offset, ← sizeOf f.type)) : Sem (List (Nat × Nat))).run P w = .ok ps w ∧
      ∀ (i off : Nat) (t : TypeId) (ti : TI), (fields.map (fun f => (f.offset, f.type)))[i]? = some (off, t) → T t = some ti → ps[i]? = some (off, ti.size)
  | [], _ => ⟨[], rfl, fun i off t ti h => by simp at h⟩
  | f :: fields, h => by
    obtain ⟨ps, hps, hget⟩ := run_places hT fields (fun g hg => h g (by simp [hg]))
    obtain ⟨ti, hti⟩ := Option.isSome_iff_exists.1 (h f (by simp))
    have hs := (hT.ty _ _ hti).run_sizeOf w
    refine ⟨(f.offset, ti.size) :: ps, ?_, ?_⟩
    · simp only [List.mapM_cons, Sem.run_bind, hs, Result.andThen_ok, Sem.run_pure, hps]
    · intro i off t ti' hi ht'
      match i with
      | 0 =>
        simp at hi
        obtain ⟨rfl, rfl⟩ := hi
        rw [hti] at ht'; cases ht'
        rfl
      | i + 1 => exact hget i off t ti' (by simpa using hi) ht'

theorem effBuild_sound (hT : TOK P T) {t : TypeId} {parts : List (Nat × SV)} {ps : Array (Nat × Value)} {v : SV} (hlen : ps.toList.length = parts.length)
    (hps : ∀ (k : Nat) (p : Nat × SV), parts[k]? = some p → ∃ u, ps.toList[k]? = some (p.1, u) ∧ RelV w X μ u p.2) (h : effBuild T t parts = .set v) :
    Yv P w X μ (Instr.build t ps) v := by
  unfold effBuild at h
  split at h
  · rename_i ti hti
    split at h
    · rename_i fs hfs
      split at h
      · rename_i hall
        split at h
        · rename_i cs hcs
          cases h
          have ht := hT.ty _ _ hti
          obtain ⟨fields, hu, hfl⟩ := ht.run_struct w hfs
          have hall' : ∀ f ∈ fields.toList, (T f.type).isSome := by
            intro f hf
            have := List.all_eq_true.1 hall (f.offset, f.type) (by rw [← hfl]; exact List.mem_map.2 ⟨f, hf, rfl⟩)
            exact this
          obtain ⟨pl, hpl, hget⟩ := run_places (w := w) hT fields.toList hall'
          rw [hfl] at hget
          obtain ⟨cs', hfill, hrel⟩ := fill_sound (w := w) (X := X) (μ := μ) hT hfl (places := pl.toArray) (fun i off t ti h1 h2 => by simpa using hget i off t ti h1 h2)
            parts ps.toList (mkV ti.agg (ti.zero.map zcell)).cells ti.zero cs hlen hps (by rw [mkV_cells ht]; exact zcell_rel ht) hcs
          refine ⟨.agg cs', ?_, cs'.toList, by simp, hrel⟩
          simp only [Instr.build, Sem.run_bind, ht.run_zero, Result.andThen_ok, hu, Array.mapM_eq_mapM_toList, Sem.run_map, hpl, hfill, Sem.run_pure]
        · cases h
      · cases h
    · cases h
  · cases h

/-! #### Slices of slices -/
theorem run_sliceBound {k : IntKind} {n : Int} {y : Nat} {c : BoundsCode} (h : 0 ≤ n ∧ n ≤ y) : (Instr.sliceBound (.int k n) y c).run P w = .ok n.toNat w := by
  simp only [Instr.sliceBound, asIntOf, Sem.run_bind, Sem.run_pure, Result.andThen_ok, if_pos h]

theorem lenOfS_inv {vx : Value} {x : SV} {n : Nat} (hx : RelV w X μ vx x) (hn : lenOfS x = some n) : ∃ a c, vx = .slice a n c ∧ n ≤ c := by
  unfold lenOfS at hn
  split at hn
  · cases hn; obtain ⟨cap, cs, E, fr, rfl, hle, _⟩ := hx; exact ⟨_, _, rfl, hle⟩
  · cases hn
    cases hx with
    | nil => exact ⟨_, _, rfl, Nat.zero_le _⟩
    | sl vs hh hxx hl hc => subst hl; exact ⟨_, _, rfl, hc⟩
  · cases hn; cases hx; exact ⟨_, _, rfl, Nat.le_refl _⟩
  · cases hn

/-- A slice of a slice: the bounds are given as numbers. -/
theorem effSliceN_sound (hT : TOK P T) {t : TypeId} {vx : Value} {x v : SV} {l h : Int} {vlo vhi : Option Value} (hx : RelV w X μ vx x)
    (hlo : vlo = none ∧ l = 0 ∨ ∃ k, vlo = some (.int k l)) (hhi : (vhi = none ∧ ∃ n : Nat, lenOfS x = some n ∧ h = n) ∨ ∃ k, vhi = some (.int k h))
    (he : effSliceN T t x l h = .set v) : Yv P w X μ (Instr.sliceAt t vx vlo vhi none) v := by
  unfold effSliceN at he
  split at he
  · rename_i ti hti
    split at he
    · rename_i hee
      split at he
      · rename_i s hss
        split at he
        · rename_i hb
          cases he
          have hxs : vx = .string s := by
            unfold strOf at hss
            split at hss
            · cases hss; cases hx; rfl
            · cases hss
          subst hxs
          have hu := (hT.ty _ _ hti).run_string w hee
          rcases hhi with ⟨_, m, hm, _⟩ | ⟨k, rfl⟩
          · exfalso
            unfold strOf at hss
            split at hss
            · cases hm
            · cases hss
          · have e1 := run_sliceBound (P := P) (w := w) (k := k) (n := h) (y := s.size) (c := .sliceAlen) ⟨by omega, by omega⟩
            refine ⟨_, ?_, RdC.lit rfl⟩
            rcases hlo with ⟨rfl, rfl⟩ | ⟨k', rfl⟩
            · simp [Instr.sliceAt, Instr.slice, Sem.run_bind, hu, Result.andThen_ok, Instr.sliceBounds, e1]
            · have e2 := run_sliceBound (P := P) (w := w) (k := k') (n := l) (y := h.toNat) (c := .sliceB) ⟨by omega, by omega⟩
              simp [Instr.sliceAt, Instr.slice, Sem.run_bind, hu, Result.andThen_ok, Instr.sliceBounds, e1, e2]
        · cases he
      · cases he
    · rename_i e hee
      split at he
      · rename_i ei hei
        split at he
        · rename_i n hn
          split at he
          · rename_i hb
            obtain ⟨a, c, rfl, hnc⟩ := lenOfS_inv hx hn
            have hu := (hT.ty _ _ hti).run_slice w hee
            have hsz := (hT.ty _ _ hei).run_sizeOf w
            have hbounds : (Instr.sliceBounds true n c vlo vhi none).run P w = .ok (l.toNat, h.toNat, c) w := by
              rcases hhi with ⟨rfl, m, hm, rfl⟩ | ⟨k, rfl⟩
              · rw [hn] at hm; cases hm
                rcases hlo with ⟨rfl, rfl⟩ | ⟨k, rfl⟩
                · simp [Instr.sliceBounds]
                · simp [Instr.sliceBounds, run_sliceBound (P := P) (w := w) (k := k) (n := l) (y := n) (c := .sliceB) ⟨hb.1, hb.2.1⟩]
              · have e1 := run_sliceBound (P := P) (w := w) (k := k) (n := h) (y := c) (c := .sliceAcap) ⟨by omega, by omega⟩
                rcases hlo with ⟨rfl, rfl⟩ | ⟨k', rfl⟩
                · simp [Instr.sliceBounds, e1]
                · simp [Instr.sliceBounds, e1, run_sliceBound (P := P) (w := w) (k := k') (n := l) (y := h.toNat) (c := .sliceB) ⟨by omega, by omega⟩]
            have hrun : (Instr.sliceAt t (.slice a n c) vlo vhi none).run P w = .ok (.slice (if c = l.toNat then a else a.map (·.add (l.toNat * ei.size))) (h.toNat - l.toNat) (c - l.toNat)) w := by
              simp only [Instr.sliceAt, Instr.slice, Sem.run_bind, hu, Result.andThen_ok, hbounds, hsz, Sem.run_pure]
            split at he
            · rename_i heq
              cases he
              refine ⟨_, hrun, ?_⟩
              have : h.toNat - l.toNat = 0 := by omega
              rw [this]
              exact RdC.nil
            · rename_i hne
              have hcl : ¬ c = l.toNat := by omega
              rw [if_neg hcl] at hrun
              split at he
              · rename_i id sz off len
                have hn' : len = n := by simpa [lenOfS] using hn
                split at he
                · rename_i hs
                  cases he
                  obtain ⟨cap, cs, E, fr, hv, hle, hh, hcap⟩ := hx
                  cases hv
                  refine ⟨_, hrun, c - l.toNat, cs, E, fr, ?_, by omega, hh, ?_⟩
                  · simp only [Option.map_some, addr_add]
                    congr 1
                    · rw [← hs, Nat.add_mul]
                    · omega
                  · have : off + l.toNat + (c - l.toNat) = off + c := by omega
                    rw [this]; exact hcap
                · cases he
              · rename_i es
                split at he
                · rename_i hall
                  cases he
                  have hn' : es.length = n := by simpa [lenOfS] using hn
                  cases hx with
                  | nil => simp at hn'; omega
                  | sl vs hh hX hl hcap hs hv hr =>
                    rename_i b off sz cs E fr
                    refine ⟨_, hrun, ?_⟩
                    simp only [Option.map_some, addr_add]
                    have hat : ∀ i j d, at2 ((es.take h.toNat).drop l.toNat) i j = some d → at2 es (l.toNat + i) j = some d := by
                      intro i j d hd
                      unfold at2 at hd ⊢
                      rw [List.getElem?_drop, List.getElem?_take] at hd
                      split at hd
                      · exact hd
                      · simp at hd
                    have hszz : ∀ (i : Nat) (el : List DC), es[i]? = some el → el.length = ei.size := fun i el hel => by
                      have := List.all_eq_true.1 hall el (List.mem_of_getElem? hel); simpa using this
                    refine RdC.sl (sz := ei.size) (fun i j => vs (l.toNat + i) j) hh hX ?_ (by omega) ?_ ?_ ?_
                    · simp; omega
                    · intro i el hel
                      rw [List.getElem?_drop, List.getElem?_take] at hel
                      split at hel
                      · exact hszz _ _ hel
                      · cases hel
                    · intro i j d hd
                      have h1 := hat i j d hd
                      rw [← hv _ _ _ h1]
                      have : sz = ei.size := by
                        unfold at2 at h1
                        cases hel : es[l.toNat + i]? with
                        | none => rw [hel] at h1; cases h1
                        | some el => rw [← hs _ _ hel, hszz _ _ hel]
                      rw [this, Nat.add_mul]
                      congr 1; omega
                    · intro i j d hd; exact hr _ _ _ (hat i j d hd)
                · cases he
              · cases he
          · cases he
        · cases he
      · cases he
    · cases he
  · cases he

end
end Go.Proofs.YtipenembpidoiaaGreatDoor

/- The simulation goes on: values put into slots, new objects, stores, appends. No condition. -/
namespace Go.Proofs.YtipenembpidoiaaGreatDoor
open Go.RowKit

def OO.noOwn : OO → Bool
  | .box cs => cs.all SC.noOwn
  | .arr _ _ => true
def St.noRef (st : St) (d : Nat) : Bool :=
  st.ρ.all (SV.noRef d) && st.rb.all (fun id => match st.σ id with | some o => o.noRef d | none => true)
def St.new (st : St) (d : Nat) (o : OO) (v : SV) : St :=
  { ρ := st.ρ.set d v, σ := updO st.σ d o, rb := if o.noOwn then st.rb else d :: st.rb }
def St.app (st : St) (d : Nat) (id : Option Nat) (o : OO) (v : SV) : St :=
  { ρ := st.ρ.set d v, σ := updO (fun k => if some k = id then none else st.σ k) d o, rb := st.rb }

section
variable {P : Program} {T : Tab} {w w' w0 : World} {X : Nat → Prop} {μ : Nat → Nat} {a : Act} {st : St}

theorem getD_set {α : Type} (l : List α) (d i : Nat) (v x : α) : (l.set d v).getD i x = if i = d ∧ d < l.length then v else l.getD i x := by
  simp only [List.getD_eq_getElem?_getD, List.getElem?_set]
  by_cases h : d = i
  · subst h
    by_cases h2 : d < l.length
    · simp [h2]
    · simp [h2]
  · rw [if_neg h, if_neg (by intro h'; exact h h'.1.symm)]

theorem arr_getD_set (l : Array Value) (d i : Nat) (v x : Value) : (l.setIfInBounds d v).getD i x = if i = d ∧ d < l.size then v else l.getD i x := by
  simp only [Array.getD_eq_getD_getElem?, Array.getElem?_setIfInBounds]
  by_cases h : d = i
  · subst h
    by_cases h2 : d < l.size
    · simp [h2]
    · simp [h2]
  · rw [if_neg h, if_neg (by intro h'; exact h h'.1.symm)]

theorem Sim.put (hs : Sim w0 X μ a w st) {dst : Option Tmp} {u : Value} {v : SV} (hv : RelV w (Mut X μ st.σ) μ u v) : Sim w0 X μ (a.put dst u) w (st.put dst v) := by
  cases dst with
  | none => exact hs
  | some d =>
    refine ⟨hs.xlt, hs.dfr, hs.bel, by simp [Act.put, St.put, hs.len], fun i => ?_, hs.objs, hs.inj, hs.rbs⟩
    simp only [Act.put, St.put, St.get, arr_getD_set, getD_set, hs.len]
    split
    · exact hv
    · exact hs.slots i

theorem Sim.below (hs : Sim w0 X μ a w st) (h : Below w.heap.size w w') : Sim w0 X μ a w' st := by
  have hf : Fwd (Mut X μ st.σ) w w' := Fwd.of_below h
  have hB := hs.bel.size
  refine ⟨hs.xlt, hs.dfr, hs.bel.trans (h.mono hB), hs.len, fun i => (hs.slots i).mono (fun _ _ h => h) hf, fun id o ho => ?_, hs.inj, hs.rbs⟩
  obtain ⟨h1, cs, E, hh, hr⟩ := hs.objs id o ho
  exact ⟨h1, cs, E, (h.block _ (lt_of_heap hh)).trans hh, hr.mono (fun _ _ h => h) hf⟩

def upm (μ : Nat → Nat) (d b : Nat) : Nat → Nat := fun k => if k = d then b else μ k

theorem upm_ne {d b k : Nat} (h : k ≠ d) : upm μ d b k = μ k := by simp [upm, h]

theorem obj_noRef (hs : Sim w0 X μ a w st) {d : Nat} (hno : st.noRef d = true) {id : Nat} {o : OO} (ho : st.σ id = some o) : o.noRef d = true := by
  cases o with
  | arr => rfl
  | box cs =>
    by_cases hr : id ∈ st.rb
    · simp only [St.noRef, Bool.and_eq_true] at hno
      have := List.all_eq_true.1 hno.2 id hr
      rw [ho] at this; exact this
    · exact hs.rbs id cs ho hr d

theorem slot_noRef {d : Nat} (hno : st.noRef d = true) (i : Nat) : (st.get i).noRef d = true := by
  simp only [St.noRef, Bool.and_eq_true] at hno
  unfold St.get
  rw [List.getD_eq_getElem?_getD]
  cases h : st.ρ[i]? with
  | none => rfl
  | some v => exact List.all_eq_true.1 hno.1 v (List.mem_of_getElem? h)

theorem noOwn_noRef {cs : List SC} (h : cs.all SC.noOwn = true) (k : Nat) : cs.all (SC.noRef k) = true := by
  rw [List.all_eq_true] at h ⊢
  intro c hc
  have := h c hc
  cases c <;> simp_all [SC.noOwn, SC.noRef]

theorem Sim.new (hs : Sim w0 X μ a w st) {d b : Nat} (hno : st.noRef d = true) {cs : Array Value} {E : TypeId} {o : OO} {u : Value} {v : SV}
    (hf : Fwd (Mut X μ st.σ) w w') (hbel : Below w0.heap.size w0 w') (hkeep : ∀ id o, st.σ id = some o → w'.heap[μ id]? = w.heap[μ id]?) (hb : w.heap.size ≤ b) (hh : w'.heap[b]? = some (.cells cs E (0, 0)))
    (ho : RelO w' (Mut X (upm μ d b) (updO st.σ d o)) (upm μ d b) cs o) (hv : RelV w' (Mut X (upm μ d b) (updO st.σ d o)) (upm μ d b) u v) :
    Sim w0 X (upm μ d b) (a.put (some d) u) w' (st.new d o v) := by
  have hX : ∀ k, k < w.heap.size → Mut X (upm μ d b) (updO st.σ d o) k → Mut X μ st.σ k := by
    intro k hk hm
    rcases hm with hm | ⟨id, o', h1, h2⟩
    · exact Or.inl hm
    · by_cases hid : id = d
      · subst hid; simp [upm] at h2; omega
      · simp only [updO, if_neg hid] at h1
        rw [upm_ne hid] at h2
        exact Or.inr ⟨id, o', h1, h2⟩
  refine ⟨hs.xlt, hs.dfr, hbel, by simp [Act.put, St.new, hs.len], fun i => ?_, fun id o' h' => ?_, fun i j oi oj hi hj hij => ?_, fun id cs' h' hid k => ?_⟩
  · simp only [Act.put, St.new, St.get, arr_getD_set, getD_set, hs.len]
    split
    · exact hv
    · exact ((hs.slots i).mono hX hf).ren (slot_noRef hno i) (fun k hk => upm_ne hk)
  · simp only [St.new] at h' ⊢
    by_cases hid : id = d
    · subst hid
      simp only [updO, if_true] at h'; cases h'
      refine ⟨?_, cs, E, ?_, ho⟩
      · simp [upm]; have := hs.bel.size; omega
      · simpa [upm] using hh
    · simp only [updO, if_neg hid] at h'
      obtain ⟨h1, cs', E', hh', hr⟩ := hs.objs id o' h'
      rw [upm_ne hid]
      refine ⟨h1, cs', E', (hkeep _ _ h').trans hh', (hr.mono hX hf).ren (obj_noRef hs hno h') (fun k hk => upm_ne hk)⟩
  · simp only [St.new, updO] at hi hj
    by_cases hid : i = d
    · by_cases hjd : j = d
      · rw [hid, hjd]
      · rw [if_neg hjd] at hj
        obtain ⟨_, _, _, hh', _⟩ := hs.objs j oj hj
        have := lt_of_heap hh'
        rw [upm_ne hjd] at hij
        subst hid
        simp [upm] at hij; omega
    · rw [if_neg hid] at hi
      by_cases hjd : j = d
      · obtain ⟨_, _, _, hh', _⟩ := hs.objs i oi hi
        have := lt_of_heap hh'
        rw [upm_ne hid] at hij
        subst hjd
        simp [upm] at hij; omega
      · rw [if_neg hjd] at hj
        rw [upm_ne hid, upm_ne hjd] at hij
        exact hs.inj i j oi oj hi hj hij
  · simp only [St.new] at h' hid
    by_cases hidd : id = d
    · subst hidd
      simp only [updO, if_true] at h'; cases h'
      by_cases hno' : (OO.box cs').noOwn = true
      · exact noOwn_noRef hno' k
      · rw [if_neg hno'] at hid; simp at hid
    · simp only [updO, if_neg hidd] at h'
      refine hs.rbs id cs' h' (fun hm => hid ?_) k
      split
      · exact hm
      · exact List.mem_cons_of_mem _ hm

/-- A new row of cells. -/
theorem Sim.alloc (hs : Sim w0 X μ a w st) {d : Nat} (hno : st.noRef d = true) {cs : Array Value} {E : TypeId} {o : OO} {u : Value} {v : SV}
    (ho : RelO w (Mut X μ st.σ) μ cs o) (hor : o.noRef d = true)
    (hv : RelV (w.alloc (.cells cs E)) (Mut X (upm μ d w.heap.size) (updO st.σ d o)) (upm μ d w.heap.size) u v) :
    Sim w0 X (upm μ d w.heap.size) (a.put (some d) u) (w.alloc (.cells cs E)) (st.new d o v) := by
  have hf := alloc_fwd (Mut X μ st.σ) w (.cells cs E)
  refine hs.new hno hf (hs.bel.alloc hs.bel.size _) (fun id o' h' => ?_) (Nat.le_refl _) (alloc_heap w _) ?_ hv
  · obtain ⟨_, _, _, hh, _⟩ := hs.objs id o' h'
    exact Below.heap_alloc _ _ _ (lt_of_heap hh)
  · refine (ho.mono ?_ hf).ren hor (fun k hk => upm_ne hk)
    intro k hk hm
    rcases hm with hm | ⟨id, o', h1, h2⟩
    · exact Or.inl hm
    · by_cases hid : id = d
      · subst hid; simp [upm] at h2; omega
      · simp only [updO, if_neg hid] at h1
        rw [upm_ne hid] at h2
        exact Or.inr ⟨id, o', h1, h2⟩

/-- A store into an own object. -/
theorem Sim.upd (hs : Sim w0 X μ a w st) {id : Nat} {o o' : OO} (hid : st.σ id = some o) {cs cs' : Array Value} {E : TypeId} (hh : w.heap[μ id]? = some (.cells cs E (0, 0)))
    (hsz : cs'.size = cs.size) (ho : RelO w (Mut X μ st.σ) μ cs' o') {rb' : List Nat} (hrb : ∀ k ∈ st.rb, k ∈ rb') (hrb' : ∀ l, o' = .box l → id ∉ rb' → ∀ k, l.all (SC.noRef k) = true) :
    Sim w0 X μ a (setRow w (μ id) cs') ⟨st.ρ, updO st.σ id o', rb'⟩ := by
  have hMi : Mut X μ st.σ (μ id) := Or.inr ⟨id, o, hid, rfl⟩
  have hM : ∀ k, Mut X μ (updO st.σ id o') k → Mut X μ st.σ k := by
    intro k hm
    rcases hm with hm | ⟨j, oj, h1, h2⟩
    · exact Or.inl hm
    · by_cases hj : j = id
      · subst hj; exact Or.inr ⟨j, o, hid, h2⟩
      · simp only [updO, if_neg hj] at h1; exact Or.inr ⟨j, oj, h1, h2⟩
  have hf := setRow_fwd (X := Mut X μ st.σ) hh hsz hMi
  have hid' := hs.objs id o hid
  refine ⟨hs.xlt, hs.dfr, hs.bel.trans (setRow_below _ hid'.1), hs.len, fun i => (hs.slots i).mono (fun k _ h => hM k h) hf, fun j oj hj => ?_, fun i j oi oj hi hj hij => ?_, fun j l hj hnr k => ?_⟩
  · by_cases hjid : j = id
    · subst hjid
      simp only [updO, if_true] at hj; cases hj
      exact ⟨hid'.1, cs', E, setRow_heap hh _, ho.mono (fun k _ h => hM k h) hf⟩
    · simp only [updO, if_neg hjid] at hj
      obtain ⟨h1, csj, Ej, hhj, hr⟩ := hs.objs j oj hj
      have hne : μ j ≠ μ id := fun e => hjid (hs.inj j id oj o hj hid e)
      exact ⟨h1, csj, Ej, by rw [setRow_heap_ne _ _ _ hne]; exact hhj, hr.mono (fun k _ h => hM k h) hf⟩
  · have fi : ∃ o1, st.σ i = some o1 := by
      by_cases h : i = id
      · exact ⟨o, h ▸ hid⟩
      · simp only [updO, if_neg h] at hi; exact ⟨_, hi⟩
    have fj : ∃ o1, st.σ j = some o1 := by
      by_cases h : j = id
      · exact ⟨o, h ▸ hid⟩
      · simp only [updO, if_neg h] at hj; exact ⟨_, hj⟩
    obtain ⟨o1, h1⟩ := fi
    obtain ⟨o2, h2⟩ := fj
    exact hs.inj i j o1 o2 h1 h2 hij
  · by_cases hjid : j = id
    · subst hjid
      simp only [updO, if_true] at hj
      exact hrb' l (by simpa using hj) hnr k
    · simp only [updO, if_neg hjid] at hj
      exact hs.rbs j l hj (fun hm => hnr (hrb _ hm)) k

theorem dataL_rel : ∀ {cs : List SC} {ds : List DC}, dataL cs = some ds → ∀ {vs : List Value}, RelL w X μ vs cs →
    ds.length = cs.length ∧ ∀ (i : Nat) (d : DC), ds[i]? = some d → ∃ v, vs[i]? = some v ∧ RdC w X v d
  | [], ds, h, vs, _ => by simp [dataL] at h; subst h; exact ⟨rfl, fun i d hd => by simp at hd⟩
  | c :: cs, ds, h, vs, hr => by
    simp only [dataL] at h
    split at h
    · rename_i d' ds' hc hds
      cases h
      match vs, hr with
      | v :: vs, hr =>
        have hr' : RelL w X μ vs cs := ⟨by simpa using hr.1, fun i c hc => by have := hr.2 (i + 1) c (by simpa using hc); simpa using this⟩
        obtain ⟨h1, h2⟩ := dataL_rel (vs := vs) hds hr'
        refine ⟨by simp [h1], fun i d hd => ?_⟩
        match i with
        | 0 =>
          simp at hd; subst hd
          obtain ⟨u, hu, hcu⟩ := hr.2 0 c rfl
          simp at hu; subst hu
          refine ⟨v, rfl, ?_⟩
          cases c with
          | d c => simp [SC.data?] at hc; subst hc; exact hcu
          | nil => simp [SC.data?] at hc; subst hc; cases hcu; exact .nil
          | own => simp [SC.data?] at hc
          | bad => simp [SC.data?] at hc
        | i + 1 => exact h2 i d (by simpa using hd)
      | [], hr => have := hr.1; simp at this
    · cases h

theorem run_storeAt {t : TypeId} {ti : TI} (ht : TF P t ti) {b off : Nat} {cs : Array Value} {E : TypeId} (hh : w.heap[b]? = some (.cells cs E (0, 0))) {v : Value} {x : VV}
    (hv : RelVV w X μ v x) (hsz : (cellsOf x).length = ti.size) (hle : off + ti.size ≤ cs.size) :
    (Instr.storeAt t (.pointer (some ⟨b, off, none⟩)) v).run P w = .ok () (setRow w b (spl cs off v.cells.toList)) := by
  have hc := relVV_cells hv
  have hcs : v.cells.size = ti.size := by have := hc.1; rw [Array.length_toList] at this; omega
  simp only [Instr.storeAt, Instr.sureAddr, Sem.run_bind, Sem.run_pure, Result.andThen_ok, storeVar, ht.run_sizeOf, ne_eq, hcs, not_true, if_false, Sem.run_ite]
  have := run_storeCells (P := P) v.cells.toList hh off 0 (by rw [Array.length_toList]; omega) (relL_one hc)
  simpa using this

theorem effStore_sound (hT : TOK P T) (hs : Sim w0 X μ a w st) {t : TypeId} {vx vy : Value} {x y : SV} {σ' : Objs} {rb' : List Nat}
    (hx : RelV w (Mut X μ st.σ) μ vx x) (hy : RelV w (Mut X μ st.σ) μ vy y) (h : effStore T st t x y = .upd σ' rb') :
    ∃ w', (Instr.storeAt t vx vy).run P w = .ok () w' ∧ Sim w0 X μ a w' ⟨st.ρ, σ', rb'⟩ := by
  unfold effStore at h
  split at h
  · rename_i ti v hti
    have ht := hT.ty _ _ hti
    have hc := relVV_cells (show RelVV w _ μ vy v from hy)
    split at h
    · rename_i hsz
      split at h
      · rename_i id off
        have hx' : vx = .pointer (some ⟨μ id, off, none⟩) := hx
        subst hx'
        split at h
        · rename_i cs hcs
          split at h
          · rename_i hle
            cases h
            obtain ⟨_, cells, E, hh, hl, hrel⟩ := hs.objs _ _ hcs
            refine ⟨_, run_storeAt ht hh hy hsz (by omega), ?_⟩
            refine hs.upd (o' := .box (splL cs off (cellsOf v))) hcs hh (spl_size _ _ _) ⟨by rw [splL_length, spl_size]; exact hl, fun i c hi => ?_⟩ (fun k hk => ?_) (fun l hl hid k => ?_)
            · rw [splL_get _ _ _ _ (by omega)] at hi
              rw [spl_get _ _ _ _ (by rw [hc.1]; omega), hc.1]
              split at hi
              · rename_i hii; rw [if_pos hii]; exact hc.2 _ _ hi
              · rename_i hii; rw [if_neg hii]; exact hrel _ _ hi
            · split
              · exact hk
              · exact List.mem_cons_of_mem _ hk
            · cases hl
              split at hid
              · rename_i hno
                rw [List.all_eq_true]
                intro c hmem
                obtain ⟨i, hi⟩ := List.mem_iff_getElem?.1 hmem
                rw [splL_get _ _ _ _ (by omega)] at hi
                split at hi
                · exact List.all_eq_true.1 (noOwn_noRef hno k) c (List.mem_of_getElem? hi)
                · exact List.all_eq_true.1 (hs.rbs id cs hcs hid k) c (List.mem_of_getElem? hi)
              · simp at hid
          · cases h
        · cases h
      · rename_i id sz i j
        have hx' : vx = .pointer (some ⟨μ id, i * sz + j, none⟩) := hx
        subst hx'
        split at h
        · rename_i sz' es ds hes hds
          split at h
          · rename_i hsz'; subst hsz'
            split at h
            · rename_i e he
              split at h
              · rename_i hle
                cases h
                obtain ⟨_, cells, E, hh, hl, hlen, hrel⟩ := hs.objs _ _ hes
                have hel := hlen _ _ he
                have hi : i < es.length := (List.getElem?_eq_some_iff.1 he).1
                have hmul : i * sz' + sz' ≤ es.length * sz' := by rw [← Nat.succ_mul]; exact Nat.mul_le_mul_right _ hi
                obtain ⟨hd1, hd2⟩ := dataL_rel hds hc
                refine ⟨_, run_storeAt ht hh hy hsz (by omega), ?_⟩
                refine hs.upd (o' := .arr sz' (es.set i (splL e j ds))) hes hh (spl_size _ _ _) ⟨by simp only [List.length_set, spl_size]; exact hl, fun k e' hk => ?_, fun k m d hkm => ?_⟩ (fun k hk => hk) (fun l hl => by cases hl)
                · rw [List.getElem?_set] at hk
                  by_cases hik : i = k
                  · subst hik; rw [if_pos rfl, if_pos hi] at hk; cases hk; rw [splL_length]; exact hel
                  · rw [if_neg hik] at hk; exact hlen _ _ hk
                · rw [spl_get _ _ _ _ (by rw [hc.1]; omega), hc.1]
                  unfold at2 at hkm
                  rw [List.getElem?_set] at hkm
                  by_cases hki : i = k
                  · subst hki
                    rw [if_pos rfl, if_pos hi] at hkm
                    simp only [Option.bind_some] at hkm
                    rw [splL_get _ _ _ _ (by omega)] at hkm
                    by_cases hm : j ≤ m ∧ m < j + ds.length
                    · rw [if_pos hm] at hkm
                      rw [if_pos (by omega)]
                      obtain ⟨v, h1, h2⟩ := hd2 _ _ hkm
                      exact ⟨v, by rw [← h1]; congr 1; omega, h2⟩
                    · rw [if_neg hm] at hkm
                      rw [if_neg (by omega)]
                      exact hrel i m d (by simp [at2, he, hkm])
                  · rw [if_neg hki] at hkm
                    have hat : at2 es k m = some d := hkm
                    have hmlt : m < sz' := by
                      unfold at2 at hat
                      cases hek : es[k]? with
                      | none => rw [hek] at hat; cases hat
                      | some ek =>
                        rw [hek] at hat
                        have := (List.getElem?_eq_some_iff.1 (show ek[m]? = some d from hat)).1
                        rw [hlen _ _ hek] at this; exact this
                    rw [if_neg ?_]
                    · exact hrel k m d hat
                    · intro hcon
                      rcases Nat.lt_or_gt_of_ne hki with hlt | hgt
                      · have : i * sz' + sz' ≤ k * sz' := by rw [← Nat.succ_mul]; exact Nat.mul_le_mul_right _ hlt
                        omega
                      · have : k * sz' + sz' ≤ i * sz' := by rw [← Nat.succ_mul]; exact Nat.mul_le_mul_right _ hgt
                        omega
              · cases h
            · cases h
          · cases h
        · rename_i cs hcs
          split at h
          · rename_i hle
            cases h
            obtain ⟨_, cells, E, hh, hl, hrel⟩ := hs.objs _ _ hcs
            refine ⟨_, run_storeAt ht hh hy hsz (by omega), ?_⟩
            refine hs.upd (o' := .box (splL cs (i * sz + j) (cellsOf v))) hcs hh (spl_size _ _ _) ⟨by rw [splL_length, spl_size]; exact hl, fun i c hi => ?_⟩ (fun k hk => ?_) (fun l hl hid k => ?_)
            · rw [splL_get _ _ _ _ (by omega)] at hi
              rw [spl_get _ _ _ _ (by rw [hc.1]; omega), hc.1]
              split at hi
              · rename_i hii; rw [if_pos hii]; exact hc.2 _ _ hi
              · rename_i hii; rw [if_neg hii]; exact hrel _ _ hi
            · split
              · exact hk
              · exact List.mem_cons_of_mem _ hk
            · cases hl
              split at hid
              · rename_i hno
                rw [List.all_eq_true]
                intro c hmem
                obtain ⟨i, hi⟩ := List.mem_iff_getElem?.1 hmem
                rw [splL_get _ _ _ _ (by omega)] at hi
                split at hi
                · exact List.all_eq_true.1 (noOwn_noRef hno k) c (List.mem_of_getElem? hi)
                · exact List.all_eq_true.1 (hs.rbs id cs hcs hid k) c (List.mem_of_getElem? hi)
              · simp at hid
          · cases h
        · cases h
      · cases h
    · cases h
  · cases h

/-! #### Making slices -/
theorem dataL_zero {t : TypeId} {ti : TI} (ht : TF P t ti) : ∃ ds, dataL ti.zero = some ds ∧ ds.length = ti.size := by
  have h1 := ht.zok
  have h2 := ht.zsz
  rw [← h2]
  generalize ti.zero = l at h1
  clear h2
  induction l with
  | nil => exact ⟨[], rfl, rfl⟩
  | cons c l ih =>
    simp only [List.all_cons, Bool.and_eq_true] at h1
    obtain ⟨ds, hd, hl⟩ := ih h1.2
    cases c with
    | d c => exact ⟨c :: ds, by simp [dataL, SC.data?, hd], by simp [hl]⟩
    | nil => exact ⟨.sl [] :: ds, by simp [dataL, SC.data?, hd], by simp [hl]⟩
    | own => simp at h1
    | bad => simp at h1

theorem at2_replicate {n i j : Nat} {l : List DC} {d : DC} (h : at2 (List.replicate n l) i j = some d) : i < n ∧ l[j]? = some d := by
  unfold at2 at h
  rw [List.getElem?_replicate] at h
  split at h
  · rename_i hi; exact ⟨hi, h⟩
  · cases h

/-- The cells of n zero elements. -/
theorem zeros_get {z : Array Value} {n sz i j : Nat} (hz : z.size = sz) (hj : j < sz) (hi : i < n) :
    ((Array.range (n * sz)).map (fun k => z[k % z.size]!))[i * sz + j]? = z[j]? := by
  have hlt : i * sz + j < n * sz := by
    have : i * sz + sz ≤ n * sz := by rw [← Nat.succ_mul]; exact Nat.mul_le_mul_right _ hi
    omega
  have hmod : (i * sz + j) % z.size = j := by
    rw [hz, Nat.add_comm, Nat.add_mul_mod_self_right, Nat.mod_eq_of_lt hj]
  have hj' : j < z.size := by omega
  simp [hlt, hmod, hj']

theorem relO_zeros {t : TypeId} {ti : TI} (ht : TF P t ti) (n c : Nat) (hnc : n ≤ c) {z : Array Value} (hz : z = (mkV ti.agg (ti.zero.map zcell)).cells) :
    RelO w X μ ((Array.range (c * ti.size)).map (fun k => z[k % z.size]!)) (.arr ti.size (List.replicate n (zeroD ti))) := by
  obtain ⟨ds, hds, hdl⟩ := dataL_zero ht
  have hzd : zeroD ti = ds := by simp [zeroD, hds]
  have hzl : z.toList = ti.zero.map zcell := by rw [hz]; exact mkV_cells ht
  have hzs : z.size = ti.size := by have := congrArg List.length hzl; simpa [ht.zsz] using this
  obtain ⟨h1, h2⟩ := dataL_rel (w := w) (X := X) (μ := μ) hds (zcell_rel ht)
  refine ⟨by simp; exact Nat.mul_le_mul_right _ hnc, fun i e he => ?_, fun i j d hd => ?_⟩
  · rw [List.getElem?_replicate] at he
    split at he
    · cases he; rw [hzd]; exact hdl
    · cases he
  · obtain ⟨hi, hj⟩ := at2_replicate hd
    rw [hzd] at hj
    obtain ⟨v, hv, hr⟩ := h2 _ _ hj
    have hjl := (List.getElem?_eq_some_iff.1 hj).1
    refine ⟨v, ?_, hr⟩
    rw [zeros_get hzs (by omega) (by omega : i < c)]
    rw [← hzl] at hv
    simpa using hv

theorem relO_zeroO {t : TypeId} {ti : TI} (ht : TF P t ti) (n c : Nat) (hnc : n ≤ c) {z : Array Value} (hz : z = (mkV ti.agg (ti.zero.map zcell)).cells) :
    RelO w X μ ((Array.range (c * ti.size)).map (fun k => z[k % z.size]!)) (zeroO ti n) := by
  unfold zeroO
  split
  · rename_i hzero
    have hzl : z.toList = ti.zero.map zcell := by rw [hz]; exact mkV_cells ht
    have hs1 : ti.size = 1 := by rw [← ht.zsz, hzero]; rfl
    rw [hzero] at hzl
    have hz0 : z = #[.slice none 0 0] := by
      apply Array.toList_inj.1; rw [hzl]; rfl
    refine ⟨by simp [hs1]; omega, fun i c' hc => ?_⟩
    rw [List.getElem?_replicate] at hc
    split at hc
    · rename_i hi
      cases hc
      refine ⟨.slice none 0 0, ?_, rfl⟩
      have h := zeros_get (z := z) (n := c) (sz := ti.size) (i := i) (j := 0) (by rw [hz0, hs1]; rfl) (by omega) (by omega)
      rw [hs1, Nat.mul_one, Nat.add_zero, Nat.mul_one] at h
      rw [hs1, Nat.mul_one, h, hz0]; rfl
    · cases hc
  · exact relO_zeros ht n c hnc hz
theorem zeroO_noRef (ti : TI) (n d : Nat) : (zeroO ti n).noRef d = true := by
  unfold zeroO
  split
  · simp only [OO.noRef, List.all_eq_true]
    intro c hc
    rw [List.eq_of_mem_replicate hc]; rfl
  · rfl

theorem effMakeSlice_sound (hT : TOK P T) {t : TypeId} {vl vc : Value} {l c : SV} {o : OO} {f : Nat → SV} (hl : RelV w X μ vl l) (hc : RelV w X μ vc c)
    (h : effMakeSlice T t l c = .new o f) :
    ∃ cs E u, (Instr.makeSlice t vl vc).run P w = .ok u (w.alloc (.cells cs E)) ∧ RelO w X μ cs o ∧ o.noRef 0 = true ∧ (∀ d, o.noRef d = true) ∧
      ∀ (d : Nat) (X' : Nat → Prop), RelV (w.alloc (.cells cs E)) X' (upm μ d w.heap.size) u (f d) := by
  unfold effMakeSlice at h
  split at h
  · rename_i ti k n k' m hti hn hm
    have e1 := int_inv hl hn
    have e2 := int_inv hc hm
    subst e1; subst e2
    split at h
    · rename_i e he
      split at h
      · rename_i ei hei
        split at h
        · rename_i hcond
          obtain ⟨h0, hnm, hm40', hby, hsz0⟩ := hcond
          have hm40 : m ≤ 2 ^ 40 := by have := Nat.le_of_ble_eq_true hm40'; omega
          cases h
          have ht := hT.ty _ _ hei
          have hu := (hT.ty _ _ hti).run_slice w he
          obtain ⟨inf, hinf, hb, _⟩ := ht.run_bytes w
          have hz := ht.run_zero w
          have hsz := ht.run_sizeOf w
          have hwl : IntKind.i64.wrap n = n := IntWalk.i64_in _ (by omega)
          have hwc : IntKind.i64.wrap m = m := IntWalk.i64_in _ (by omega)
          have hbm : (inf.bytes : Int) * m ≤ 2 ^ 48 := by
            rw [hb]
            have h1 : (ei.bytes : Int) ≤ 256 := by omega
            have h2 : (ei.bytes : Int) * m ≤ 256 * m := Int.mul_le_mul_of_nonneg_right h1 (by omega)
            omega
          refine ⟨_, e, .slice (some ⟨w.heap.size, 0, none⟩) n.toNat m.toNat, ?_, relO_zeroO ht n.toNat m.toNat (by omega) rfl, zeroO_noRef _ _ _, fun _ => zeroO_noRef _ _ _, fun d X' => ?_⟩
          · simp only [Instr.makeSlice, Sem.run_bind, hu, Result.andThen_ok, asInt, asIntOf, Sem.run_pure, hinf, hwl, hwc]
            rw [if_neg (by simp; omega)]
            simp only [Sem.run_bind, run_askRoom, hsz, Result.andThen_ok]
            by_cases hn0 : m.toNat * ei.size = 0
            · rw [if_pos hn0]
              have r0 : ∀ f : Nat → Value, (Array.range 0).map f = #[] := fun f => by simp
              simp only [Sem.run_bind, Sem.run_pure, Result.andThen_ok, newRow, run_newObj, hn0, r0]
              rfl
            · rw [if_neg hn0]
              simp only [Sem.run_bind, hz, Result.andThen_ok, Sem.run_pure, newRow, run_newObj]
              rfl
          · refine ⟨m.toNat, _, e, (0, 0), by simp [upm], by omega, by rw [show upm μ d w.heap.size d = w.heap.size by simp [upm]]; exact alloc_heap _ _, ?_⟩
            simp
        · cases h
      · cases h
    · cases h
  · cases h

theorem at2_set {es : List (List DC)} {i k m : Nat} {ds : List DC} (hi : i < es.length) {d : DC} (h : at2 (es.set i ds) k m = some d) :
    (k = i ∧ ds[m]? = some d) ∨ (k ≠ i ∧ at2 es k m = some d) := by
  unfold at2 at h ⊢
  rw [List.getElem?_set] at h
  by_cases hk : i = k
  · subst hk
    rw [if_pos rfl, if_pos hi] at h
    exact Or.inl ⟨rfl, h⟩
  · rw [if_neg hk] at h
    exact Or.inr ⟨Ne.symm hk, h⟩

theorem fillS_sound {sz : Nat} : ∀ (parts : List (Nat × SV)) (ps : List (Nat × Value)) (cs : Array Value) (es es' : List (List DC)), ps.length = parts.length →
    (∀ (k : Nat) (p : Nat × SV), parts[k]? = some p → ∃ u, ps[k]? = some (p.1, u) ∧ RelV w X μ u p.2) → cs.size = es.length * sz → RelO w X μ cs (.arr sz es) →
    fillS sz es parts = some es' →
    ∃ cs', Instr.fill (fun i => some (i * sz, sz)) cs ps = some cs' ∧ cs'.size = cs.size ∧ es'.length = es.length ∧ RelO w X μ cs' (.arr sz es')
  | [], ps, cs, es, es', hlen, _, _, hr, h => by
    have : ps = [] := by simpa using hlen
    subst this
    simp [fillS] at h; subst h
    exact ⟨cs, rfl, rfl, rfl, hr⟩
  | (i, x) :: parts, ps, cs, es, es', hlen, hps, hsz, hr, h => by
    match ps, hlen with
    | p :: ps, hlen =>
      obtain ⟨u, hu, hru⟩ := hps 0 _ rfl
      simp at hu; subst hu
      cases x with
      | val v =>
        simp only [fillS] at h
        split at h
        · rename_i ds hds
          split at h
          · rename_i hc
            have hcells := relVV_cells hru
            obtain ⟨hd1, hd2⟩ := dataL_rel hds hcells
            have hus : u.cells.size = sz := by have := hcells.1; rw [Array.length_toList] at this; omega
            have hi := hc.2
            have hmul : i * sz + sz ≤ es.length * sz := by rw [← Nat.succ_mul]; exact Nat.mul_le_mul_right _ hi
            simp only [Instr.fill]
            rw [if_neg (by simp [hus]; omega), foldl_zipIdx]
            have := fillS_sound parts ps (spl cs (i * sz) u.cells.toList) (es.set i ds) es' (by simpa using hlen) (fun k p hk => by
              have := hps (k + 1) p (by simpa using hk); simpa using this) (by rw [spl_size, List.length_set]; exact hsz) ?_ h
            · obtain ⟨cs', h1, h2, h3, h4⟩ := this
              exact ⟨cs', h1, by rw [h2, spl_size], by rw [h3, List.length_set], h4⟩
            · obtain ⟨hr1, hr2, hr3⟩ := hr
              refine ⟨by rw [spl_size, List.length_set]; exact hr1, fun k e hk => ?_, fun k m d hd => ?_⟩
              · rw [List.getElem?_set] at hk
                by_cases hik : i = k
                · subst hik; rw [if_pos rfl, if_pos hi] at hk; cases hk; exact hc.1
                · rw [if_neg hik] at hk; exact hr2 _ _ hk
              · rw [spl_get _ _ _ _ (by rw [Array.length_toList]; omega), Array.length_toList, hus]
                rcases at2_set hi hd with ⟨rfl, hm⟩ | ⟨hne, hm⟩
                · have hml := (List.getElem?_eq_some_iff.1 hm).1
                  rw [if_pos (by omega)]
                  obtain ⟨v, h1, h2⟩ := hd2 _ _ hm
                  exact ⟨v, by rw [← h1]; congr 1; omega, h2⟩
                · have hmlt : m < sz := by
                    unfold at2 at hm
                    cases hek : es[k]? with
                    | none => rw [hek] at hm; cases hm
                    | some ek =>
                      rw [hek] at hm
                      have := (List.getElem?_eq_some_iff.1 (show ek[m]? = some d from hm)).1
                      rw [hr2 _ _ hek] at this; exact this
                  rw [if_neg ?_]
                  · exact hr3 k m d hm
                  · intro hcon
                    rcases Nat.lt_or_gt_of_ne hne with hlt | hgt
                    · have : k * sz + sz ≤ i * sz := by rw [← Nat.succ_mul]; exact Nat.mul_le_mul_right _ hlt
                      omega
                    · have : i * sz + sz ≤ k * sz := by rw [← Nat.succ_mul]; exact Nat.mul_le_mul_right _ hgt
                      omega
          · cases h
        · cases h
      | _ => simp [fillS] at h

theorem effBuildSlice_sound (hT : TOK P T) {t : TypeId} {len : Nat} {parts : List (Nat × SV)} {ps : Array (Nat × Value)} {o : OO} {f : Nat → SV} (hlen : ps.toList.length = parts.length)
    (hps : ∀ (k : Nat) (p : Nat × SV), parts[k]? = some p → ∃ u, ps.toList[k]? = some (p.1, u) ∧ RelV w X μ u p.2) (h : effBuildSlice T t len parts = .new o f) :
    ∃ cs E u, (Instr.buildSlice t len ps).run P w = .ok u (w.alloc (.cells cs E)) ∧ RelO w X μ cs o ∧ o.noRef 0 = true ∧ (∀ d, o.noRef d = true) ∧
      ∀ (d : Nat) (X' : Nat → Prop), RelV (w.alloc (.cells cs E)) X' (upm μ d w.heap.size) u (f d) := by
  unfold effBuildSlice at h
  split at h
  · rename_i ti hti
    split at h
    · rename_i e he
      split at h
      · rename_i ei hei
        split at h
        · rename_i hcond
          split at h
          · rename_i es hes
            cases h
            have ht := hT.ty _ _ hei
            have hu := (hT.ty _ _ hti).run_slice w he
            have hz := ht.run_zero w
            have hsz := ht.run_sizeOf w
            have hr0 := relO_zeros (w := w) (X := X) (μ := μ) ht len len (Nat.le_refl _) rfl
            obtain ⟨cs', h1, h2, h3, h4⟩ := fillS_sound parts ps.toList _ _ es hlen hps (by simp) hr0 hes
            refine ⟨cs', e, .slice (some ⟨w.heap.size, 0, none⟩) len len, ?_, h4, rfl, fun _ => rfl, fun d X' => ?_⟩
            · simp only [Instr.buildSlice, Sem.run_bind, hu, Result.andThen_ok, hsz]
              rw [if_neg (by omega)]
              by_cases hn0 : len * ei.size = 0
              · have r0 : ∀ f : Nat → Value, (Array.range 0).map f = #[] := fun f => by simp
                rw [hn0, r0] at h1
                simp only [hn0, if_true, Sem.run_bind, Sem.run_pure, Result.andThen_ok, r0, h1, newRow, run_newObj]
                rfl
              · simp only [if_neg hn0, Sem.run_bind, hz, Result.andThen_ok, Sem.run_pure, h1, newRow, run_newObj]
                rfl
            · refine ⟨len, cs', e, (0, 0), by simp [upm], Nat.le_refl _, by rw [show upm μ d w.heap.size d = w.heap.size by simp [upm]]; exact alloc_heap _ _, ?_⟩
              rw [h2]; simp
          · cases h
        · cases h
      · cases h
    · cases h
  · cases h

/-! #### Removing and renaming objects -/
def delO (σ : Objs) (id : Nat) : Objs := fun k => if k = id then none else σ k

theorem Sim.del (hs : Sim w0 X μ a w st) (id : Nat) : Sim w0 X μ a w { st with σ := delO st.σ id } := by
  have hM : ∀ k, Mut X μ (delO st.σ id) k → Mut X μ st.σ k := by
    intro k hm
    rcases hm with hm | ⟨j, oj, h1, h2⟩
    · exact Or.inl hm
    · simp only [delO] at h1
      split at h1
      · cases h1
      · exact Or.inr ⟨j, oj, h1, h2⟩
  have get : ∀ {j o}, delO st.σ id j = some o → st.σ j = some o := by
    intro j o h
    simp only [delO] at h
    split at h
    · cases h
    · exact h
  refine ⟨hs.xlt, hs.dfr, hs.bel, hs.len, fun i => (hs.slots i).mono (fun k _ h => hM k h) (Fwd.refl _ _), fun j o hj => ?_, fun i j oi oj hi hj => hs.inj i j oi oj (get hi) (get hj), fun j l hj => hs.rbs j l (get hj)⟩
  obtain ⟨h1, cs, E, hh, hr⟩ := hs.objs j o (get hj)
  exact ⟨h1, cs, E, hh, hr.mono (fun k _ h => hM k h) (Fwd.refl _ _)⟩

/-- An array gets another number. -/
theorem Sim.move (hs : Sim w0 X μ a w st) {id d sz : Nat} {es : List (List DC)} (hid : st.σ id = some (.arr sz es)) (hno : st.noRef d = true) (hne : d ≠ id) :
    Sim w0 X (upm μ d (μ id)) a w { st with σ := updO (delO st.σ id) d (.arr sz es) } := by
  have hM : ∀ k, Mut X (upm μ d (μ id)) (updO (delO st.σ id) d (.arr sz es)) k → Mut X μ st.σ k := by
    intro k hm
    rcases hm with hm | ⟨j, oj, h1, h2⟩
    · exact Or.inl hm
    · by_cases hj : j = d
      · subst hj; simp [upm] at h2; exact Or.inr ⟨id, _, hid, h2⟩
      · simp only [updO, if_neg hj, delO] at h1
        split at h1
        · cases h1
        · rw [upm_ne hj] at h2; exact Or.inr ⟨j, oj, h1, h2⟩
  have get : ∀ {j o}, j ≠ d → updO (delO st.σ id) d (.arr sz es) j = some o → j ≠ id ∧ st.σ j = some o := by
    intro j o hj h
    simp only [updO, if_neg hj, delO] at h
    split at h
    · cases h
    · rename_i h'; exact ⟨h', h⟩
  refine ⟨hs.xlt, hs.dfr, hs.bel, hs.len, fun i => ((hs.slots i).mono (fun k _ h => hM k h) (Fwd.refl _ _)).ren (slot_noRef hno i) (fun k hk => upm_ne hk), fun j o hj => ?_, fun i j oi oj hi hj hij => ?_, fun j l hj => ?_⟩
  · by_cases hjd : j = d
    · subst hjd
      simp only [updO, if_true] at hj; cases hj
      obtain ⟨h1, cs, E, hh, hr⟩ := hs.objs id _ hid
      refine ⟨by simpa [upm] using h1, cs, E, by simpa [upm] using hh, ?_⟩
      exact (hr.mono (fun k _ h => hM k h) (Fwd.refl _ _)).ren (id := j) rfl (fun k hk => upm_ne hk)
    · obtain ⟨_, hj'⟩ := get hjd hj
      obtain ⟨h1, cs, E, hh, hr⟩ := hs.objs j o hj'
      rw [upm_ne hjd]
      exact ⟨h1, cs, E, hh, (hr.mono (fun k _ h => hM k h) (Fwd.refl _ _)).ren (obj_noRef hs hno hj') (fun k hk => upm_ne hk)⟩
  · by_cases hid' : i = d
    · by_cases hjd : j = d
      · rw [hid', hjd]
      · obtain ⟨h1, h2⟩ := get hjd hj
        rw [upm_ne hjd] at hij
        subst hid'
        simp [upm] at hij
        exact absurd (hs.inj j id _ _ h2 hid hij.symm) h1
    · obtain ⟨h1, h2⟩ := get hid' hi
      by_cases hjd : j = d
      · rw [upm_ne hid'] at hij
        subst hjd
        simp [upm] at hij
        exact absurd (hs.inj i id _ _ h2 hid hij) h1
      · obtain ⟨h3, h4⟩ := get hjd hj
        rw [upm_ne hid', upm_ne hjd] at hij
        exact hs.inj i j _ _ h2 h4 hij
  · by_cases hjd : j = d
    · subst hjd
      simp only [updO, if_true] at hj; cases hj
    · exact hs.rbs j l (get hjd hj).2

end
end Go.Proofs.YtipenembpidoiaaGreatDoor

/- Append, and one operation of the abstract state against the model's. No condition. -/
namespace Go.Proofs.YtipenembpidoiaaGreatDoor
open Go.RowKit

section
variable {P : Program} {T : Tab} {w w' w0 : World} {X : Nat → Prop} {μ : Nat → Nat} {a : Act} {st : St}

theorem at2_lt {es : List (List DC)} {i j : Nat} {d : DC} (h : at2 es i j = some d) : i < es.length := by
  unfold at2 at h
  rcases Nat.lt_or_ge i es.length with h' | h'
  · exact h'
  · rw [List.getElem?_eq_none h'] at h; cases h

/-- The cells of the elements of a slice that is appended. -/
theorem elems_run (hs : Sim w0 X μ a w st) {vx : Value} {x : SV} {new : List (List DC)} {sz : Nat} (hx : RelV w (Mut X μ st.σ) μ vx x) (he : elemsOf st x = some new)
    (hl : ∀ e ∈ new, e.length = sz) : (Builtin.lenOf vx).run P w = .ok new.length w ∧ ∃ cells : Array Value, (Builtin.firstCells sz new.length vx).run P w = .ok cells w ∧ cells.size = new.length * sz ∧
      ∀ (i j : Nat) (d : DC), at2 new i j = some d → ∃ v, cells[i * sz + j]? = some v ∧ RdC w (Mut X μ st.σ) v d := by
  have main : ∀ (b off0 cap : Nat) (cs : Array Value) (E : TypeId) (fr : Nat × Nat), w.heap[b]? = some (.cells cs E fr) →
      (∀ (i j : Nat) (d : DC), at2 new i j = some d → ∃ v, cs[off0 + i * sz + j]? = some v ∧ RdC w (Mut X μ st.σ) v d) →
      (new.length * sz ≠ 0 → off0 + new.length * sz ≤ cs.size) →
      ∃ cells : Array Value, (Builtin.firstCells sz new.length (.slice (some ⟨b, off0, none⟩) new.length cap)).run P w = .ok cells w ∧ cells.size = new.length * sz ∧
        ∀ (i j : Nat) (d : DC), at2 new i j = some d → ∃ v, cells[i * sz + j]? = some v ∧ RdC w (Mut X μ st.σ) v d := by
    intro b off0 cap cs E fr hh hg hle
    by_cases h0 : new.length * sz = 0
    · refine ⟨#[], ?_, by simp [h0], fun i j d hd => ?_⟩
      · simp only [Builtin.firstCells, h0, loadCells, loadCellsFrom, Sem.run_pure]
      · exfalso
        have hi := at2_lt hd
        have hsz : sz = 0 := by
          rcases Nat.mul_eq_zero.1 h0 with h | h
          · omega
          · exact h
        unfold at2 at hd
        rw [List.getElem?_eq_getElem hi] at hd
        have := hl _ (List.getElem_mem hi)
        have hj := (List.getElem?_eq_some_iff.1 (show (new[i])[j]? = some d from hd)).1
        omega
    · refine ⟨_, run_loadCells hh off0 (new.length * sz) (hle h0), by simp; have := hle h0; omega, fun i j d hd => ?_⟩
      obtain ⟨v, h1, h2⟩ := hg i j d hd
      refine ⟨v, ?_, h2⟩
      have hi := at2_lt hd
      have hj : j < sz := by
        unfold at2 at hd
        rw [List.getElem?_eq_getElem hi] at hd
        have := hl _ (List.getElem_mem hi)
        have hj := (List.getElem?_eq_some_iff.1 (show (new[i])[j]? = some d from hd)).1
        omega
      have hmul : i * sz + sz ≤ new.length * sz := by rw [← Nat.succ_mul]; exact Nat.mul_le_mul_right _ hi
      have := hle h0
      rw [Array.getElem?_extract, if_pos (by omega), ← h1]
      congr 1; omega
  unfold elemsOf at he
  split at he
  · cases he
    cases hx with
    | nil => exact ⟨rfl, by
        rename_i a c
        cases a with
        | none => exact ⟨#[], rfl, by simp, fun i j d hd => by simp [at2] at hd⟩
        | some a => exact ⟨#[], by simp [Builtin.firstCells, loadCells, loadCellsFrom], by simp, fun i j d hd => by simp [at2] at hd⟩⟩
    | sl vs hh hX hlen hcap hsz hv hr =>
      rename_i b off len cap sz' cs E fr
      subst hlen
      refine ⟨rfl, ?_⟩
      have hszz : ∀ i j d, at2 new i j = some d → sz' = sz := by
        intro i j d hd
        have hi := at2_lt hd
        rw [← hsz i _ (List.getElem?_eq_getElem hi), hl _ (List.getElem_mem hi)]
      refine main b off cap cs E fr hh (fun i j d hd => ⟨vs i j, by rw [← hv i j d hd, hszz i j d hd], hr i j d hd⟩) (fun h0 => ?_)
      have hn : 0 < new.length := by rcases Nat.eq_zero_or_pos new.length with h | h; (rw [h] at h0; simp at h0); exact h
      have hs0 : 0 < sz := by rcases Nat.eq_zero_or_pos sz with h | h; (rw [h] at h0; simp at h0); exact h
      have hi : new.length - 1 < new.length := by omega
      have hll := hl _ (List.getElem_mem hi)
      have hat : at2 new (new.length - 1) (sz - 1) = some ((new[new.length - 1])[sz - 1]'(by omega)) := by
        unfold at2; rw [List.getElem?_eq_getElem hi]; simp
      have h1 := hv _ _ _ hat
      rw [hszz _ _ _ hat] at h1
      have := (Array.getElem?_eq_some_iff.1 h1).1
      have e1 : (new.length - 1) * sz + sz = new.length * sz := by rw [← Nat.succ_mul]; congr 1; omega
      omega
  · cases he
    cases hx
    exact ⟨rfl, #[], rfl, by simp, fun i j d hd => by simp [at2] at hd⟩
  · rename_i id szx off len
    split at he
    · rename_i sz' es hes
      split at he
      · rename_i hc
        cases he
        obtain ⟨cap, cs, E, fr, rfl, hle, hh, hcap⟩ := hx
        obtain ⟨_, cs', E', hh', hle', hlen', hrel⟩ := hs.objs _ _ hes
        have hlen : ((es.drop off).take len).length = len := by simp; omega
        rw [hlen]
        refine ⟨rfl, ?_⟩
        have hszx : ∀ i, i < len → szx = sz := by
          intro i hi
          have hio : off + i < es.length := by omega
          have h1 := hlen' _ _ (List.getElem?_eq_getElem hio)
          have h2 := hl es[off + i] (by
            refine List.mem_of_getElem? (i := i) ?_
            rw [List.getElem?_take, if_pos hi, List.getElem?_drop, List.getElem?_eq_getElem hio])
          omega
        have := main (μ id) (off * szx) cap cs' E' (0, 0) hh' (fun i j d hd => ?_) (fun h0 => ?_)
        · rw [hlen] at this; exact this
        · have hi := at2_lt hd
          rw [hlen] at hi
          have hat : at2 es (off + i) j = some d := by
            unfold at2 at hd ⊢
            rw [List.getElem?_take, if_pos hi, List.getElem?_drop] at hd
            exact hd
          obtain ⟨v, h1, h2⟩ := hrel _ _ _ hat
          refine ⟨v, ?_, h2⟩
          rw [← h1, hc.1, hszx i hi, Nat.add_mul]
        · rw [hlen] at h0 ⊢
          have hn : 0 < len := by rcases Nat.eq_zero_or_pos len with h | h; (rw [h] at h0; simp at h0); exact h
          have e := hszx 0 hn
          have h3 : (off + len) * sz' ≤ es.length * sz' := Nat.mul_le_mul_right _ hc.2
          rw [Nat.add_mul, hc.1, e] at h3
          rw [e]
          rw [hc.1, e] at hle'
          omega
      · cases he
    · cases he
  · cases he

theorem growBy_le (n : Nat) : ∀ (r c : Nat), 256 ≤ c → c < n → Builtin.growBy n r c ≤ 2 * n
  | 0, c, _, h => by simp [Builtin.growBy]; omega
  | r + 1, c, h1, h2 => by
    simp only [Builtin.growBy]
    split
    · omega
    · by_cases h3 : c + (c + 768) / 4 < n
      · exact growBy_le n r _ (by omega) h3
      · have : ∀ r c, n ≤ c → Builtin.growBy n r c = c := by
          intro r c hc
          cases r with
          | zero => rfl
          | succ r => simp [Builtin.growBy, hc]
        rw [this _ _ (by omega)]
        omega

theorem nextcap_le {n c : Nat} (h : c < n) : Builtin.nextslicecap n c ≤ 2 * n := by
  unfold Builtin.nextslicecap
  split
  · omega
  · split
    · omega
    · exact growBy_le n 4 c (by omega) h

theorem zeroCells_size (z : Array Value) (n : Nat) : (Builtin.zeroCells z n).size = n * z.size := by simp [Builtin.zeroCells]

/-- What append comes to when it does not fit: a new row. -/
theorem relO_append {sz : Nat} {es new : List (List DC)} {old cells rest : Array Value} (hold : old.size = es.length * sz) (hcells : cells.size = new.length * sz)
    (hes : ∀ e ∈ es, e.length = sz) (hnew : ∀ e ∈ new, e.length = sz)
    (h1 : ∀ (i j : Nat) (d : DC), at2 es i j = some d → ∃ v, old[i * sz + j]? = some v ∧ RdC w X v d)
    (h2 : ∀ (i j : Nat) (d : DC), at2 new i j = some d → ∃ v, cells[i * sz + j]? = some v ∧ RdC w X v d) :
    RelO w X μ (old ++ cells ++ rest) (.arr sz (es ++ new)) := by
  refine ⟨by simp only [Array.size_append, List.length_append, Nat.add_mul]; omega, fun i e he => ?_, fun i j d hd => ?_⟩
  · rcases List.mem_append.1 (List.mem_of_getElem? he) with h | h
    · exact hes e h
    · exact hnew e h
  · have hjlt : j < sz := by
      unfold at2 at hd
      cases he : (es ++ new)[i]? with
      | none => rw [he] at hd; cases hd
      | some e =>
        rw [he] at hd
        have hj := (List.getElem?_eq_some_iff.1 (show e[j]? = some d from hd)).1
        rcases List.mem_append.1 (List.mem_of_getElem? he) with h | h
        · rw [hes e h] at hj; exact hj
        · rw [hnew e h] at hj; exact hj
    by_cases hi : i < es.length
    · have hat : at2 es i j = some d := by unfold at2 at hd ⊢; rwa [List.getElem?_append_left hi] at hd
      obtain ⟨v, hv, hr⟩ := h1 i j d hat
      have hlt := (Array.getElem?_eq_some_iff.1 hv).1
      exact ⟨v, by rw [Array.append_assoc, Array.getElem?_append_left hlt]; exact hv, hr⟩
    · have hat : at2 new (i - es.length) j = some d := by unfold at2 at hd ⊢; rwa [List.getElem?_append_right (by omega)] at hd
      obtain ⟨v, hv, hr⟩ := h2 _ j d hat
      have hlt := (Array.getElem?_eq_some_iff.1 hv).1
      have e : i * sz = es.length * sz + (i - es.length) * sz := by rw [← Nat.add_mul]; congr 1; omega
      refine ⟨v, ?_, hr⟩
      rw [Array.append_assoc, Array.getElem?_append_right (by omega), Array.getElem?_append_left (by omega), ← hv]
      congr 1; omega

theorem Sim.drew (hs : Sim w0 X μ a w st) : Sim w0 X μ a w.drew st := hs.below ((Below.refl _ _).drew)

theorem noRef_upd {d : Nat} (hno : st.noRef d = true) (id : Nat) (o : OO) (ho : o.noRef d = true) : ({ st with σ := updO st.σ id o } : St).noRef d = true := by
  simp only [St.noRef, Bool.and_eq_true] at hno ⊢
  refine ⟨hno.1, List.all_eq_true.2 fun k hk => ?_⟩
  have := List.all_eq_true.1 hno.2 k hk
  simp only [updO]
  by_cases hki : k = id
  · simp [hki, ho]
  · simpa [hki] using this

theorem noRef_del {d : Nat} (hno : st.noRef d = true) (id : Nat) : ({ st with σ := delO st.σ id } : St).noRef d = true := by
  simp only [St.noRef, Bool.and_eq_true] at hno ⊢
  refine ⟨hno.1, List.all_eq_true.2 fun k hk => ?_⟩
  have := List.all_eq_true.1 hno.2 k hk
  simp only [delO]
  by_cases hki : k = id
  · simp [hki]
  · simpa [hki] using this

theorem effAppend_sound (hT : TOK P T) (hs : Sim w0 X μ a w st) {t t2 tt : TypeId} {vs vx : Value} {s x : SV} {id : Option Nat} {sz : Nat} {es : List (List DC)} {d : Nat}
    (hvs : RelV w (Mut X μ st.σ) μ vs s) (hvx : RelV w (Mut X μ st.σ) μ vx x) (h : effAppend T st t t2 s x = .app id sz es) (hno : st.noRef d = true) (hsn : s.noRef d = true) :
    ∃ u w' μ', (Builtin.append_ #[t, t2] tt #[vs, vx]).run P w = .ok u w' ∧ Sim w0 X μ' (a.put (some d) u) w' (st.app d id (.arr sz es) (.val (.one (.own d sz 0 es.length)))) := by
  unfold effAppend at h
  split at h
  · rename_i ti ti2 hti hti2
    split at h
    · rename_i e e2 he he2
      split at h
      · rename_i ei new hei hnew
        split at h
        · rename_i hcond
          obtain ⟨hsz0, hby, hall⟩ := hcond
          have hnl : ∀ el ∈ new, el.length = ei.size := fun el hel => by have := List.all_eq_true.1 hall el hel; simpa using this
          have hu := (hT.ty _ _ hti).run_slice w he
          have hu2 := (hT.ty _ _ hti2).run_slice w he2
          have ht := hT.ty _ _ hei
          have hsize := ht.run_sizeOf w
          obtain ⟨inf, hinf, hinfb, _⟩ := ht.run_bytes w
          obtain ⟨hlenx, cells, hcells, hcsz, hcrel⟩ := elems_run (P := P) hs hvx hnew hnl
          have hsD := hs.drew
          have hcellsD := (elems_run (P := P) hsD (w := w.drew) (hvx.mono (fun _ _ h => h) (Fwd.of_below ((Below.refl _ _).drew))) hnew hnl).2
          -- it does not fit: a new row
          have grow : ∀ (base : Option Addr) (sLen sCap : Nat) (old : Array Value), vs = .slice base sLen sCap → sLen + new.length ≤ 2 ^ 36 → ¬ sLen + new.length ≤ sCap →
              (Builtin.firstCells ei.size sLen vs).run P w.drew = .ok old w.drew →
              ∃ (cells : Array Value) (rest : Array Value) (newCap : Nat), sLen + new.length ≤ newCap ∧ rest.size = (newCap - (sLen + new.length)) * ei.size ∧ cells.size = new.length * ei.size ∧
                (∀ (i j : Nat) (d : DC), at2 new i j = some d → ∃ v, cells[i * ei.size + j]? = some v ∧ RdC w.drew (Mut X μ st.σ) v d) ∧
                (Builtin.append_ #[t, t2] tt #[vs, vx]).run P w = .ok (.slice (some ⟨w.drew.heap.size, 0, none⟩) (sLen + new.length) newCap) (w.drew.alloc (.cells (old ++ cells ++ rest) e)) := by
            intro base sLen sCap old hv hb hcap hold
            obtain ⟨cells, hc1, hc2, hc3⟩ := hcellsD
            have hinfD : (typeInfo e).run P w.drew = .ok inf w.drew := by
              obtain ⟨i, hi, _⟩ := ht.run_bytes w.drew
              have h1 := hinf
              simp only [typeInfo, Sem.run_bind, run_program, Result.andThen_ok] at h1 hi ⊢
              cases hp : P.info? e with
              | none => rw [hp] at h1; simp at h1
              | some i' => rw [hp] at h1; simp at h1; rw [h1]; rfl
            have hmax : IntKind.i64.max = 9223372036854775807 := by decide
            have hnc := nextcap_le (n := sLen + new.length) (c := sCap) (by omega)
            have hmul : Builtin.nextslicecap (sLen + new.length) sCap * inf.bytes ≤ 2 ^ 37 * 256 := by
              rw [hinfb]; exact Nat.mul_le_mul (by omega) hby
            refine ⟨cells, Builtin.zeroCells (mkV ei.agg (ei.zero.map zcell)).cells ((Question.appendCap (sLen + new.length) sCap e).cut (w.tape w.drawn (.appendCap (sLen + new.length) sCap e)) - (sLen + new.length)),
              (Question.appendCap (sLen + new.length) sCap e).cut (w.tape w.drawn (.appendCap (sLen + new.length) sCap e)), by simp [Question.cut], ?_, hc2, hc3, ?_⟩
            · rw [zeroCells_size]
              have := congrArg List.length (mkV_cells ht)
              simp [ht.zsz] at this
              rw [this]
            · subst hv
              unfold Builtin.append_
              simp only [List.getElem?_toArray, List.getElem?_cons_zero, List.getElem?_cons_succ, Sem.run_bind, hu, hu2, hsize, Result.andThen_ok, Sem.run_pure]
              rw [if_neg (by simp)]
              simp only [Sem.run_bind, hlenx, Result.andThen_ok]
              rw [if_neg hcap]
              simp only [Sem.run_bind, hinf, Result.andThen_ok]
              rw [if_neg (by rw [hmax]; omega)]
              simp only [Sem.run_bind, hinf, Result.andThen_ok]
              rw [if_neg (by omega)]
              have hforced : (Question.appendCap (sLen + new.length) sCap e).forced = false := rfl
              simp only [Sem.run_bind, run_choose, hforced, Bool.false_eq_true, if_false, Result.andThen_ok]
              change Result.andThen (Sem.run P _ w.drew) _ = _
              simp only [hinfD, Result.andThen_ok, run_askRoom, hold]
              rw [if_pos (by simp)]
              simp only [hc1, Result.andThen_ok, ht.run_zero, newRow, Sem.run_bind, run_newObj, Sem.run_pure]
              rfl
          -- it fits: the row is written
          have fits : ∀ (b o sLen sCap : Nat) (w1 : World), vs = .slice (some ⟨b, o, none⟩) sLen sCap → sLen + new.length ≤ sCap →
              (storeCells ⟨b, o + sLen * ei.size, none⟩ cells.toList).run P w = .ok () w1 →
              (Builtin.append_ #[t, t2] tt #[vs, vx]).run P w = .ok (.slice (some ⟨b, o, none⟩) (sLen + new.length) sCap) w1 := by
            intro b o sLen sCap w1 hv hcap hst
            subst hv
            unfold Builtin.append_
            simp only [List.getElem?_toArray, List.getElem?_cons_zero, List.getElem?_cons_succ, Sem.run_bind, hu, hu2, hsize, Result.andThen_ok, Sem.run_pure]
            rw [if_neg (by simp)]
            simp only [Sem.run_bind, hlenx, Result.andThen_ok]
            rw [if_pos hcap]
            simp only [Sem.run_bind]
            rw [if_pos (by simp)]
            simp only [hcells, Result.andThen_ok, addr_add, hst, Sem.run_pure]
          have hel : ∀ (l : List (List DC)), (∀ e ∈ l, e.length = ei.size) → ∀ e ∈ l, e.length = ei.size := fun _ h => h
          split at h
          · -- a nil slice
            split at h
            · rename_i hn
              injection h with h1 h2 h3
              subst h1; subst h2; subst h3
              have hv : vs = .slice none 0 0 := hvs
              obtain ⟨cells', rest, newCap, h1, h2, h3, h4, h5⟩ := grow none 0 0 #[] hv (by omega) (by omega) (by rw [hv]; rfl)
              have hrel := relO_append (w := w.drew) (X := Mut X μ st.σ) (μ := μ) (sz := ei.size) (es := []) (new := new) (old := #[]) (rest := rest) (by simp) h3 (by simp) hnl
                (fun i j d hd => by simp [at2] at hd) h4
              refine ⟨_, _, upm μ d w.drew.heap.size, h5, ?_⟩
              have := hsD.alloc (d := d) (u := .slice (some ⟨w.drew.heap.size, 0, none⟩) (0 + new.length) newCap) (v := .val (.one (.own d ei.size 0 new.length))) (E := e) hno hrel rfl
                ⟨newCap, _, e, (0, 0), by simp [upm], by omega, by rw [show upm μ d w.drew.heap.size d = w.drew.heap.size by simp [upm]]; exact alloc_heap _ _, by
                  simp only [Array.empty_append, Array.size_append, h2, h3, Nat.zero_add]
                  rw [← Nat.add_mul]; exact Nat.mul_le_mul_right _ (by omega)⟩
              have e1 : (fun k => if some k = (none : Option Nat) then none else st.σ k) = st.σ := by funext k; simp
              simpa [St.new, St.app, OO.noOwn, e1] using this
            · cases h
          · rename_i id' sz' len
            split at h
            · rename_i sz'' es' hes'
              split at h
              · rename_i hc
                obtain ⟨hc1, hc2, hc3, hc4⟩ := hc
                injection h with h1 h2 h3
                subst h1; subst h3; subst hc2; subst hc3; subst h2; subst hc1
                have hcl : cells.toList.length = cells.size := Array.length_toList
                have hne : d ≠ id' := by
                  intro e; subst e
                  simp [SV.noRef, VV.noRef, SC.noRef] at hsn
                obtain ⟨cap, cs, E, fr, hv, hle, hh, hcapsz⟩ := hvs
                obtain ⟨hB, cs0, E0, hh0, hl0, hlen0, hrel0⟩ := hs.objs _ _ hes'
                rw [hh] at hh0; cases hh0
                simp only [Nat.zero_mul, Nat.zero_add] at hv hcapsz
                by_cases hcap : es'.length + new.length ≤ cap
                · -- in place
                  have hmul : (es'.length + new.length) * ei.size ≤ cap * ei.size := Nat.mul_le_mul_right _ hcap
                  rw [Nat.add_mul] at hmul
                  have hone : ∀ v ∈ cells.toList, v.oneCell' = true := by
                    intro v hvm
                    obtain ⟨k, hk⟩ := List.mem_iff_getElem?.1 hvm
                    have hklt : k < cells.size := by have := (List.getElem?_eq_some_iff.1 hk).1; simpa using this
                    have hs0 : 0 < ei.size := by omega
                    have hi : k / ei.size < new.length := by rw [Nat.div_lt_iff_lt_mul hs0]; omega
                    have hj : k % ei.size < ei.size := Nat.mod_lt _ hs0
                    have hll := hnl _ (List.getElem_mem hi)
                    have hat : at2 new (k / ei.size) (k % ei.size) = some ((new[k / ei.size])[k % ei.size]'(by omega)) := by
                      unfold at2; rw [List.getElem?_eq_getElem hi]; simp
                    obtain ⟨v', h1, h2⟩ := hcrel _ _ _ hat
                    rw [Nat.div_add_mod' k ei.size] at h1
                    rw [Array.getElem?_toList, h1] at hk; cases hk
                    exact h2.oneCell
                  have hst := run_storeCells (P := P) cells.toList hh (0 + es'.length * ei.size) 0 (by omega) hone
                  simp only [Nat.zero_add, Nat.add_zero] at hst
                  have hrun := fits _ 0 _ _ _ hv hcap (by simpa using hst)
                  have hrelA : RelO w (Mut X μ st.σ) μ (spl cs (es'.length * ei.size) cells.toList) (.arr ei.size (es' ++ new)) := by
                    refine ⟨by rw [spl_size, List.length_append, Nat.add_mul]; omega, fun i el hel => ?_, fun i j dd hd => ?_⟩
                    · rcases List.mem_append.1 (List.mem_of_getElem? hel) with hm | hm
                      · obtain ⟨k, hk⟩ := List.mem_iff_getElem?.1 hm; exact hlen0 _ _ hk
                      · exact hnl _ hm
                    · rw [spl_get _ _ _ _ (by omega), hcl]
                      by_cases hi : i < es'.length
                      · have hat : at2 es' i j = some dd := by unfold at2 at hd ⊢; rwa [List.getElem?_append_left hi] at hd
                        obtain ⟨v, h1, h2⟩ := hrel0 _ _ _ hat
                        have hj : j < ei.size := by
                          unfold at2 at hat
                          rw [List.getElem?_eq_getElem hi] at hat
                          have := (List.getElem?_eq_some_iff.1 (show (es'[i])[j]? = some dd from hat)).1
                          rw [hlen0 _ _ (List.getElem?_eq_getElem hi)] at this; exact this
                        have hm : i * ei.size + ei.size ≤ es'.length * ei.size := by rw [← Nat.succ_mul]; exact Nat.mul_le_mul_right _ hi
                        exact ⟨v, by rw [if_neg (by omega)]; exact h1, h2⟩
                      · have hat : at2 new (i - es'.length) j = some dd := by unfold at2 at hd ⊢; rwa [List.getElem?_append_right (by omega)] at hd
                        obtain ⟨v, h1, h2⟩ := hcrel _ _ _ hat
                        have hlt := (Array.getElem?_eq_some_iff.1 h1).1
                        have e1 : i * ei.size = es'.length * ei.size + (i - es'.length) * ei.size := by rw [← Nat.add_mul]; congr 1; omega
                        refine ⟨v, ?_, h2⟩
                        rw [if_pos (by omega), Array.getElem?_toList, ← h1]
                        congr 1; omega
                  have s1 := hs.upd (o' := .arr ei.size (es' ++ new)) hes' hh (spl_size _ _ _) hrelA (rb' := st.rb) (fun k hk => hk) (fun l hl => by cases hl)
                  have s2 := s1.move (id := id') (d := d) (sz := ei.size) (es := es' ++ new) (by simp [updO]) (noRef_upd hno id' _ rfl) hne
                  have s3 := s2.put (dst := some d) (u := .slice (some ⟨μ id', 0, none⟩) (es'.length + new.length) cap) (v := .val (.one (.own d ei.size 0 (es' ++ new).length))) ⟨cap, _, E, (0, 0),
                    by simp [upm], by rw [List.length_append]; exact hcap, by rw [show upm μ d (μ id') d = μ id' by simp [upm]]; exact setRow_heap hh _, by rw [spl_size]; simpa using hcapsz⟩
                  refine ⟨_, _, upm μ d (μ id'), hrun, ?_⟩
                  have e1 : delO (updO st.σ id' (.arr ei.size (es' ++ new))) id' = (fun k => if some k = some id' then none else st.σ k) := by
                    funext k
                    simp only [delO, updO, Option.some.injEq]
                    split <;> simp_all
                  simp only [e1] at s3
                  exact s3
                · -- a new row
                  have hhD : w.drew.heap[μ id']? = some (.cells cs E (0, 0)) := hh
                  have hold := run_loadCells (P := P) hhD 0 (es'.length * ei.size) (by omega)
                  obtain ⟨cells', rest, newCap, h1, h2, h3, h4, h5⟩ := grow _ _ _ _ hv (by omega) hcap (by rw [hv]; exact hold)
                  have sd := (hsD.del id')
                  have hM : ∀ k, k < w.drew.heap.size → Mut X μ (delO st.σ id') k → Mut X μ st.σ k := by
                    intro k _ hm
                    rcases hm with hm | ⟨j, oj, g1, g2⟩
                    · exact Or.inl hm
                    · simp only [delO] at g1
                      split at g1
                      · cases g1
                      · exact Or.inr ⟨j, oj, g1, g2⟩
                  have hrel := relO_append (w := w.drew) (X := Mut X μ (delO st.σ id')) (μ := μ) (sz := ei.size) (es := es') (new := new) (old := cs.extract 0 (0 + es'.length * ei.size)) (rest := rest)
                    (by simp; omega) h3 (fun e he => by obtain ⟨k, hk⟩ := List.mem_iff_getElem?.1 he; exact hlen0 _ _ hk) hnl
                    (fun i j dd hd => by
                      obtain ⟨v, g1, g2⟩ := hrel0 i j dd hd
                      refine ⟨v, ?_, RdC.mono (w := w) (w' := w.drew) hM (fun _ _ _ => rfl) g2⟩
                      have hi := at2_lt hd
                      have hj : j < ei.size := by
                        unfold at2 at hd
                        rw [List.getElem?_eq_getElem hi] at hd
                        have := (List.getElem?_eq_some_iff.1 (show (es'[i])[j]? = some dd from hd)).1
                        rw [hlen0 _ _ (List.getElem?_eq_getElem hi)] at this; exact this
                      have hm : i * ei.size + ei.size ≤ es'.length * ei.size := by rw [← Nat.succ_mul]; exact Nat.mul_le_mul_right _ hi
                      rw [Array.getElem?_extract, if_pos (by omega), ← g1]
                      congr 1; omega)
                    (fun i j dd hd => by obtain ⟨v, g1, g2⟩ := h4 i j dd hd; exact ⟨v, g1, RdC.mono hM (fun _ _ _ => rfl) g2⟩)
                  refine ⟨_, _, upm μ d w.drew.heap.size, h5, ?_⟩
                  have := sd.alloc (d := d) (u := .slice (some ⟨w.drew.heap.size, 0, none⟩) (es'.length + new.length) newCap) (v := .val (.one (.own d ei.size 0 (es' ++ new).length))) (E := e) (noRef_del hno id') hrel rfl
                    ⟨newCap, _, e, (0, 0), by simp [upm], by rw [List.length_append]; omega, by rw [show upm μ d w.drew.heap.size d = w.drew.heap.size by simp [upm]]; exact alloc_heap _ _, by
                      simp only [Array.size_append, h2, h3, Nat.zero_add, Array.size_extract]
                      have e2 : min (es'.length * ei.size) cs.size - 0 = es'.length * ei.size := by omega
                      rw [e2, ← Nat.add_mul, ← Nat.add_mul]; exact Nat.mul_le_mul_right _ (by omega)⟩
                  have e1 : (fun k => if some k = some id' then none else st.σ k) = delO st.σ id' := by
                    funext k; simp [delO]
                  have e2 : st.app d (some id') (.arr ei.size (es' ++ new)) (.val (.one (.own d ei.size 0 (es' ++ new).length))) = St.new { st with σ := delO st.σ id' } d (.arr ei.size (es' ++ new)) (.val (.one (.own d ei.size 0 (es' ++ new).length))) := by
                    simp only [St.new, St.app, OO.noOwn, e1, if_true]
                  rw [e2]
                  exact this
              · cases h
            · cases h
          · cases h
        · cases h
      · cases h
    · cases h
  · cases h

end
end Go.Proofs.YtipenembpidoiaaGreatDoor
