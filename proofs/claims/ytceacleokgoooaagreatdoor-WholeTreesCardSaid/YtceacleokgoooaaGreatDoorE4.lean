/- Part of a proof that a Go function answers true for every input. No condition. -/
import Derived.Test.YtceacleokgoooaaGreatDoorE3
import Derived.Laws.StructEq
import Derived.Laws.Strings2
import Derived.Shelf.Slices.Cells
import Derived.Shelf.Strings.OnBuilder
import Derived.Test.YtceacleokgoooaaGreatDoorProg
import Derived.Shelf.Strconv.Itoa1
import Derived.Shelf.Strconv.Itoa2
set_option linter.unusedVariables false
set_option linter.unusedSimpArgs false
set_option linter.unusedSectionVars false
/- Determinants: rows and columns. No condition. -/
namespace Go.Proofs.YtceacleokgoooaaGreatDoor

theorem Ia {n : Nat} {A : Nat -> Nat -> Rat} (r : Nat) (hr : r + 1 < n) (h : ∀ c, c < n -> A r c = A (r + 1) c) : dt n A = 0 := by
 have h1 := lg (A := A) r hr
 have h2 : dt n (fun i c => A (nb r i) c) = dt n A := aJ fun i c _ hc => by
  unfold nb
  by_cases h0 : i = r
  ·rw [if_pos h0, h0]; exact (h c hc).symm
  ·rw [if_neg h0]
   by_cases h0' : i = r + 1
   ·rw [if_pos h0', h0']; exact h c hc
   ·rw [if_neg h0']
 rw [h2] at h1; grind
theorem uU {n : Nat} : ∀ (d : Nat) {A : Nat -> Nat -> Rat} (r : Nat), r + d + 1 < n -> (∀ c, c < n -> A r c = A (r + d + 1) c) -> dt n A = 0
 | 0, A, r, hr, h => Ia r (by omega) h
 | d + 1, A, r, hr, h => by
  have h1 := lg (A := A) (r + d + 1) (by omega)
  have h2 : dt n (fun i c => A (nb (r + d + 1) i) c) = 0 := uU d r (by omega) fun c hc => by
   have e1 : nb (r + d + 1) r = r := by unfold nb; (repeat' split) <;> omega
   have e2 : nb (r + d + 1) (r + d + 1) = r + (d + 1) + 1 := by unfold nb; (repeat' split) <;> omega
   rw [e1, e2]; exact h c hc
  rw [h2] at h1; grind
theorem FH {n : Nat} {A : Nat -> Nat -> Rat} {r s : Nat} (hr : r < n) (hs : s < n) (hne : r ≠ s) (h : ∀ c, c < n -> A r c = A s c) : dt n A = 0 := by
 rcases Nat.lt_or_gt_of_ne hne with hlt | hlt
 ·exact uU (s - r - 1) r (by omega) (fun c hc => by rw [h c hc]; congr 1; omega)
 ·exact uU (r - s - 1) s (by omega) (fun c hc => by rw [<- h c hc]; congr 1; omega)
theorem lX {n : Nat} {A B : Nat -> Nat -> Rat} {r s : Nat} (x : Rat) (hr : r < n) (hs : s < n) (hne : r ≠ s) (h1 : ∀ c, c < n -> B r c = A r c + x * A s c) (h2 : ∀ i c, i < n -> c < n -> i ≠ r -> B i c = A i c) : dt n B = dt n A := by
 have := rF (A := B) (B := A) (C := fun i c => if i = r then A s c else A i c) r 1 x hr (fun c hc => by simp only [if_true]; rw [h1 c hc]; grind) (fun i c hi hc hir => ⟨h2 i c hi hc hir, by rw [if_neg hir]; exact h2 i c hi hc hir⟩)
 rw [this, FH (A := fun i c => if i = r then A s c else A i c) hr hs hne (fun c _ => by simp only [if_true]; rw [if_neg (Ne.symm hne)])]
 grind
theorem w7 {n : Nat} {A : Nat -> Nat -> Rat} {r : Nat} (hr : r < n) (h : ∀ c, c < n -> A r c = 0) : dt n A = 0 := by
 have := rF (A := A) (B := A) (C := A) r 0 0 hr (fun c hc => by rw [h c hc]; grind) (fun i c _ _ _ => ⟨rfl, rfl⟩)
 rw [this]; grind
theorem FI {n : Nat} {A B : Nat -> Nat -> Rat} {r : Nat} (x : Rat) (hr : r < n) (h1 : ∀ c, c < n -> B r c = x * A r c) (h2 : ∀ i c, i < n -> c < n -> i ≠ r -> B i c = A i c) : dt n B = x * dt n A := by
 have := rF (A := B) (B := A) (C := A) r x 0 hr (fun c hc => by rw [h1 c hc]; grind) (fun i c hi hc hir => ⟨h2 i c hi hc hir, h2 i c hi hc hir⟩)
 rw [this]; grind
theorem oJ : ∀ {n : Nat} {A B C : Nat -> Nat -> Rat} (k : Nat) (x y : Rat), k < n -> (∀ i, i < n -> A i k = x * B i k + y * C i k) -> (∀ i c, i < n -> c < n -> c ≠ k -> A i c = B i c /\ A i c = C i c) -> dt n A = x * dt n B + y * dt n C
 | 0, _, _, _, k, _, _, h, _, _ => by omega
 | n + 1, A, B, C, k, x, y, hk, h1, h2 => by
  simp only [dt];rw [<- kO];refine ar fun i hi => ?_
  rcases k with _ | k
  ·have e1 : dt n (fun r c => A (sk i r) (c + 1)) = dt n (fun r c => B (sk i r) (c + 1)) := aJ fun a b ha hb => (h2 (sk i a) (b + 1) (m8 ha) (by omega) (by omega)).1
   have e2 : dt n (fun r c => A (sk i r) (c + 1)) = dt n (fun r c => C (sk i r) (c + 1)) := aJ fun a b ha hb => (h2 (sk i a) (b + 1) (m8 ha) (by omega) (by omega)).2
   rw [<- e2, <- e1, h1 i hi]; grind
  ·have ih := oJ (n := n) (A := fun r c => A (sk i r) (c + 1)) (B := fun r c => B (sk i r) (c + 1)) (C := fun r c => C (sk i r) (c + 1)) k x y (by omega)
    (fun a ha => h1 (sk i a) (m8 ha)) (fun a c ha hc hne => h2 (sk i a) (c + 1) (m8 ha) (by omega) (by omega))
   have e3 := h2 i 0 hi (by omega) (by omega)
   rw [ih, e3.1]
   have : B i 0 = C i 0 := e3.1.symm.trans e3.2
   rw [<- this]; grind
def s2 (i l : Nat) : Rat := if l < i then sgD i * sgD l else - (sgD i * sgD l)
def p2 (i l q : Nat) : Nat := if i < l then sk i (sk (l - 1) q) else sk i (sk l q)
theorem EP {i l : Nat} (h : i ≠ l) (q : Nat) : p2 i l q = p2 l i q := by
 unfold p2 sk; (repeat' split) <;> omega
theorem Dl (n : Nat) (A : Nat -> Nat -> Rat) : dt (n + 2) A = sm (n + 2) (fun i => sm (n + 2) (fun l => if l = i then 0 else s2 i l * (A i 0 * A l 1) * dt n (fun q c => A (p2 i l q) (c + 2)))) := by
 show sm (n + 2) (fun i => sgD i * A i 0 * dt (n + 1) (fun r c => A (sk i r) (c + 1))) = _
 refine ar fun i hi => ?_
 show sgD i * A i 0 * sm (n + 1) (fun k => sgD k * A (sk i k) 1 * dt n (fun r c => A (sk i (sk k r)) (c + 2))) = _
 rw [<- ez]
 have := yJ (fun l => s2 i l * (A i 0 * A l 1) * dt n (fun q c => A (p2 i l q) (c + 2))) (i := i) (n := n + 1) (by omega)
 rw [<- this];refine ar fun k hk => ?_
 have e : dt n (fun r c => A (sk i (sk k r)) (c + 2)) = dt n (fun q c => A (p2 i (sk i k) q) (c + 2)) := aJ fun q c _ _ => by
  have : sk i (sk k q) = p2 i (sk i k) q := by unfold p2 sk; (repeat' split) <;> omega
  rw [this]
 rw [e]
 by_cases hki : k < i
 ·have e1 : sk i k = k := by unfold sk; rw [if_pos hki]
  rw [e1]; unfold s2; rw [if_pos hki]; grind
 ·have e1 : sk i k = k + 1 := by unfold sk; rw [if_neg hki]
  have e2 : sgD (k + 1) = - sgD k := rfl
  rw [e1]; unfold s2; rw [if_neg (by omega), e2]; grind
theorem nY : ∀ {n : Nat} {A : Nat -> Nat -> Rat} (k : Nat), k + 1 < n -> dt n (fun i c => A i (nb k c)) = - dt n A
 | 0, _, _, h => by omega
 | 1, _, _, h => by omega
 | n + 2, A, k, hk => by
  rcases k with _ | k
  ·rw [Dl, Dl, jU, <- tQ];refine ar fun i _ => ?_;rw [<- tQ];refine ar fun l _ => ?_
   by_cases hil : i = l
   ·rw [if_pos hil, if_pos hil.symm]; grind
   ·rw [if_neg hil, if_neg (Ne.symm hil)]
    have e1 : dt n (fun q c => A (p2 l i q) (nb 0 (c + 2))) = dt n (fun q c => A (p2 i l q) (c + 2)) := aJ fun q c _ _ => by
     rw [EP (Ne.symm hil)]
     have : nb 0 (c + 2) = c + 2 := by unfold nb; (repeat' split) <;> omega
     rw [this]
    have e2 : nb 0 0 = 1 := rfl
    have e3 : nb 0 1 = 0 := rfl
    have e4 : s2 l i = - s2 i l := by
     unfold s2
     rcases Nat.lt_or_gt_of_ne hil with h | h
     ·rw [if_pos h, if_neg (by omega)]; grind
     ·rw [if_neg (by omega), if_pos h]; grind
    rw [e1, e2, e3, e4]; grind
  ·show sm (n + 2) _ = - sm (n + 2) _
   rw [<- tQ];refine ar fun i _ => ?_
   have ih := nY (n := n + 1) (A := fun r c => A (sk i r) (c + 1)) k (by omega)
   have e1 : dt (n + 1) (fun r c => A (sk i r) (nb (k + 1) (c + 1))) = dt (n + 1) (fun r c => A (sk i r) (nb k c + 1)) := aJ fun r c _ _ => by
    have : nb (k + 1) (c + 1) = nb k c + 1 := by unfold nb; (repeat' split) <;> omega
    rw [this]
   have e2 : nb (k + 1) 0 = 0 := by unfold nb; (repeat' split) <;> omega
   show sgD i * A i (nb (k + 1) 0) * dt (n + 1) (fun r c => A (sk i r) (nb (k + 1) (c + 1))) = _
   rw [e1, e2, ih]; grind
end Go.Proofs.YtceacleokgoooaaGreatDoor

/- Determinants: columns, triangles, minors, Cramer's rule. No condition. -/
namespace Go.Proofs.YtceacleokgoooaaGreatDoor

theorem Ib {n : Nat} {A : Nat -> Nat -> Rat} (k : Nat) (hk : k + 1 < n) (h : ∀ i, i < n -> A i k = A i (k + 1)) : dt n A = 0 := by
 have h1 := nY (A := A) k hk
 have h2 : dt n (fun i c => A i (nb k c)) = dt n A := aJ fun i c hi _ => by
  unfold nb
  by_cases h0 : c = k
  ·rw [if_pos h0, h0]; exact (h i hi).symm
  ·rw [if_neg h0]
   by_cases h0' : c = k + 1
   ·rw [if_pos h0', h0']; exact h i hi
   ·rw [if_neg h0']
 rw [h2] at h1; grind
theorem uV {n : Nat} : ∀ (d : Nat) {A : Nat -> Nat -> Rat} (k : Nat), k + d + 1 < n -> (∀ i, i < n -> A i k = A i (k + d + 1)) -> dt n A = 0
 | 0, A, k, hk, h => Ib k (by omega) h
 | d + 1, A, k, hk, h => by
  have h1 := nY (A := A) (k + d + 1) (by omega)
  have h2 : dt n (fun i c => A i (nb (k + d + 1) c)) = 0 := uV d k (by omega) fun i hi => by
   have e1 : nb (k + d + 1) k = k := by unfold nb; (repeat' split) <;> omega
   have e2 : nb (k + d + 1) (k + d + 1) = k + (d + 1) + 1 := by unfold nb; (repeat' split) <;> omega
   rw [e1, e2]; exact h i hi
  rw [h2] at h1; grind
theorem zB {n : Nat} {A : Nat -> Nat -> Rat} {k l : Nat} (hk : k < n) (hl : l < n) (hne : k ≠ l) (h : ∀ i, i < n -> A i k = A i l) : dt n A = 0 := by
 rcases Nat.lt_or_gt_of_ne hne with hlt | hlt
 ·exact uV (l - k - 1) k (by omega) (fun i hi => by rw [h i hi]; congr 1; omega)
 ·exact uV (k - l - 1) l (by omega) (fun i hi => by rw [<- h i hi]; congr 1; omega)
theorem pS {n : Nat} {A B : Nat -> Nat -> Rat} {k l : Nat} (x : Rat) (hk : k < n) (hl : l < n) (hne : k ≠ l) (h1 : ∀ i, i < n -> B i k = A i k + x * A i l) (h2 : ∀ i c, i < n -> c < n -> c ≠ k -> B i c = A i c) : dt n B = dt n A := by
 have := oJ (A := B) (B := A) (C := fun i c => if c = k then A i l else A i c) k 1 x hk (fun i hi => by simp only [if_true]; rw [h1 i hi]; grind) (fun i c hi hc hck => ⟨h2 i c hi hc hck, by rw [if_neg hck]; exact h2 i c hi hc hck⟩)
 rw [this, zB (A := fun i c => if c = k then A i l else A i c) hk hl hne (fun i _ => by simp only [if_true]; rw [if_neg (Ne.symm hne)])]
 grind
theorem gI (q : Nat) : sk 0 q = q + 1 := by unfold sk; rw [if_neg (by omega)]
theorem pR {n : Nat} {A : Nat -> Nat -> Rat} (h : ∀ i, 0 < i -> i < n + 1 -> A i 0 = 0) : dt (n + 1) A = A 0 0 * dt n (fun i c => A (i + 1) (c + 1)) := by
 show sm (n + 1) _ = _
 rw [dD (j := 0) _ (by omega) (fun i hi hne => by rw [h i (by omega) hi]; grind)]
 have e : sgD 0 = 1 := rfl
 rw [e, aJ (A := fun r c => A (sk 0 r) (c + 1)) (B := fun i c => A (i + 1) (c + 1)) (fun i c _ _ => by rw [gI])]
 grind
theorem Dp {n : Nat} {A : Nat -> Nat -> Rat} (h : ∀ c, 0 < c -> c < n + 1 -> A 0 c = 0) : dt (n + 1) A = A 0 0 * dt n (fun i c => A (i + 1) (c + 1)) := by
 show sm (n + 1) _ = _
 rw [dD (j := 0) _ (by omega) (fun i hi hne => by
  have e : dt n (fun r c => A (sk i r) (c + 1)) = 0 := w7 (r := 0) (by omega) (fun c hc => by
   have : sk i 0 = 0 := by unfold sk; rw [if_pos (by omega)]
   rw [this]; exact h (c + 1) (by omega) (by omega))
  rw [e]; grind)]
 have e : sgD 0 = 1 := rfl
 rw [e, aJ (A := fun r c => A (sk 0 r) (c + 1)) (B := fun i c => A (i + 1) (c + 1)) (fun i c _ _ => by rw [gI])]
 grind
def pr : Nat -> (Nat -> Rat) -> Rat
 | 0, _ => 1
 | n + 1, f => f 0 * pr n (fun i => f (i + 1))
theorem qJ : ∀ {n : Nat} {f g : Nat -> Rat}, (∀ i, i < n -> f i = g i) -> pr n f = pr n g
 | 0, _, _, _ => rfl
 | n + 1, f, g, h => by simp only [pr]; rw [h 0 (by omega), qJ (n := n) (fun i hi => h (i + 1) (by omega))]
theorem nX : ∀ {n : Nat} {A : Nat -> Nat -> Rat}, (∀ i j, i < n -> j < i -> A i j = 0) -> dt n A = pr n (fun i => A i i)
 | 0, _, _ => rfl
 | n + 1, A, h => by
  rw [pR (fun i h0 hi => h i 0 hi h0), nX (n := n) (fun i j hi hj => h (i + 1) (j + 1) (by omega) (by omega))]; rfl
theorem FJ {n : Nat} {A : Nat -> Nat -> Rat} (k : Nat) (hk : k + 1 < n) : dt n (fun i c => A (nb k i) (nb k c)) = dt n A := by
 rw [lg (A := fun i c => A i (nb k c)) k hk, nY (A := A) k hk]; grind
theorem IP (k q : Nat) : nb k (sk k q) = sk (k + 1) q := by unfold nb sk; (repeat' split) <;> omega
theorem rJ {n : Nat} : ∀ (k : Nat) {A : Nat -> Nat -> Rat}, k < n + 1 -> (∀ c, c < n + 1 -> c ≠ k -> A k c = 0) -> dt (n + 1) A = A k k * dt n (fun i c => A (sk k i) (sk k c))
 | 0, A, _, h => by
  rw [Dp (fun c h0 hc => h c hc (by omega)), aJ (A := fun i c => A (i + 1) (c + 1)) (B := fun i c => A (sk 0 i) (sk 0 c)) (fun i c _ _ => by rw [gI, gI])]
 | k + 1, A, hk, h => by
  have e1 : nb k k = k + 1 := by unfold nb; rw [if_pos rfl]
  rw [<- FJ (A := A) k hk, rJ k (A := fun i c => A (nb k i) (nb k c)) (by omega) (fun c hc hne => by
   simp only [e1];refine h _ ?_ ?_
   ·unfold nb; (repeat' split) <;> omega
   ·unfold nb; (repeat' split) <;> omega)]
  simp only [e1, IP]
theorem zz {n : Nat} {A B : Nat -> Nat -> Rat} {k : Nat} (w : Rat) (hk : k < n + 1) (h1 : B k k = A k k + w) (h2 : ∀ i c, i < n + 1 -> c < n + 1 -> ¬ (i = k /\ c = k) -> B i c = A i c) :
  dt (n + 1) B = dt (n + 1) A + w * dt n (fun i c => A (sk k i) (sk k c)) := by
 have := rF (A := B) (B := A) (C := fun i c => if i = k then (if c = k then 1 else 0) else A i c) k 1 w hk (fun c hc => by
   simp only [if_true]
   by_cases h : c = k
   ·rw [if_pos h, h, h1]; grind
   ·rw [if_neg h, h2 k c hk hc (fun e => h e.2)]; grind)
  (fun i c hi hc hik => ⟨h2 i c hi hc (fun e => hik e.1), by rw [if_neg hik]; exact h2 i c hi hc (fun e => hik e.1)⟩)
 rw [this, rJ k (A := fun i c => if i = k then (if c = k then 1 else 0) else A i c) hk (fun c _ hne => by simp only [if_true]; rw [if_neg hne])];simp only [if_true];rw [aJ (A := fun i c => if sk k i = k then (if sk k c = k then 1 else 0) else A (sk k i) (sk k c)) (B := fun i c => A (sk k i) (sk k c)) (fun i c _ _ => by rw [if_neg (m7 k i)])]
 grind
theorem zA {n : Nat} {A : Nat -> Nat -> Rat} (x : Nat -> Rat) {k : Nat} (hk : k < n) : ∀ m, m <= n -> dt n (fun i c => if c = k then sm m (fun j => x j * A i j) else A i c) = sm m (fun j => if j = k then x k * dt n A else 0)
 | 0, _ => by
  have := oJ (A := fun i c => if c = k then sm 0 (fun j => x j * A i j) else A i c) (B := fun i c => if c = k then sm 0 (fun j => x j * A i j) else A i c) (C := fun i c => if c = k then sm 0 (fun j => x j * A i j) else A i c) k 0 0 hk (fun i _ => by simp only [if_true, sm]; grind) (fun i c _ _ _ => ⟨rfl, rfl⟩)
  rw [this]; simp only [sm]; grind
 | m + 1, hm => by
  have := oJ (A := fun i c => if c = k then sm (m + 1) (fun j => x j * A i j) else A i c) (B := fun i c => if c = k then sm m (fun j => x j * A i j) else A i c) (C := fun i c => if c = k then A i m else A i c) k 1 (x m) hk (fun i _ => by simp only [if_true, sm]; grind) (fun i c _ _ hc => ⟨by rw [if_neg hc, if_neg hc], by rw [if_neg hc, if_neg hc]⟩)
  rw [this, zA x hk m (by omega), bE]
  by_cases h : m = k
  ·rw [if_pos h, aJ (A := fun i c => if c = k then A i m else A i c) (B := A) (fun i c _ _ => by
    by_cases hc : c = k
    ·rw [if_pos hc, hc, h]
    ·rw [if_neg hc]), h]; grind
  ·rw [if_neg h, zB (A := fun i c => if c = k then A i m else A i c) (k := k) (l := m) hk (by omega) (fun e => h e.symm) (fun i _ => by simp only [if_true]; rw [if_neg h])]; grind
theorem uW {n : Nat} {A : Nat -> Nat -> Rat} {x b : Nat -> Rat} {k : Nat} (hk : k < n) (h : ∀ i, i < n -> sm n (fun j => A i j * x j) = b i) : x k * dt n A = dt n (fun i c => if c = k then b i else A i c) := by
 have h1 := zA (A := A) x hk n (Nat.le_refl _)
 rw [dD (j := k) _ hk (fun i _ hne => if_neg hne), if_pos rfl] at h1;rw [<- h1];refine aJ fun i c hi _ => ?_
 by_cases hc : c = k
 ·rw [if_pos hc, if_pos hc, <- h i hi]; exact ar fun j _ => by grind
 ·rw [if_neg hc, if_neg hc]
end Go.Proofs.YtceacleokgoooaaGreatDoor

/- The factors L and D of a symmetric matrix. No condition. -/
namespace Go.Proofs.YtceacleokgoooaaGreatDoor

theorem eU {f : Nat -> Rat} {m : Nat} : ∀ {n : Nat}, m <= n -> (∀ k, m <= k -> k < n -> f k = 0) -> sm n f = sm m f
 | 0, h, _ => by
  have : m = 0 := by omega
  rw [this]
 | n + 1, h, hz => by
  by_cases e : m = n + 1
  ·rw [e]
  ·rw [bE, hz n (by omega) (by omega), eU (n := n) (by omega) (fun k h1 h2 => hz k h1 (by omega))]; grind
theorem zx {n : Nat} {A : Nat -> Nat -> Rat} (x : Nat -> Rat) {r : Nat} (hr : r < n) : ∀ m, m <= r -> dt n (fun i c => if i = r then A r c + sm m (fun k => x k * A k c) else A i c) = dt n A
 | 0, _ => aJ fun i c _ _ => by
  by_cases h : i = r
  ·rw [if_pos h, h]; simp only [sm]; grind
  ·rw [if_neg h]
 | m + 1, hm => by
  rw [<- zx (A := A) x hr m (by omega)];refine lX (r := r) (s := m) (x m) hr (by omega) (by omega) (fun c _ => ?_) (fun i c _ _ hi => ?_)
  ·simp only [if_true];rw [if_neg (show ¬ m = r by omega), bE]; grind
  ·rw [if_neg hi, if_neg hi]
theorem Do {n : Nat} {L U : Nat -> Nat -> Rat} (h1 : ∀ i, i < n -> L i i = 1) (h2 : ∀ i k, i < n -> k < n -> i < k -> L i k = 0) : dt n (fun i c => sm n (fun k => L i k * U k c)) = dt n U := by
 have row : ∀ i c, i < n -> sm n (fun k => L i k * U k c) = U i c + sm i (fun k => L i k * U k c) := fun i c hi => by
  rw [eU (m := i + 1) (by omega) (fun k hk hkn => by rw [h2 i k hi hkn (by omega)]; grind), bE, h1 i hi]; grind
 have key : ∀ m, m <= n -> dt n (fun i c => if i < m then U i c else sm n (fun k => L i k * U k c)) = dt n (fun i c => sm n (fun k => L i k * U k c)) := by
  intro m
  induction m with
  | zero => intro _; exact aJ fun i c _ _ => if_neg (by omega)
  | succ m ih =>
   intro hm
   rw [<- ih (by omega)]
   have := zx (n := n) (A := fun i c => if i < m + 1 then U i c else sm n (fun k => L i k * U k c)) (fun k => L m k) (r := m) (by omega) m (Nat.le_refl _)
   rw [<- this];refine aJ fun i c hi _ => ?_
   by_cases h : i = m
   ·subst h
    rw [if_pos rfl, if_pos (show i < i + 1 by omega), if_neg (show ¬ i < i by omega), row i c hi]
    congr 1
    refine ar fun k hk => ?_;rw [if_pos (show k < i + 1 by omega)]
   ·rw [if_neg h]
    by_cases h' : i < m
    ·rw [if_pos (by omega), if_pos h']
    ·rw [if_neg (by omega), if_neg h']
 rw [<- key n (Nat.le_refl _)];exact aJ fun i c hi _ => if_pos hi
def lr (B l : Nat -> Nat -> Rat) (d : Nat -> Rat) (i : Nat) : Nat -> Nat -> Rat
 | 0, _ => 0
 | j + 1, c => if c = j then (B i j - sm j (fun k => lr B l d i j k * l j k * d k)) / d j else lr B l d i j c
theorem uA (B l : Nat -> Nat -> Rat) (d : Nat -> Rat) (i : Nat) {j c : Nat} : ∀ {m : Nat}, c < j -> j <= m -> lr B l d i m c = lr B l d i j c
 | 0, h, h' => by omega
 | m + 1, h, h' => by
  by_cases e : j = m + 1
  ·rw [e]
  ·simp only [lr]; rw [if_neg (by omega)]; exact uA B l d i (m := m) h (by omega)
theorem IT (B l : Nat -> Nat -> Rat) (d : Nat -> Rat) (i : Nat) {j m : Nat} (h : j < m) : lr B l d i m j = (B i j - sm j (fun k => lr B l d i m k * l j k * d k)) / d j := by
 rw [uA B l d i (j := j + 1) (m := m) (by omega) (by omega)];simp only [lr, if_true];rw [ar (f := fun k => lr B l d i j k * l j k * d k) (g := fun k => lr B l d i m k * l j k * d k) (fun k hk => by rw [uA B l d i (j := j) (m := m) hk (by omega)])]
theorem Gg (B l : Nat -> Nat -> Rat) (d : Nat -> Rat) (i : Nat) : ∀ {m c : Nat}, m <= c -> lr B l d i m c = 0
 | 0, _, _ => rfl
 | m + 1, c, h => by simp only [lr]; rw [if_neg (by omega)]; exact Gg B l d i (by omega)
theorem nG {B l l' : Nat -> Nat -> Rat} {d d' : Nat -> Rat} {i : Nat} : ∀ {m : Nat} (c : Nat), (∀ j k, j < m -> k < j -> l j k = l' j k) -> (∀ k, k < m -> d k = d' k) -> lr B l d i m c = lr B l' d' i m c
 | 0, _, _, _ => rfl
 | m + 1, c, hl, hd => by
  simp only [lr];rw [nG (m := m) c (fun j k h1 h2 => hl j k (by omega) h2) (fun k hk => hd k (by omega)), hd m (by omega)];rw [ar (f := fun k => lr B l d i m k * l m k * d k) (g := fun k => lr B l' d' i m k * l' m k * d' k) (fun k hk => by rw [nG (m := m) k (fun j k h1 h2 => hl j k (by omega) h2) (fun k hk => hd k (by omega)), hl m k (by omega) hk, hd k (by omega)])]
def fac (B : Nat -> Nat -> Rat) : Nat -> (Nat -> Nat -> Rat) × (Nat -> Rat)
 | 0 => (fun _ _ => 0, fun _ => 0)
 | i + 1 => (fun r c => if r = i then (if c = i then 1 else lr B (fac B i).1 (fac B i).2 i i c) else (fac B i).1 r c,
   fun k => if k = i then B i i - sm i (fun j => lr B (fac B i).1 (fac B i).2 i i j * lr B (fac B i).1 (fac B i).2 i i j * (fac B i).2 j) else (fac B i).2 k)
def LL (B : Nat -> Nat -> Rat) (r c : Nat) : Rat := (fac B (r + 1)).1 r c
def DD (B : Nat -> Nat -> Rat) (k : Nat) : Rat := (fac B (k + 1)).2 k
theorem jH (B : Nat -> Nat -> Rat) {r c : Nat} : ∀ {m : Nat}, r < m -> (fac B m).1 r c = LL B r c /\ (fac B m).2 r = DD B r
 | 0, h => by omega
 | m + 1, h => by
  by_cases e : r = m
  ·subst e; exact ⟨rfl, rfl⟩
  ·simp only [fac]; rw [if_neg e, if_neg e]; exact jH B (m := m) (by omega)
theorem zJ (B : Nat -> Nat -> Rat) {i c : Nat} (h : c ≠ i) : LL B i c = lr B (LL B) (DD B) i i c := by
 show (fac B (i + 1)).1 i c = _
 simp only [fac, if_true];rw [if_neg h];exact nG c (fun j k h1 _ => (jH B h1).1) (fun k hk => (jH B (c := 0) hk).2)
theorem dH (B : Nat -> Nat -> Rat) (i : Nat) : LL B i i = 1 := by
 show (fac B (i + 1)).1 i i = _
 simp only [fac, if_true]
theorem jM (B : Nat -> Nat -> Rat) {i c : Nat} (h : i < c) : LL B i c = 0 := by
 rw [zJ B (by omega)]; exact Gg _ _ _ _ (by omega)
theorem xe (B : Nat -> Nat -> Rat) {i j : Nat} (h : j < i) (hd : DD B j ≠ 0) : LL B i j * DD B j = B i j - sm j (fun k => LL B i k * LL B j k * DD B k) := by
 rw [zJ B (by omega), IT _ _ _ _ h];rw [ar (f := fun k => lr B (LL B) (DD B) i i k * LL B j k * DD B k) (g := fun k => LL B i k * LL B j k * DD B k) (fun k hk => by rw [<- zJ B (show k ≠ i by omega)])]
 grind
theorem GC (B : Nat -> Nat -> Rat) (i : Nat) : DD B i = B i i - sm i (fun j => LL B i j * LL B i j * DD B j) := by
 show (fac B (i + 1)).2 i = _
 simp only [fac, if_true]
 congr 1
 refine ar fun j hj => ?_
 have e : lr B (fac B i).1 (fac B i).2 i i j = LL B i j := by
  rw [zJ B (by omega)];exact nG j (fun j k h1 _ => (jH B h1).1) (fun k hk => (jH B (c := 0) hk).2)
 rw [e, (jH B (c := 0) hj).2]
theorem ldl {B : Nat -> Nat -> Rat} {n : Nat} (hs : ∀ i j, i < n -> j < n -> B i j = B j i) (hd : ∀ k, k + 1 < n -> DD B k ≠ 0) {i j : Nat} (hi : i < n) (hj : j < n) : sm n (fun k => LL B i k * (DD B k * LL B j k)) = B i j := by
 have low : ∀ i j, i < n -> j <= i -> sm n (fun k => LL B i k * (DD B k * LL B j k)) = B i j := by
  intro i j hi hji
  rw [eU (m := j + 1) (by omega) (fun k hk _ => by rw [jM B (show j < k by omega)]; grind), bE, dH]
  by_cases e : j = i
  ·subst e
   have := GC B j
   rw [dH, ar (g := fun k => LL B j k * LL B j k * DD B k) (fun k _ => by grind)]; grind
  ·have := xe B (i := i) (j := j) (by omega) (hd j (by omega))
   rw [ar (g := fun k => LL B i k * LL B j k * DD B k) (fun k _ => by grind)]; grind
 rcases Nat.le_total j i with h | h
 ·exact low i j hi h
 ·rw [hs i j hi hj, <- low j i hj h]
  exact ar fun k _ => by grind
theorem mI {B : Nat -> Nat -> Rat} {n : Nat} (hs : ∀ i j, i < n -> j < n -> B i j = B j i) (hd : ∀ k, k + 1 < n -> DD B k ≠ 0) : dt n B = pr n (DD B) := by
 rw [aJ (A := B) (B := fun i c => sm n (fun k => LL B i k * (fun k c => DD B k * LL B c k) k c)) (fun i c hi hc => (ldl hs hd hi hc).symm)];rw [Do (L := LL B) (U := fun k c => DD B k * LL B c k) (fun i _ => dH B i) (fun i k _ _ h => jM B h)];rw [nX (fun i j _ hj => by rw [jM B hj]; grind)]
 exact qJ fun i _ => by rw [dH]; grind
end Go.Proofs.YtceacleokgoooaaGreatDoor

/- Definite forms; solving by the factors. No condition. -/
namespace Go.Proofs.YtceacleokgoooaaGreatDoor

def fm (n : Nat) (B : Nat -> Nat -> Rat) (x : Nat -> Rat) : Rat := sm n (fun i => x i * sm n (fun j => B i j * x j))
theorem jw (f : Nat -> Rat) (x : Rat) (n : Nat) : sm n (fun i => f i * x) = sm n f * x := by
 rw [ar (g := fun i => x * f i) (fun i _ => by grind), ez]; grind
theorem uB {B : Nat -> Nat -> Rat} {n : Nat} (hs : ∀ i j, i < n -> j < n -> B i j = B j i) (hd : ∀ k, k + 1 < n -> DD B k ≠ 0) (x : Nat -> Rat) {i : Nat} (hi : i < n) :
  sm n (fun j => B i j * x j) = sm n (fun k => LL B i k * (DD B k * sm n (fun j => LL B j k * x j))) := by
 rw [ar (g := fun j => sm n (fun k => LL B i k * (DD B k * (LL B j k * x j)))) (fun j hj => by
  rw [<- ldl hs hd hi hj, <- jw]
  exact ar fun k _ => by grind), jU]
 refine ar fun k _ => ?_;rw [<- ez, <- ez]
theorem C4 {B : Nat -> Nat -> Rat} {n : Nat} (hs : ∀ i j, i < n -> j < n -> B i j = B j i) (hd : ∀ k, k + 1 < n -> DD B k ≠ 0) (x : Nat -> Rat) :
  fm n B x = sm n (fun k => DD B k * (sm n (fun j => LL B j k * x j) * sm n (fun j => LL B j k * x j))) := by
 unfold fm
 rw [ar (g := fun i => sm n (fun k => LL B i k * x i * (DD B k * sm n (fun j => LL B j k * x j)))) (fun i hi => by
  rw [uB hs hd x hi, <- ez]
  exact ar fun k _ => by grind), jU]
 refine ar fun k _ => ?_;rw [jw]; grind
theorem iB (x : Rat) : 0 <= x * x := by
 rcases (show 0 <= x \/ x <= 0 by grind) with h | h
 ·exact Rat.mul_nonneg h h
 ·have := Rat.mul_nonneg (show 0 <= -x by grind) (show 0 <= -x by grind); grind
theorem yK {n : Nat} {f : Nat -> Rat} (h : ∀ i, i < n -> 0 <= f i) : 0 <= sm n f := by
 induction n with
 | zero => show (0 : Rat) <= 0; grind
 | succ n ih =>
  rw [bE]
  have h1 := ih fun i hi => h i (by omega)
  have h2 := h n (by omega)
  grind
theorem Br {n : Nat} {f : Nat -> Rat} (h : ∀ i, i < n -> 0 <= f i) {k : Nat} (hk : k < n) (hp : 0 < f k) : 0 < sm n f := by
 induction n with
 | zero => omega
 | succ n ih =>
  rw [bE]
  by_cases e : k = n
  ·subst e
   have := yK (n := k) fun i hi => h i (by omega)
   grind
  ·have h1 := ih (fun i hi => h i (by omega)) (by omega)
   have h2 := h n (by omega)
   grind
def bsx (L : Nat -> Nat -> Rat) (b : Nat -> Rat) (n : Nat) : Nat -> Nat -> Rat
 | 0, _ => 0
 | s + 1, i => if i + s + 1 = n then b i - sm n (fun j => if i < j then L j i * bsx L b n s j else 0) else bsx L b n s i
theorem lh (L : Nat -> Nat -> Rat) (b : Nat -> Rat) {n i : Nat} : ∀ {m s : Nat}, n <= i + s -> s <= m -> bsx L b n m i = bsx L b n s i
 | 0, s, h, h' => by
  have : s = 0 := by omega
  rw [this]
 | m + 1, s, h, h' => by
  by_cases e : s = m + 1
  ·rw [e]
  ·simp only [bsx]; rw [if_neg (by omega)]; exact lh L b (m := m) h (by omega)
theorem yq {L : Nat -> Nat -> Rat} {b : Nat -> Rat} {n : Nat} (h1 : ∀ i, i < n -> L i i = 1) (h2 : ∀ i k, i < n -> k < n -> i < k -> L i k = 0) {m : Nat} (hm : m < n) : sm n (fun i => L i m * bsx L b n n i) = b m := by
 have e1 : bsx L b n n m = b m - sm n (fun j => if m < j then L j m * bsx L b n n j else 0) := by
  rw [lh L b (m := n) (s := n - m) (by omega) (by omega)]
  obtain ⟨s, hs⟩ : ∃ s, n - m = s + 1 := ⟨n - m - 1, by omega⟩
  rw [hs];simp only [bsx]
  rw [if_pos (by omega), ar (f := fun j => if m < j then L j m * bsx L b n s j else 0) (g := fun j => if m < j then L j m * bsx L b n n j else 0) (fun j hj => by
   by_cases h : m < j
   ·rw [if_pos h, if_pos h, lh L b (m := n) (s := s) (i := j) (by omega) (by omega)]
   ·rw [if_neg h, if_neg h])]
 have e2 : sm n (fun i => L i m * bsx L b n n i) = sm n (fun i => (if i = m then bsx L b n n m else 0) + (if m < i then L i m * bsx L b n n i else 0)) := ar fun i hi => by
  by_cases h : i = m
  ·subst h; rw [if_pos rfl, if_neg (by omega), h1 i hi]; grind
  ·by_cases h' : m < i
   ·rw [if_neg h, if_pos h']; grind
   ·rw [if_neg h, if_neg h', h2 i m hi hm (by omega)]; grind
 rw [e2, gY, dD (j := m) _ hm (fun i _ h => if_neg h), if_pos rfl]
 grind
theorem Ci {B : Nat -> Nat -> Rat} {n : Nat} (hs : ∀ i j, i < n -> j < n -> B i j = B j i) (hd : ∀ k, k < n -> 0 < DD B k) {x : Nat -> Rat} (hx : ∃ i, i < n /\ x i ≠ 0) : 0 < fm n B x := by
 rw [C4 hs (fun k hk => by have := hd k (by omega); grind)]
 have ne : ∃ k, k < n /\ sm n (fun j => LL B j k * x j) ≠ 0 := by
  refine Classical.byContradiction fun hcon => ?_
  have hz : ∀ k, k < n -> sm n (fun j => LL B j k * x j) = 0 := fun k hk => Classical.byContradiction fun e => hcon ⟨k, hk, e⟩
  have all : ∀ d k, k < n -> n <= k + d + 1 -> x k = 0 := by
   intro d
   induction d with
   | zero =>
    intro k hk hd
    have := hz k hk
    rw [dD (j := k) _ hk (fun i hi hne => by rw [jM B (show i < k by omega)]; grind), dH] at this
    grind
   | succ d ih =>
    intro k hk hd
    have := hz k hk
    rw [dD (j := k) _ hk (fun i hi hne => by
     rcases Nat.lt_or_gt_of_ne hne with h | h
     ·rw [jM B h]; grind
     ·rw [ih i hi (by omega)]; grind), dH] at this
    grind
  obtain ⟨i, h1, h2⟩ := hx
  exact h2 (all n i h1 (by omega))
 obtain ⟨k, hk, hne⟩ := ne
 refine Br (fun i hi => Rat.mul_nonneg (by have := hd i hi; grind) (iB _)) hk ?_
 have h1 := hd k hk
 have h2 : 0 < sm n (fun j => LL B j k * x j) * sm n (fun j => LL B j k * x j) := by
  have := iB (sm n (fun j => LL B j k * x j))
  have h3 : sm n (fun j => LL B j k * x j) * sm n (fun j => LL B j k * x j) ≠ 0 := fun e => by
   rcases Rat.mul_eq_zero.1 e with h | h <;> exact hne h
  grind
 exact Rat.mul_pos h1 h2
theorem uj {B : Nat -> Nat -> Rat} {n : Nat} (hs : ∀ i j, i < n -> j < n -> B i j = B j i) (hp : ∀ x : Nat -> Rat, (∃ i, i < n /\ x i ≠ 0) -> 0 < fm n B x) : ∀ k, k < n -> 0 < DD B k := by
 intro k
 induction k using Nat.strongRecOn with
 | ind k ih =>
  intro hk
  have hb := fun m (hm : m < k + 1) => yq (L := LL B) (b := fun i => if i = k then 1 else 0) (n := k + 1) (fun i _ => dH B i) (fun i c _ _ h => jM B h) hm
  generalize hX : bsx (LL B) (fun i => if i = k then 1 else 0) (k + 1) (k + 1) = X at hb
  have hk1 : X k = 1 := by
   have := hb k (by omega)
   rw [if_pos rfl, dD (j := k) _ (by omega) (fun i hi hne => by rw [jM B (show i < k by omega)]; grind), dH] at this
   grind
  have h1 := C4 (B := B) (n := k + 1) (fun i j hi hj => hs i j (by omega) (by omega)) (fun m hm => by have := ih m (by omega) (by omega); grind) X
  rw [dD (j := k) _ (by omega) (fun m hm hne => by rw [hb m hm, if_neg hne]; grind), hb k (by omega), if_pos rfl] at h1
  have h2 := hp (fun i => if i < k + 1 then X i else 0) ⟨k, hk, by rw [if_pos (by omega), hk1]; grind⟩
  have h3 : fm n B (fun i => if i < k + 1 then X i else 0) = fm (k + 1) B X := by
   unfold fm
   rw [eU (m := k + 1) (by omega) (fun i hi _ => by simp only; rw [if_neg (by omega)]; grind)];refine ar fun i hi => ?_
   show (if i < k + 1 then X i else 0) * sm n (fun j => B i j * (if j < k + 1 then X j else 0)) = _
   rw [if_pos hi, eU (m := k + 1) (by omega) (fun j hj _ => by rw [if_neg (by omega)]; grind)]
   congr 1
   exact ar fun j hj => by rw [if_pos hj]
  rw [h3, h1] at h2
  grind
end Go.Proofs.YtceacleokgoooaaGreatDoor

/- Solving by the factors. No condition. -/
namespace Go.Proofs.YtceacleokgoooaaGreatDoor

def fws (L : Nat -> Nat -> Rat) (b : Nat -> Rat) : Nat -> Nat -> Rat
 | 0, _ => 0
 | i + 1, c => if c = i then b i - sm i (fun j => L i j * fws L b i j) else fws L b i c
def fwv (L : Nat -> Nat -> Rat) (b : Nat -> Rat) (i : Nat) : Rat := fws L b (i + 1) i
theorem wS (L : Nat -> Nat -> Rat) (b : Nat -> Rat) {c : Nat} : ∀ {m : Nat}, c < m -> fws L b m c = fwv L b c
 | 0, h => by omega
 | m + 1, h => by
  by_cases e : c = m
  ·subst e; rfl
  ·simp only [fws]; rw [if_neg e]; exact wS L b (m := m) (by omega)
theorem ya (L : Nat -> Nat -> Rat) (b : Nat -> Rat) (i : Nat) : fwv L b i = b i - sm i (fun j => L i j * fwv L b j) := by
 show fws L b (i + 1) i = _
 simp only [fws, if_true]
 congr 1
 exact ar fun j hj => by rw [wS L b hj]
def slv (B : Nat -> Nat -> Rat) (b : Nat -> Rat) (n : Nat) : Nat -> Rat := bsx (LL B) (fun k => fwv (LL B) b k / DD B k) n n
theorem qt {B : Nat -> Nat -> Rat} {n : Nat} {b : Nat -> Rat} (hs : ∀ i j, i < n -> j < n -> B i j = B j i) (hd : ∀ k, k < n -> DD B k ≠ 0) {i : Nat} (hi : i < n) : sm n (fun j => B i j * slv B b n j) = b i := by
 rw [uB hs (fun k hk => hd k (by omega)) _ hi]
 rw [ar (g := fun k => LL B i k * fwv (LL B) b k) (fun k hk => by
  have := yq (L := LL B) (b := fun k => fwv (LL B) b k / DD B k) (n := n) (fun i _ => dH B i) (fun i c _ _ h => jM B h) hk
  show LL B i k * (DD B k * sm n (fun j => LL B j k * bsx (LL B) (fun k => fwv (LL B) b k / DD B k) n n j)) = _
  rw [this]
  have := hd k hk
  grind)]
 rw [eU (m := i + 1) (by omega) (fun k hk _ => by rw [jM B (show i < k by omega)]; grind), bE, dH]
 have := ya (LL B) b i
 grind
theorem Bu {B : Nat -> Nat -> Rat} {n : Nat} {b x : Nat -> Rat} (hs : ∀ i j, i < n -> j < n -> B i j = B j i) (hd : ∀ k, k < n -> 0 < DD B k) (hx : ∀ i, i < n -> sm n (fun j => B i j * x j) = b i) {i : Nat} (hi : i < n) : x i = slv B b n i := by
 have hd' : ∀ k, k < n -> DD B k ≠ 0 := fun k hk => by have := hd k hk; grind
 refine Classical.byContradiction fun hne => ?_
 have h1 := Ci hs hd (x := fun j => x j - slv B b n j) ⟨i, hi, by grind⟩
 have h2 : fm n B (fun j => x j - slv B b n j) = 0 := by
  unfold fm
  refine iD fun k hk => ?_;rw [ar (g := fun j => 1 * (B k j * x j) + (-1) * (B k j * slv B b n j)) (fun j _ => by grind), kO, hx k hk, qt hs hd' hk]
  grind
 rw [h2] at h1
 grind
end Go.Proofs.YtceacleokgoooaaGreatDoor

/- The factors of a matrix. No condition. -/
namespace Go.Proofs.YtceacleokgoooaaGreatDoor
attribute [local irreducible] aA

theorem vU {b : Rat} {f : Nat -> Rat} {M K : Nat} (hb : ql b <= K) : ∀ k, (∀ t, t < k -> ql (f t) <= M) -> ql (b - sm k f) <= K + k * (M + 1)
 | 0, _ => by
  have : b - sm 0 f = b := by simp only [sm]; grind
  rw [this]; omega
 | k + 1, h => by
  have ih := vU hb k fun t ht => h t (by omega)
  have e : b - sm (k + 1) f = (b - sm k f) - f k := by rw [bE]; grind
  rw [e, Nat.succ_mul];exact Nat.le_trans (sM ih (h k (by omega))) (by omega)
theorem pL (b : Rat) (f : Nat -> Rat) (k : Nat) {x : Rat} (h : f k = x) : (b - sm k f) - x = b - sm (k + 1) f := by rw [bE, h]; grind
theorem uf (b : Rat) (f : Nat -> Rat) : b - sm 0 f = b := by simp only [sm]; grind
section
variable {T : Tab} {t : TypeId} {ti : TI}
theorem qY {S : bR} {id i n : Nat} {G : Nat -> RW} {x : RW} (h1 : T t = some ti) (h4 : ti.size = 4) (h5 : ti.agg = true) (hS : S id = some (.arr 4 (aW n G))) (hi : i < n) (he : G i = x) :
  bq T ⟨[], S, []⟩ t (.pe id 4 i 0) = .set (AG x.cs) := he ▸ l_q h1 h4 h5 hS hi
end
def iG (F : Nat -> Nat -> RW) (e : Nat -> Nat) (i j : Nat) : Rat := (F (e i) (e j)).v
def l6 (B : Nat -> Nat -> Rat) (n : Nat) : Bool := decide (∀ k, k < n -> 0 < DD B k)
def kj (B : Nat -> Nat -> Rat) (n : Nat) : List (List RW) := ba n n fun r c => qzW (LL B r c)
def kY (B : Nat -> Nat -> Rat) (n : Nat) : List RW := cf n fun r => qzW (DD B r)
def mB (B : Nat -> Nat -> Rat) (n : Nat) : List (List RW) × List RW × Bool := if l6 B n then (kj B n, kY B n, true) else ([], [], false)
def yc (B : Nat -> Nat -> Rat) (n : Nat) : Prop := ∀ i, i < n -> (∀ k, k < i -> 0 < DD B k) -> ql (DD B i) <= 65536 /\ ∀ j, j < i -> ql (LL B i j) <= 65536
def zG (s t : Nat) : RW := if t < s then qzW 0 else eO
def rG (B : Nat -> Nat -> Rat) (i j t : Nat) : RW := if t < j then qzW (LL B i t) else if t = i then qzW 1 else qzW 0
theorem yQ (n : Nat) : List.replicate n eO.dc = aW n (zG 0) := by rw [sC]; exact bn fun i _ => by simp [zG]
theorem yP (n s : Nat) : aW n (jc (zG s) s (qzW 0)) = aW n (zG (s + 1)) := bn fun i _ => by
 simp only [jc, zG]
 by_cases h : i = s
 ·rw [if_pos h, if_pos (by omega)]
 ·rw [if_neg h]
  by_cases h2 : i < s
  ·rw [if_pos h2, if_pos (by omega)]
  ·rw [if_neg h2, if_neg (by omega)]
theorem EA (B : Nat -> Nat -> Rat) (n i : Nat) : aW n (jc (zG n) i (qzW 1)) = aW n (rG B i 0) := bn fun t ht => by
 simp only [jc, zG, rG];rw [if_neg (show ¬ t < 0 by omega), if_pos ht]
theorem Ey (B : Nat -> Nat -> Rat) (n i j : Nat) : aW n (jc (rG B i j) j (qzW (LL B i j))) = aW n (rG B i (j + 1)) := bn fun t _ => by
 simp only [jc, rG]
 by_cases h : t = j
 ·rw [if_pos h, if_pos (by omega), h]
 ·rw [if_neg h]
  by_cases h2 : t < j
  ·rw [if_pos h2, if_pos (by omega)]
  ·rw [if_neg h2, if_neg (show ¬ t < j + 1 by omega)]
theorem Ez (B : Nat -> Nat -> Rat) (n i : Nat) : aW n (rG B i i) = aW n (fun c => qzW (LL B i c)) := bn fun t _ => by
 simp only [rG]
 by_cases h : t < i
 ·rw [if_pos h]
 ·rw [if_neg h]
  by_cases h2 : t = i
  ·rw [if_pos h2, h2, dH]
  ·rw [if_neg h2, jM B (by omega)]
theorem CD {n m j : Nat} {F : Nat -> Nat -> RW} (h : j < n) : ((ba n m F).map cM)[j]? = some (cM (cf m (F j))) := by simp [ba, h]
theorem il (n m : Nat) (F : Nat -> Nat -> RW) : ((ba n m F).map cM).length = n := by simp [ba]

set_option maxHeartbeats 1000000 in
theorem sA (n : Nat) (F : Nat -> Nat -> RW) (e : Nat -> Nat) (hn : n <= 16) (he : ∀ i, i < n -> e i < n) (ok : ∀ i j, i < n -> j < n -> (F i j).OK 65536) (hS : yc (iG F e) n) :
  Con Tryz.prog 78 [V1 (dMs (ba n n F)), V1 (.sl (nmD n e))] { v := .tup [.one (.d (dMs (mB (iG F e) n).1)), .one (.d (dRs (mB (iG F e) n).2.1)), .one (.d (.lit (.bool (mB (iG F e) n).2.2)))] } := by
 obtain ⟨B, hB⟩ : ∃ B, B = iG F e := ⟨_, rfl⟩
 rw [<- hB] at hS ⊢
 have hBv : ∀ i j, B i j = (F (e i) (e j)).v := fun i j => by rw [hB]; rfl
 clear hB;refine Z3 Tryz.func78 ?_
 intro w0 X
 rw [ap _ _ [(0, V1 (dMs (ba n n F))), (1, V1 (.sl (nmD n e)))] rfl rfl];refine gQ fun _ O=>?_;refine Z8 ?_;refine Z8 ?_;refine Z8 ?_;refine eQ O ?_;clear O;refine gQ fun _ O=>?_;refine Z8 ?_;refine eQ O ?_;clear O;refine gQ fun _ O=>?_;refine Z8 ?_;refine eQ O ?_;clear O;refine ab ?_;refine gQ fun _ O=>?_;refine Z9 ?_;refine az rfl (wH rfl rfl) rfl ?_;refine Z9 ?_;refine eQ O ?_;clear O;refine ae (aG (α := Nat) (fun i => mk 121 [(0, V1 (dMs (ba n n F))), (1, V1 (.sl (nmD n e))), (7, bU 200 1 i), (8, bU 201 4 i), (17, V1 (.sl (nmD n e))), (18, dI n), (19, dI i)] [(200, ca 1 ((ba i n fun r c => qzW (LL B r c)).map cM) i), (201, ca 4 (aW i fun r => qzW (DD B r)) i)] []) (fun i => i <= n /\ ∀ k, k < i -> 0 < DD B k) (fun i => n - i) 0 ?_ ⟨Nat.zero_le _, fun _ h => by omega⟩ ?_)
 ·exact Wk.mk' ⟨rfl, rfl, rfl, rfl, rfl, rfl, rfl, trivial⟩ ⟨rfl, rfl, trivial⟩
 rintro i ⟨hi, hI⟩
 refine gQ fun _ O=>?_;refine Z6 ?_;refine eQ O ?_;clear O;refine ab ?_;refine aj rfl (fun hg => ?_) (fun hg => ?_)
 ·have hg : i < n := by simp at hg; omega
  have ei := he i hg
  obtain ⟨qD, qL⟩ := hS i hg hI
  have n1 := sX i n (fun r c => qzW (LL B r c))
  have n2 := sD i (fun r => qzW (DD B r))
  have z1 := il i n (fun r c => qzW (LL B r c))
  have z2 := dm i (fun r => qzW (DD B r))
  have g1 : ∀ j, j < i -> ((ba i n fun r c => qzW (LL B r c)).map cM)[j]? = some (cM (cf n fun c => qzW (LL B j c))) := fun j hj => CD hj
  generalize (ba i n fun r c => qzW (LL B r c)).map cM = es at n1 z1 g1 ⊢;refine ag ?_;show AWP _ _ _ _ _ _;refine ab ?_;refine ae ?_;refine gQ fun _ O=>?_;refine Z9 ?_;refine aa rfl (x_n rfl rfl rfl rfl rfl hg) rfl ?_;refine Z7 ?_;refine Z8 ?_;refine Z8 ?_;refine eQ O ?_;clear O;refine gQ fun _ O=>?_;refine Z9 ?_;refine az rfl (wH rfl rfl) rfl ?_;refine bm (sz := _) (es := _) (f := _) (v := _) rfl (wy (l := n) rfl rfl rfl rfl rfl (Nat.le_of_ble_eq_true rfl) (by decide) rfl rfl (by omega)) (by rcases i with _|i <;> rfl) rfl ?_;refine Z8 ?_;refine eQ O ?_;clear O;refine ab ?_;refine gQ fun _ O=>?_;refine Z9 ?_;refine az rfl rfl rfl ?_;refine Z9 ?_;refine eQ O ?_;clear O;refine ae (aG (α := Nat) (fun s => mk 121 [(0, V1 (dMs (ba n n F))), (1, V1 (.sl (nmD n e))), (7, bU 200 1 i), (8, bU 201 4 i), (9, dI i), (10, dI (e i)), (11, .val (.one (.own 26 4 0 n))), (17, V1 (.sl (nmD n e))), (18, dI n), (19, dI i), (28, dI n), (29, dI s)] [(26, some (.arr 4 (aW n (zG s)))), (200, ca 1 es i), (201, ca 4 (aW i fun r => qzW (DD B r)) i)] []) (fun s => s <= n) (fun s => n - s) 0 ?_ (Nat.zero_le _) ?_)
  ·exact Wk.mk' ⟨rfl, rfl, rfl, rfl, rfl, rfl, rfl, rfl, rfl, rfl, rfl, rfl, trivial⟩ ⟨congrArg (fun x => some (OO.arr 4 x)) (yQ n), rfl, rfl, trivial⟩
  intro s hs
  refine gQ fun _ O=>?_;refine Z6 ?_;refine eQ O ?_;clear O;refine ab ?_;refine aj rfl (fun hf => ?_) (fun hf => ?_)
  ·have hf : s < n := by simp at hf; omega
   refine ag ?_;show AWP _ _ _ _ _ _;refine ab ?_;refine ae ?_;refine gQ fun _ O=>?_;refine Z9 ?_;refine Z8 ?_;refine eQ O ?_;clear O;refine gR fun _ O=>?_;refine Z9 ?_;refine Z9 ?_;refine ac rfl rfl (yO) rfl rfl rfl rfl ?_;refine aa rfl (x_o (i := s) (j := s) rfl rfl rfl rfl rfl hf (Nat.zero_add _)) rfl ?_;refine ak rfl (rV (qzW 0) rfl rfl rfl hf) rfl rfl rfl ?_;refine eQ O ?_;clear O;rw [yP];show AWP _ _ _ _ _ _;refine gR fun _ O=>?_;refine ai rfl (aF (c := ((s + 1 : Nat) : Int)) (by omega) (by omega)) rfl ?_;refine Z9 ?_;refine eQ O ?_;clear O;exact ⟨s + 1, by omega, hf, Wk.mk' ⟨rfl, rfl, rfl, rfl, rfl, rfl, rfl, rfl, rfl, rfl, rfl, rfl, trivial⟩ ⟨rfl, rfl, rfl, trivial⟩⟩
  have hf : s = n := by simp at hf; omega
  subst hf
  refine ax ?_;show AWP _ _ _ _ _ _;refine gQ fun _ O=>?_;refine Z9 ?_;refine Z9 ?_;refine ac rfl rfl (xw) rfl rfl rfl rfl ?_;refine aa rfl (x_o (i := i) (j := i) rfl rfl rfl rfl rfl hg (Nat.zero_add _)) rfl ?_;refine ak rfl (rV (qzW 1) rfl rfl rfl hg) rfl rfl rfl ?_;refine eQ O ?_;clear O;rw [EA B]
  have cN1 := ik (F (e i) (e i)) ((ok _ _ ei ei).mono rfl)
  rw [<- hBv] at cN1;refine gQ fun _ O=>?_;refine Z9 ?_;refine Z9 ?_;refine aa rfl (mN rfl rfl rfl rfl rfl ei) rfl ?_;refine Z7 ?_;refine Z9 ?_;refine aa rfl (x_v rfl rfl rfl rfl rfl ei) rfl ?_;refine Z7 ?_;refine ac rfl rfl (cN1) rfl rfl rfl rfl ?_;refine ay rfl rfl rfl rfl rfl (by rcases i with _|i <;> rfl) ?_;refine ak rfl rfl rfl rfl rfl ?_;refine eQ O ?_;clear O;refine ab ?_;refine gQ fun _ O=>?_;refine Z9 ?_;refine Z9 ?_;refine eQ O ?_;clear O;refine ae (aG (α := Nat) (fun j => mk 121 [(0, V1 (dMs (ba s s F))), (1, V1 (.sl (nmD s e))), (7, bU 200 1 i), (8, bU 201 4 i), (10, dI (e i)), (11, .val (.one (.own 26 4 0 s))), (13, .ptr 13 0), (17, V1 (.sl (nmD s e))), (18, dI s), (19, dI i), (49, dI i), (50, dI j)] [(13, some (.box (qzW (B i i - sm j fun t => LL B i t * LL B i t * DD B t)).cs)), (26, some (.arr 4 (aW s (rG B i j)))), (200, ca 1 es i), (201, ca 4 (aW i fun r => qzW (DD B r)) i)] []) (fun j => j <= i) (fun j => i - j) 0 ?_ (Nat.zero_le _) ?_)
  ·refine Wk.mk' ⟨rfl, rfl, rfl, rfl, rfl, rfl, rfl, rfl, rfl, rfl, rfl, rfl, trivial⟩ ⟨?_, rfl, rfl, rfl, trivial⟩;rw [uf]; rfl
  intro j hj
  have tr : ∀ t, t < i -> ql (LL B i t * LL B i t * DD B t) <= 196608 := fun t ht =>
   Nat.le_trans (aR (aR (qL t ht) (qL t ht)) (hS t (by omega) fun k hk => hI k (by omega)).1) (by decide)
  have qb : ∀ a b, a < s -> b < s -> ql (B a b) <= 65536 := fun a b ha hb => by rw [hBv]; exact (ok _ _ (he a ha) (he b hb)).ql rfl
  refine gQ fun _ O=>?_;refine Z6 ?_;refine eQ O ?_;clear O;refine ab ?_;refine aj rfl (fun hf => ?_) (fun hf => ?_)
  ·have hf : j < i := by simp at hf; omega
   obtain ⟨i0, hi0⟩ : ∃ i0, i = i0 + 1 := ⟨i - 1, by omega⟩
   have hjs : j < s := by omega
   have ej := he j hjs
   have dj := hI j hf
   obtain ⟨qDj, qLj⟩ := hS j hjs fun k hk => hI k (by omega)
   have cN2 := ik (F (e i) (e j)) ((ok _ _ ei ej).mono rfl)
   rw [<- hBv] at cN2
   have tx : ∀ t, t < j -> ql (LL B i t * LL B j t * DD B t) <= 196608 := fun t ht =>
    Nat.le_trans (aR (aR (qL t (by omega)) (qLj t ht)) (hS t (by omega) fun k hk => hI k (by omega)).1) (by decide)
   have hbx : ∀ k, k <= j -> ql (B i j - sm k fun t => LL B i t * LL B j t * DD B t) <= 4194304 := fun k hk =>
    Nat.le_trans (vU (qb i j hg hjs) k fun t ht => tx t (by omega)) (by
     have := Nat.mul_le_mul_right (196608 + 1) (show k <= 16 by omega)
     omega)
   have hbr : ql (B i i - sm j fun t => LL B i t * LL B i t * DD B t) <= 4194304 :=
    Nat.le_trans (vU (qb i i hg hg) j fun t ht => tr t (by omega)) (by
     have := Nat.mul_le_mul_right (196608 + 1) (show j <= 16 by omega)
     omega)
   have hlx : (B i j - sm j fun t => LL B i t * LL B j t * DD B t) = LL B i j * DD B j := (xe B hf (by grind)).symm
   have hr0 := pL (B i i) (fun t => LL B i t * LL B i t * DD B t) j (x := LL B i j * DD B j * LL B i j) (by grind)
   refine ag ?_;show AWP _ _ _ _ _ _;refine ab ?_;refine ae ?_
   subst hi0
   refine gQ fun _ O=>?_;refine Z9 ?_;refine Z8 ?_;refine eQ O ?_;clear O;refine aL tok mixed (A := [[], [], [], [0, 1], [], [], [], [4, 5], [0, 1, 2, 4, 5, 6], [0, 1, 2, 3, 4, 5, 6, 7], [0, 1, 2, 3, 4, 5, 6, 7, 8], [], []]) (an := [{}, {}, {}, {}, {}, {}, {}, {}, {}, {}, {}, { c := [63] }, {}]) rfl (by kernel_rfl) rfl fun _ O=>?_;refine Z9 ?_;refine Z9 ?_;refine aa rfl (mN rfl rfl rfl rfl rfl ei) rfl ?_;refine Z7 ?_;refine Z9 ?_;refine Z9 ?_;refine aa rfl (x_n rfl rfl rfl rfl rfl hjs) rfl ?_;refine Z7 ?_;refine aa rfl (x_v rfl rfl rfl rfl rfl ej) rfl ?_;refine Z7 ?_;refine ac rfl rfl (cN2) rfl rfl rfl rfl ?_;refine ay rfl rfl rfl rfl rfl rfl ?_;refine ak rfl rfl rfl rfl rfl ?_;refine eQ O ?_;clear O;refine ab ?_;refine gQ fun _ O=>?_;refine Z9 ?_;refine Z9 ?_;refine eQ O ?_;clear O;refine ae (aG (α := Nat) (fun k => mk 121 [(0, V1 (dMs (ba s s F))), (1, V1 (.sl (nmD s e))), (7, bU 200 1 (i0 + 1)), (8, bU 201 4 (i0 + 1)), (10, dI (e (i0 + 1))), (11, .val (.one (.own 26 4 0 s))), (13, .ptr 13 0), (14, dI j), (15, .ptr 15 0), (17, V1 (.sl (nmD s e))), (18, dI s), (19, dI (i0 + 1 : Nat)), (49, dI (i0 + 1 : Nat)), (50, dI j), (64, dI j), (65, dI k)] [(13, some (.box (qzW (B (i0 + 1) (i0 + 1) - sm j fun t => LL B (i0 + 1) t * LL B (i0 + 1) t * DD B t)).cs)), (15, some (.box (qzW (B (i0 + 1) j - sm k fun t => LL B (i0 + 1) t * LL B j t * DD B t)).cs)), (26, some (.arr 4 (aW s (rG B (i0 + 1) j)))), (200, ca 1 es (i0 + 1)), (201, ca 4 (aW (i0 + 1) fun r => qzW (DD B r)) (i0 + 1))] []) (fun k => k <= j) (fun k => j - k) 0 ?_ (Nat.zero_le _) ?_)
   ·refine Wk.mk' ⟨rfl, rfl, rfl, rfl, rfl, rfl, rfl, rfl, rfl, rfl, rfl, rfl, rfl, rfl, rfl, rfl, trivial⟩ ⟨rfl, ?_, rfl, rfl, rfl, trivial⟩;rw [uf]; rfl
   intro k hk
   refine gQ fun _ O=>?_;refine Z6 ?_;refine eQ O ?_;clear O;refine ab ?_;refine aj rfl (fun hc => ?_) (fun hc => ?_)
   ·have hc : k < j := by simp at hc; omega
    have qk := (hS k (by omega) fun k' hk' => hI k' (by omega)).1
    have cm := oo (qzW (LL B (i0 + 1) k)) (qzW (LL B j k)) (LL B (i0 + 1) k * LL B j k) ((aY (qL k (by omega))).mono rfl) ((aY (qLj k hc)).mono rfl) (by rw [bg, bg])
    have cl := ng (qzW (B (i0 + 1) j - sm k fun t => LL B (i0 + 1) t * LL B j t * DD B t)) (qzW (LL B (i0 + 1) k * LL B j k)) (qzW (DD B k)) (B (i0 + 1) j - sm (k + 1) fun t => LL B (i0 + 1) t * LL B j t * DD B t) ((aY (hbx k (by omega))).mono rfl) ((aY (aR (qL k (by omega)) (qLj k hc))).mono rfl) ((aY qk).mono rfl) (by rw [bg, bg, bg]; exact pL _ _ _ rfl)
    refine ag ?_;show AWP _ _ _ _ _ _;refine ab ?_;refine ae ?_;refine gQ fun _ O=>?_;refine Z9 ?_;refine Z8 ?_;refine eQ O ?_;clear O;refine bJ tok mixed (A := [[], [], [], [], [1, 2], [], [], [], [5, 6], [], [5, 6, 7], [5, 6, 7, 8, 9], [1, 2, 3, 5, 6, 7, 8, 9, 10], [], [], [], [13, 14], [1, 2, 3, 4, 5, 6, 7, 8, 9, 10, 11, 13, 14, 15], []]) (an := [{}, {}, {}, {}, {}, {}, {}, {}, {}, {}, {}, {}, {}, { c := [80] }, { c := [80] }, { c := [80] }, { c := [80] }, {}, {}]) rfl (by kernel_rfl) rfl fun _ O=>?_;refine Z7 ?_;refine Z9 ?_;refine Z9 ?_;refine aa rfl (x_o (i := k) (j := k) rfl rfl rfl rfl rfl (show k < s by omega) (Nat.zero_add _)) rfl ?_;refine aM rfl (qY rfl rfl rfl rfl (show k < s by omega) (if_pos hc)) rfl ?_;refine Z9 ?_;refine Z9 ?_;refine aa rfl (x_o (i := j) (j := j) rfl rfl rfl rfl rfl hf (Nat.zero_add _)) rfl ?_;refine aM rfl (l_o rfl rfl (g1 j hf) rfl rfl) rfl ?_;refine Z9 ?_;refine aa rfl (x_v rfl rfl rfl rfl rfl (show k < s by omega)) rfl ?_;refine Z7 ?_;refine ac rfl rfl (cm) rfl rfl rfl rfl ?_;refine Z9 ?_;refine Z9 ?_;refine aa rfl (x_o (i := k) (j := k) rfl rfl rfl rfl rfl (show k < i0 + 1 by omega) (Nat.zero_add _)) rfl ?_;refine aM rfl (qY rfl rfl rfl rfl (show k < i0 + 1 by omega) rfl) rfl ?_;refine ac rfl rfl (cl) rfl rfl rfl rfl ?_;refine ak rfl rfl rfl rfl rfl ?_;refine eQ O ?_;clear O;show AWP _ _ _ _ _ _;refine gR fun _ O=>?_;refine ai rfl (aF (c := ((k + 1 : Nat) : Int)) (by omega) (by omega)) rfl ?_;refine Z9 ?_;refine eQ O ?_;clear O;exact ⟨k + 1, by omega, hc, Wk.mk' ⟨rfl, rfl, rfl, rfl, rfl, rfl, rfl, rfl, rfl, rfl, rfl, rfl, rfl, rfl, rfl, rfl, trivial⟩ ⟨rfl, rfl, rfl, rfl, rfl, trivial⟩⟩
   have hc : k = j := by simp at hc; omega
   subst hc
   refine ax ?_;show AWP _ _ _ _ _ _;rw [hlx]
   have ox := aR (qL k hf) qDj
   have cd := xI (qzW (LL B (i0 + 1) k * DD B k)) (qzW (DD B k)) (LL B (i0 + 1) k) ((aY ox).mono rfl) ((aY qDj).mono rfl) (by rw [bg]; grind) (by rw [bg, bg]; grind)
   have cl := ng (qzW (B (i0 + 1) (i0 + 1) - sm k fun t => LL B (i0 + 1) t * LL B (i0 + 1) t * DD B t)) (qzW (LL B (i0 + 1) k * DD B k)) (qzW (LL B (i0 + 1) k)) (B (i0 + 1) (i0 + 1) - sm (k + 1) fun t => LL B (i0 + 1) t * LL B (i0 + 1) t * DD B t) ((aY hbr).mono rfl) ((aY ox).mono rfl) ((aY (qL k hf)).mono rfl) (by rw [bg, bg, bg]; exact hr0)
   refine aL tok mixed (A := [[], [], [], [], [], [], [3, 4], [3, 4, 5], [2, 3, 4, 5, 6], [2, 3, 4, 5, 6, 7], [2, 3, 4, 5, 6, 7], [], []]) (an := [{}, {}, {}, {}, {}, {}, {}, {}, {}, {}, {}, {}, {}]) rfl (by kernel_rfl) rfl fun _ O=>?_;refine Z9 ?_;refine Z9 ?_;refine Z7 ?_;refine Z9 ?_;refine Z9 ?_;refine aa rfl (x_o (i := k) (j := k) rfl rfl rfl rfl rfl hf (Nat.zero_add _)) rfl ?_;refine aM rfl (qY rfl rfl rfl rfl hf rfl) rfl ?_;refine ac rfl rfl (cd) rfl rfl rfl rfl ?_;refine Z9 ?_;refine aq rfl rfl rfl ?_;refine aq rfl rfl rfl ?_;refine aa rfl (x_o (i := k) (j := k) rfl rfl rfl rfl rfl hjs (Nat.zero_add _)) rfl ?_;refine ak rfl (rV (qzW (LL B (i0 + 1) k)) rfl rfl rfl hjs) rfl rfl rfl ?_;refine eQ O ?_;clear O;rw [Ey];refine bJ tok mixed (A := [[], [], [], [], [], [2, 3], [2, 3, 4], []]) (an := [{}, {}, {}, {}, {}, {}, {}, {}]) rfl (by kernel_rfl) rfl fun _ O=>?_;refine Z7 ?_;refine Z7 ?_;refine Z9 ?_;refine Z9 ?_;refine aa rfl (x_o (i := k) (j := k) rfl rfl rfl rfl rfl hjs (Nat.zero_add _)) rfl ?_;refine aM rfl (qY rfl rfl rfl rfl hjs (if_pos (Nat.lt_succ_self k))) rfl ?_;refine ac rfl rfl (cl) rfl rfl rfl rfl ?_;refine ak rfl rfl rfl rfl rfl ?_;refine eQ O ?_;clear O;show AWP _ _ _ _ _ _;refine gR fun _ O=>?_;refine ai rfl (aF (c := ((k + 1 : Nat) : Int)) (by omega) (by omega)) rfl ?_;refine Z9 ?_;refine eQ O ?_;clear O;exact ⟨k + 1, by omega, hf, Wk.mk' ⟨rfl, rfl, rfl, rfl, rfl, rfl, rfl, rfl, rfl, rfl, rfl, rfl, trivial⟩ ⟨rfl, rfl, rfl, rfl, trivial⟩⟩
  have hf : j = i := by simp at hf; omega
  subst hf
  refine ax ?_;show AWP _ _ _ _ _ _;rw [<- GC B j, Ez]
  have cs := pK (qzW (DD B j)) ((aY qD).mono rfl)
  rw [bg] at cs;refine ab ?_;refine gQ fun _ O=>?_;refine Z7 ?_;refine ac rfl rfl (cs) rfl rfl rfl rfl ?_;refine Z6 ?_;refine eQ O ?_;clear O;refine aj rfl (fun hd => ?_) (fun hd => ?_)
  ·have hd : ¬ 0 < DD B j := vW.1 (of_decide_eq_true hd)
   have ef : mB B s = ([], [], false) := by rw [mB, if_neg]; simp only [l6, decide_eq_true_eq]; exact fun h => hd (h j hg)
   rw [ef];refine gQ fun _ O=>?_;refine Z8 ?_;refine Z8 ?_;refine Z8 ?_;refine eQ O ?_;clear O;exact al aP
  ·have hd : 0 < DD B j := by
    have := of_decide_eq_false hd
    exact Classical.byContradiction fun h => this (vW.2 h)
   refine ag ?_;show AWP _ _ _ _ _ _
   rcases j with _ | j
   ·refine d3 [0, 1, 7, 8, 11, 13, 17, 18, 19] [13, 26, 200, 201] 26 [(0, V1 (dMs (ba s s F))), (1, V1 (.sl (nmD s e))), (7, bU 200 1 (0)), (8, bU 201 4 (0)), (11, V1 (dRs (cf s fun c => qzW (LL B (0) c)))), (13, .ptr 13 0), (17, V1 (.sl (nmD s e))), (18, dI s), (19, dI (0 : Nat))] [(13, some (.box (qzW (DD B (0))).cs)), (200, ca 1 es (0)), (201, ca 4 (aW (0) fun r => qzW (DD B r)) (0))] rfl ?_ ⟨rfl, rfl, rfl, trivial⟩ ?_
    ·exact ⟨rfl, rfl, rfl, rfl, bG (jb s _).symm (by simp [cf]), rfl, rfl, rfl, rfl, trivial⟩
    refine bJ tok mixed (A := [[], [], [], [1], [], [], [], [0, 1, 2, 5], [4, 5, 6], []]) (an := [{}, {}, {}, {}, { c := [112, 113] }, { c := [112, 113] }, { c := [112, 113] }, {}, {}, {}]) rfl (by kernel_rfl) rfl fun _ O=>?_;refine Z9 ?_;refine Z9 ?_;refine aC rfl rfl rfl rfl ?_;refine aO rfl (dS rfl rfl rfl rfl rfl (by decide) (Nat.le_of_ble_eq_true rfl) rfl (by simp) rfl (by simp) (by simp)) rfl rfl rfl ?_;refine Z9 ?_;refine Z7 ?_;refine aC rfl rfl rfl rfl ?_;refine aO rfl (dS rfl rfl rfl rfl rfl (by decide) (Nat.le_of_ble_eq_true rfl) rfl (by simp) rfl (by simp) (by simp)) rfl rfl rfl ?_;refine Z8 ?_;refine Z8 ?_;refine eQ O ?_;clear O;refine AR [0, 1, 7, 8, 17, 18, 19] [113, 117] 113 200 [(0, V1 (dMs (ba s s F))), (1, V1 (.sl (nmD s e))), (7, bU 200 1 (0 + 1)), (8, bU 117 4 (0 + 1)), (17, V1 (.sl (nmD s e))), (18, dI s), (19, dI (0 : Nat))] [(200, ca 1 ((ba (0 + 1) s fun r c => qzW (LL B r c)).map cM) (0 + 1)), (117, ca 4 (aW (0 + 1) fun r => qzW (DD B r)) (0 + 1))] rfl rfl rfl ⟨rfl, rfl, ?_, ?_, rfl, rfl, rfl, trivial⟩ ⟨?_, ?_, trivial⟩ ?_
    ·show SV.val (.one (.own 200 1 0 _)) = _
     first
      | rfl
      | (rw [List.length_append, z1]; rfl)
    ·show SV.val (.one (.own 117 4 0 _)) = _
     first
      | rfl
      | (rw [List.length_append, z2]; rfl)
    ·first
      | (rw [<- n1, List.length_eq_zero_iff.1 z1]; rfl)
      | (rw [<- n1]; rfl)
    ·first
      | (rw [<- n2, List.length_eq_zero_iff.1 z2]; rfl)
      | (rw [<- n2]; rfl)
    show AWP _ _ _ _ _ _;refine gR fun _ O=>?_;refine ai rfl (aF (c := ((0 + 1 : Nat) : Int)) (by omega) (by omega)) rfl ?_;refine Z9 ?_;refine eQ O ?_;clear O;refine ⟨0 + 1, by omega, ⟨hg, fun k hk => ?_⟩, Wk.rn [0, 1, 7, 8, 17, 18, 19] [200, 117] 117 201 rfl rfl rfl ⟨rfl, rfl, rfl, rfl, rfl, rfl, rfl, trivial⟩ ⟨rfl, rfl, trivial⟩⟩
    by_cases e : k = 0
    ·rw [e]; exact hd
    ·exact hI k (by omega)
   ·refine d3 [0, 1, 7, 8, 11, 13, 17, 18, 19] [13, 26, 200, 201] 26 [(0, V1 (dMs (ba s s F))), (1, V1 (.sl (nmD s e))), (7, bU 200 1 (j + 1)), (8, bU 201 4 (j + 1)), (11, V1 (dRs (cf s fun c => qzW (LL B (j + 1) c)))), (13, .ptr 13 0), (17, V1 (.sl (nmD s e))), (18, dI s), (19, dI (j + 1 : Nat))] [(13, some (.box (qzW (DD B (j + 1))).cs)), (200, ca 1 es (j + 1)), (201, ca 4 (aW (j + 1) fun r => qzW (DD B r)) (j + 1))] rfl ?_ ⟨rfl, rfl, rfl, trivial⟩ ?_
    ·exact ⟨rfl, rfl, rfl, rfl, bG (jb s _).symm (by simp [cf]), rfl, rfl, rfl, rfl, trivial⟩
    refine bJ tok mixed (A := [[], [], [], [1], [], [], [], [0, 1, 2, 5], [4, 5, 6], []]) (an := [{}, {}, {}, {}, { c := [112, 113] }, { c := [112, 113] }, { c := [112, 113] }, {}, {}, {}]) rfl (by kernel_rfl) rfl fun _ O=>?_;refine Z9 ?_;refine Z9 ?_;refine aC rfl rfl rfl rfl ?_;refine aO rfl (jn rfl rfl rfl rfl rfl rfl (by decide) (Nat.le_of_ble_eq_true rfl) rfl (by simp) rfl rfl z1.symm (by simp <;> omega)) rfl rfl rfl ?_;refine Z9 ?_;refine Z7 ?_;refine aC rfl rfl rfl rfl ?_;refine aO rfl (jn rfl rfl rfl rfl rfl rfl (by decide) (Nat.le_of_ble_eq_true rfl) rfl (by simp) rfl rfl z2.symm (by simp <;> omega)) rfl rfl rfl ?_;refine Z8 ?_;refine Z8 ?_;refine eQ O ?_;clear O;refine AR [0, 1, 7, 8, 17, 18, 19] [113, 117] 113 200 [(0, V1 (dMs (ba s s F))), (1, V1 (.sl (nmD s e))), (7, bU 200 1 (j + 1 + 1)), (8, bU 117 4 (j + 1 + 1)), (17, V1 (.sl (nmD s e))), (18, dI s), (19, dI (j + 1 : Nat))] [(200, ca 1 ((ba (j + 1 + 1) s fun r c => qzW (LL B r c)).map cM) (j + 1 + 1)), (117, ca 4 (aW (j + 1 + 1) fun r => qzW (DD B r)) (j + 1 + 1))] rfl rfl rfl ⟨rfl, rfl, ?_, ?_, rfl, rfl, rfl, trivial⟩ ⟨?_, ?_, trivial⟩ ?_
    ·show SV.val (.one (.own 200 1 0 _)) = _
     first
      | rfl
      | (rw [List.length_append, z1]; rfl)
    ·show SV.val (.one (.own 117 4 0 _)) = _
     first
      | rfl
      | (rw [List.length_append, z2]; rfl)
    ·first
      | (rw [<- n1, List.length_eq_zero_iff.1 z1]; rfl)
      | (rw [<- n1]; rfl)
    ·first
      | (rw [<- n2, List.length_eq_zero_iff.1 z2]; rfl)
      | (rw [<- n2]; rfl)
    show AWP _ _ _ _ _ _;refine gR fun _ O=>?_;refine ai rfl (aF (c := ((j + 1 + 1 : Nat) : Int)) (by omega) (by omega)) rfl ?_;refine Z9 ?_;refine eQ O ?_;clear O;refine ⟨j + 1 + 1, by omega, ⟨hg, fun k hk => ?_⟩, Wk.rn [0, 1, 7, 8, 17, 18, 19] [200, 117] 117 201 rfl rfl rfl ⟨rfl, rfl, rfl, rfl, rfl, rfl, rfl, trivial⟩ ⟨rfl, rfl, trivial⟩⟩
    by_cases e : k = j + 1
    ·rw [e]; exact hd
    ·exact hI k (by omega)
 have hg : i = n := by simp at hg; omega
 subst hg
 refine ax ?_;show AWP _ _ _ _ _ _
 have ef : mB B i = (kj B i, kY B i, true) := by rw [mB, if_pos]; simp only [l6, decide_eq_true_eq]; exact hI
 rw [ef]
 rcases i with _ | i
 ·refine gQ fun _ O=>?_;refine Z9 ?_;refine Z9 ?_;refine Z8 ?_;refine Z8 ?_;refine Z8 ?_;refine eQ O ?_;clear O;exact al aP
 ·refine d3 [7, 8] [200, 201] 200 [(7, V1 (dMs (kj B (i + 1)))), (8, bU 201 4 (i + 1))] [(201, ca 4 (aW (i + 1) fun r => qzW (DD B r)) (i + 1))] rfl ?_ ⟨rfl, trivial⟩ ?_
  ·exact ⟨bG rfl (il _ _ _).symm, rfl, trivial⟩
  refine d3 [7, 8] [201] 201 [(7, V1 (dMs (kj B (i + 1)))), (8, V1 (dRs (kY B (i + 1))))] [] rfl ?_ trivial ?_
  ·exact ⟨rfl, bG (jb _ _).symm (by simp [kY, cf]), trivial⟩
  refine gQ fun _ O=>?_;refine Z9 ?_;refine Z9 ?_;refine Z8 ?_;refine Z8 ?_;refine Z8 ?_;refine eQ O ?_;clear O;exact al aP
end Go.Proofs.YtceacleokgoooaaGreatDoor

/- Systems of equations. No condition. -/
namespace Go.Proofs.YtceacleokgoooaaGreatDoor
attribute [local irreducible] aA

theorem FS {L : Nat -> Nat -> Rat} {b : Nat -> Rat} {n m : Nat} (hm : m < n) : bsx L b n n m = b m - sm n (fun j => if m < j then L j m * bsx L b n n j else 0) := by
 rw [lh L b (m := n) (s := n - m) (by omega) (by omega)]
 obtain ⟨s, hs⟩ : ∃ s, n - m = s + 1 := ⟨n - m - 1, by omega⟩
 rw [hs];simp only [bsx]
 rw [if_pos (by omega), ar (f := fun j => if m < j then L j m * bsx L b n s j else 0) (g := fun j => if m < j then L j m * bsx L b n n j else 0) (fun j hj => by
  by_cases h : m < j
  ·rw [if_pos h, if_pos h, lh L b (m := n) (s := s) (i := j) (by omega) (by omega)]
  ·rw [if_neg h, if_neg h])]
theorem sN {x y : Rat} {k l : Nat} (hx : ql x <= k) (hy : ql y <= l) : ql (x / y) <= k + l := by
 by_cases h : y = 0
 ·subst h
  have : x / 0 = 0 := by rw [Rat.div_def, Rat.inv_zero, Rat.mul_zero]
  rw [this]
  have h1 := xF x
  exact Nat.le_trans iY (by omega)
 ·have h1 := (CR hy).ql (k := l) (Nat.ble_eq_true_of_le (Nat.le_trans (xF y) hy))
  rw [Gl] at h1;rw [Rat.div_def];exact aR hx h1
def gN (b : List RW) (i : Nat) : Rat := (b.getD i eO).v
def bc (m : List (List RW)) (i j : Nat) : Rat := (mtv m i j).v
def Bw (B : Nat -> Nat -> Rat) (b : Nat -> Rat) (n : Nat) : List RW := cf n fun i => qzW (slv B b n i)
def mp (m : List (List RW)) (b : List RW) : List RW × Int :=
 if cp m = true /\ b.length = m.length then (if l6 (bc m) m.length then (Bw (bc m) (gN b) m.length, 0) else ([], 10)) else ([], 1)
def xr (B : Nat -> Nat -> Rat) (b : Nat -> Rat) (n : Nat) : Prop := (∀ i, i < n -> ql (fwv (LL B) b i) <= 655360) /\ ∀ i, i < n -> ql (slv B b n i) <= 65536
theorem DY {b : List RW} {n : Nat} (hn : b.length = n) : b = cf n fun i => b.getD i eO := by
 apply List.ext_getElem?
 intro i
 rcases Nat.lt_or_ge i n with hi | hi
 ·have : i < b.length := by omega
  simp [cf, hi, this]
 ·rw [List.getElem?_eq_none (by omega), List.getElem?_eq_none (by simp [cf]; omega)]
section
variable (B : Nat -> Nat -> Rat) (b : Nat -> Rat)
def fwG (i t : Nat) : RW := if t < i then qzW (fwv (LL B) b t) else eO
def fwR (i k t : Nat) : RW := if t < i then qzW (fwv (LL B) b t) else if t = i then qzW (b i - sm k fun j => LL B i j * fwv (LL B) b j) else eO
def dvG (i t : Nat) : RW := if t < i then qzW (fwv (LL B) b t / DD B t) else qzW (fwv (LL B) b t)
def bkG (n s t : Nat) : RW := if n <= t + s then qzW (slv B b n t) else qzW (fwv (LL B) b t / DD B t)
def bkF (n i j : Nat) : Rat := if i < j then LL B j i * slv B b n j else 0
def bkR (n i m t : Nat) : RW := if i < t then qzW (slv B b n t) else if t = i then qzW (fwv (LL B) b i / DD B i - sm m (bkF B b n i)) else qzW (fwv (LL B) b t / DD B t)
theorem fw0 (n : Nat) : List.replicate n eO.dc = aW n (fwG B b 0) := by rw [sC]; exact bn fun i _ => by simp [fwG]
theorem fw1 (n i : Nat) : aW n (jc (fwG B b i) i (qzW (b i))) = aW n (fwR B b i 0) := bn fun t _ => by
 simp only [jc, fwG, fwR]
 by_cases h : t = i
 ·rw [if_pos h, if_neg (by omega), if_pos h, uf]
 ·rw [if_neg h, if_neg h]
theorem fw2 (n i k : Nat) : aW n (jc (fwR B b i k) i (qzW (b i - sm (k + 1) fun j => LL B i j * fwv (LL B) b j))) = aW n (fwR B b i (k + 1)) := bn fun t _ => by
 simp only [jc, fwR]
 by_cases h : t = i
 ·rw [if_pos h, if_neg (by omega), if_pos h]
 ·rw [if_neg h, if_neg h, if_neg h]
theorem fw3 (n i : Nat) : aW n (fwR B b i i) = aW n (fwG B b (i + 1)) := bn fun t _ => by
 simp only [fwR, fwG];rw [<- ya]
 by_cases h : t < i
 ·rw [if_pos h, if_pos (by omega)]
 ·rw [if_neg h]
  by_cases h2 : t = i
  ·rw [if_pos h2, if_pos (by omega), h2]
  ·rw [if_neg h2, if_neg (by omega)]
theorem dv0 (n : Nat) : aW n (fwG B b n) = aW n (dvG B b 0) := bn fun t ht => by simp [fwG, dvG, ht]
theorem dv1 (n i : Nat) : aW n (jc (dvG B b i) i (qzW (fwv (LL B) b i / DD B i))) = aW n (dvG B b (i + 1)) := bn fun t _ => by
 simp only [jc, dvG]
 by_cases h : t = i
 ·rw [if_pos h, if_pos (by omega), h]
 ·rw [if_neg h]
  by_cases h2 : t < i
  ·rw [if_pos h2, if_pos (by omega)]
  ·rw [if_neg h2, if_neg (by omega)]
theorem bk0 (n : Nat) : aW n (dvG B b n) = aW n (bkG B b n 0) := bn fun t ht => by
 simp only [dvG, bkG];rw [if_pos ht, if_neg (by omega)]
theorem DH (n i : Nat) : sm (i + 1) (bkF B b n i) = 0 := iD fun j hj => by simp only [bkF]; rw [if_neg (by omega)]
theorem bk1 {n i s : Nat} (h : n = i + s + 1) : aW n (bkG B b n s) = aW n (bkR B b n i (i + 1)) := bn fun t ht => by
 simp only [bkG, bkR];rw [DH]
 by_cases h1 : i < t
 ·rw [if_pos (by omega), if_pos h1]
 ·rw [if_neg (by omega), if_neg h1]
  by_cases h2 : t = i
  ·rw [if_pos h2, h2]; congr 1; grind
  ·rw [if_neg h2]
theorem bk2 (n i m : Nat) : aW n (jc (bkR B b n i m) i (qzW (fwv (LL B) b i / DD B i - sm (m + 1) (bkF B b n i)))) = aW n (bkR B b n i (m + 1)) := bn fun t _ => by
 simp only [jc, bkR]
 by_cases h : t = i
 ·rw [if_pos h, if_neg (by omega), if_pos h]
 ·rw [if_neg h, if_neg h, if_neg h]
theorem bk3 {n i s : Nat} (h : n = i + s + 1) : aW n (bkR B b n i n) = aW n (bkG B b n (s + 1)) := bn fun t ht => by
 have e : slv B b n i = fwv (LL B) b i / DD B i - sm n (bkF B b n i) := FS (L := LL B) (b := fun k => fwv (LL B) b k / DD B k) (show i < n by omega)
 simp only [bkG, bkR];rw [<- e]
 by_cases h1 : i < t
 ·rw [if_pos h1, if_pos (by omega)]
 ·rw [if_neg h1]
  by_cases h2 : t = i
  ·rw [if_pos h2, if_pos (by omega), h2]
  ·rw [if_neg h2, if_neg (by omega)]
theorem bk4 (n : Nat) : aW n (bkG B b n n) = aW n (fun i => qzW (slv B b n i)) := bn fun t _ => by
 simp only [bkG]; rw [if_pos (by omega)]
end

set_option maxHeartbeats 1000000 in
theorem BH (m : List (List RW)) (b : List RW) (hl : m.length <= 9223372036854775806) (hlb : b.length <= 9223372036854775806) (hr : ∀ r ∈ m, r.length <= 9223372036854775806) (ok : okM 65536 m) (ob : ∀ x ∈ b, x.OK 65536)
  (hF : cp m = true -> b.length = m.length -> yc (bc m) m.length /\ (l6 (bc m) m.length = true -> xr (bc m) (gN b) m.length)) :
  Con Tryz.prog 47 [V1 (dMs m), V1 (dRs b)] { v := .tup [.one (.d (dRs (mp m b).1)), .one (.d (lI (mp m b).2))] } := by
 refine Z3 Tryz.func47 ?_
 intro w0 X
 rw [ap _ _ [(0, V1 (dMs m)), (1, V1 (dRs b))] rfl rfl];refine gQ fun _ O=>?_;refine Z8 ?_;refine Z8 ?_;refine eQ O ?_;clear O;refine ab ?_;refine bD (α := Bool) (fun c => mk 133 [(0, V1 (dMs m)), (1, V1 (dRs b)), (24, dB c)] [] []) (fun c => c = !(cp m && decide (b.length = m.length))) ?_ ?_
 ·refine c6 fun _ O=>?_;refine ah tok rfl ?_;refine Z9 ?_;refine am ?_;refine ah tok rfl ?_;refine ac rfl rfl (nf m hl hr ok) rfl rfl rfl rfl ?_;refine am ?_;refine ah tok rfl ?_;refine dJ rfl rfl rfl ?_;refine am ?_;refine ah tok rfl ?_;refine Z9 ?_;refine am ?_;refine da (fun h0 => ?_) (fun h0 => ?_)
  ·refine aB rfl rfl ?_;refine aB rfl rfl ?_;refine aB rfl rfl ?_;refine aB rfl rfl ?_;refine aB rfl rfl ?_;refine ah tok rfl ?_;refine Z4 ?_;refine am ?_;refine aN rfl (O _ ?_); clear O;exact ⟨_, (by simp only [Bool.not_eq_true', Bool.not_eq_false'] at h0; rw [h0]; first|rfl|(rw [Bool.eq_iff_iff]; simp only [Bool.true_and, bne_iff_ne, ne_eq, Bool.not_eq_true', decide_eq_false_iff_not]; omega)), Wk.mk' ⟨rfl, rfl, rfl, trivial⟩ trivial⟩
  ·refine ah tok rfl ?_;refine Z9 ?_;refine am ?_;refine ah tok rfl ?_;refine az rfl (bZ RW.dc rfl rfl) rfl ?_;refine am ?_;refine ah tok rfl ?_;refine Z9 ?_;refine am ?_;refine ah tok rfl ?_;refine az rfl (bZ cM rfl rfl) rfl ?_;refine am ?_;refine ah tok rfl ?_;refine Z6 ?_;refine am ?_;refine ah tok rfl ?_;refine Z4 ?_;refine am ?_;refine aN rfl (O _ ?_); clear O;exact ⟨_, (by simp only [Bool.not_eq_true', Bool.not_eq_false'] at h0; rw [h0]; first|rfl|(rw [Bool.eq_iff_iff]; simp only [Bool.true_and, bne_iff_ne, ne_eq, Bool.not_eq_true', decide_eq_false_iff_not]; omega)), Wk.mk' ⟨rfl, rfl, rfl, trivial⟩ trivial⟩
 rintro c rfl
 refine aj rfl (fun hc => ?_) (fun hc => ?_)
 ·have e : mp m b = ([], 1) := by rw [mp, if_neg]; intro h; simp [h.1, h.2] at hc
  rw [e];refine gQ fun _ O=>?_;refine Z8 ?_;refine Z8 ?_;refine eQ O ?_;clear O;exact al aP
 have hc : cp m = true /\ b.length = m.length := by simpa using hc
 obtain ⟨hF1, hF2⟩ := hF hc.1 hc.2
 rw [mp, if_pos hc]
 have hV := of_decide_eq_true hc.1
 obtain ⟨hv1, hv2, _⟩ := hV
 obtain ⟨n, hn⟩ : ∃ n, m.length = n := ⟨_, rfl⟩
 have hm : m = ba n n (mtv m) := nF hn (fun r hr => (hv2 r hr).trans hn)
 have hbl : b.length = n := hc.2.trans hn
 have oF : ∀ i j, i < n -> j < n -> (mtv m i j).OK 65536 := fun i j hi hj => by rw [hm] at ok; exact lJ ok hi hj
 obtain ⟨G, hG⟩ : ∃ G : Nat -> RW, G = fun i => b.getD i eO := ⟨_, rfl⟩
 have hb : b = cf n G := by rw [hG]; exact DY hbl
 have oG : ∀ i, i < n -> (G i).OK 65536 := fun i hi => by
  have hib : i < b.length := by omega
  have : G i = b[i] := by rw [hG]; simp [hib]
  rw [this]; exact ob _ (List.getElem_mem hib)
 have hbv : ∀ i, gN b i = (G i).v := fun i => by rw [hG]; rfl
 rw [hn] at hF1 hF2 hv1
 have cF := sA n (mtv m) (fun i => i) hv1 (fun i hi => hi) oF hF1
 rw [<- hm] at cF
 have eB : iG (mtv m) (fun i => i) = bc m := rfl
 rw [eB] at cF;generalize gN b = bv at hF2 hbv ⊢;generalize bc m = B at cF hF1 hF2 ⊢;refine ag ?_;show AWP _ _ _ _ _ _;rw [hn];refine gQ fun _ O=>?_;refine Z9 ?_;refine Z9 ?_;refine az rfl (jD (n := n) rfl rfl (by rw [List.length_map]; exact hn)) rfl ?_;refine ac rfl rfl (vK n (by omega)) rfl rfl rfl rfl ?_;refine ac rfl rfl (cF) rfl rfl rfl rfl ?_;refine Z9 ?_;refine aq rfl rfl rfl ?_;refine aq rfl rfl rfl ?_;refine aq rfl rfl rfl ?_;refine Z8 ?_;refine Z8 ?_;refine Z8 ?_;refine eQ O ?_;clear O
 cases hp : l6 B n with
 | false =>
  have e : mB B n = ([], [], false) := by rw [mB, hp]; rfl
  rw [e];refine ab ?_;refine gQ fun _ O=>?_;refine Z9 ?_;refine dJ rfl rfl rfl ?_;refine eQ O ?_;clear O;refine aj rfl (fun _ => ?_) (fun h => by cases h);refine gQ fun _ O=>?_;refine Z8 ?_;refine Z8 ?_;refine eQ O ?_;clear O;exact al aP
 | true =>
 obtain ⟨hS1, hS2⟩ := hF2 hp
 have hD := of_decide_eq_true hp
 have e : mB B n = (kj B n, kY B n, true) := by rw [mB, hp]; rfl
 have qL : ∀ i j, i < n -> j < i -> ql (LL B i j) <= 65536 := fun i j hi hj => (hF1 i hi fun k hk => hD k (by omega)).2 j hj
 have qD : ∀ i, i < n -> ql (DD B i) <= 65536 := fun i hi => (hF1 i hi fun k hk => hD k (by omega)).1
 rw [e];refine ab ?_;refine gQ fun _ O=>?_;refine Z9 ?_;refine dJ rfl rfl rfl ?_;refine eQ O ?_;clear O;refine aj rfl (fun h => by cases h) (fun _ => ?_);refine ag ?_;show AWP _ _ _ _ _ _;rw [hb];refine gQ fun _ O=>?_;refine Z9 ?_;refine az rfl (wG rfl rfl) rfl ?_;refine bm (sz := _) (es := _) (f := _) (v := _) rfl (wy (l := n) rfl rfl rfl rfl rfl (Nat.le_of_ble_eq_true rfl) (by decide) rfl rfl (by omega)) rfl rfl ?_;refine Z8 ?_;refine eQ O ?_;clear O;refine ab ?_;refine gQ fun _ O=>?_;refine Z9 ?_;refine az rfl rfl rfl ?_;refine Z9 ?_;refine eQ O ?_;clear O;refine ae (aG (α := Nat) (fun i => mk 133 [(1, V1 (dRs (cf n G))), (6, V1 (dMs (kj B n))), (7, V1 (dRs (kY B n))), (9, .val (.one (.own 38 4 0 n))), (40, dI n), (41, dI i)] [(38, some (.arr 4 (aW n (fwG B bv i))))] []) (fun i => i <= n) (fun i => n - i) 0 ?_ (Nat.zero_le _) ?_)
 ·exact Wk.mk' ⟨rfl, rfl, rfl, rfl, rfl, rfl, trivial⟩ ⟨congrArg (fun x => some (OO.arr 4 x)) (fw0 B bv n), trivial⟩
 intro i hi
 refine gQ fun _ O=>?_;refine Z6 ?_;refine eQ O ?_;clear O;refine ab ?_;refine aj rfl (fun hg => ?_) (fun hg => ?_)
 ·have hg : i < n := by simp at hg; omega
  have c1 := ik (G i) ((oG i hg).mono rfl)
  have qb := (oG i hg).ql rfl
  rw [<- hbv] at c1 qb
  have tf : ∀ j, j < i -> ql (LL B i j * fwv (LL B) bv j) <= 720896 := fun j hj => Nat.le_trans (aR (qL i j hg hj) (hS1 j (by omega))) (by decide)
  have qx : ∀ k, k <= i -> ql (bv i - sm k fun j => LL B i j * fwv (LL B) bv j) <= 16777215 := fun k hk => Nat.le_trans (vU qb k fun t ht => tf t (by omega)) (by
   have := Nat.mul_le_mul_right (720896 + 1) (show k <= 16 by omega)
   omega)
  refine ag ?_;show AWP _ _ _ _ _ _;refine ab ?_;refine ae ?_;refine gQ fun _ O=>?_;refine Z9 ?_;refine Z8 ?_;refine eQ O ?_;clear O;refine gQ fun _ O=>?_;refine Z9 ?_;refine Z9 ?_;refine Z9 ?_;refine Z9 ?_;refine aa rfl (x_v rfl rfl rfl rfl rfl hg) rfl ?_;refine Z7 ?_;refine ac rfl rfl (c1) rfl rfl rfl rfl ?_;refine aa rfl (x_o (i := i) (j := i) rfl rfl rfl rfl rfl hg (Nat.zero_add _)) rfl ?_;refine ak rfl (rV (qzW (bv i)) rfl rfl rfl hg) rfl rfl rfl ?_;refine eQ O ?_;clear O;rw [fw1];refine gQ fun _ O=>?_;refine Z9 ?_;refine Z9 ?_;refine eQ O ?_;clear O;refine ae (aG (α := Nat) (fun k => mk 133 [(1, V1 (dRs (cf n G))), (6, V1 (dMs (kj B n))), (7, V1 (dRs (kY B n))), (9, .val (.one (.own 38 4 0 n))), (10, dI i), (40, dI n), (41, dI i), (52, dI i), (53, dI k)] [(38, some (.arr 4 (aW n (fwR B bv i k))))] []) (fun k => k <= i) (fun k => i - k) 0 ?_ (Nat.zero_le _) ?_)
  ·exact Wk.mk' ⟨rfl, rfl, rfl, rfl, rfl, rfl, rfl, rfl, rfl, trivial⟩ ⟨rfl, trivial⟩
  intro k hk
  refine gQ fun _ O=>?_;refine Z6 ?_;refine eQ O ?_;clear O;refine ab ?_;refine aj rfl (fun hf => ?_) (fun hf => ?_)
  ·have hf : k < i := by simp at hf; omega
   have cl := ng (qzW (bv i - sm k fun j => LL B i j * fwv (LL B) bv j)) (qzW (LL B i k)) (qzW (fwv (LL B) bv k)) (bv i - sm (k + 1) fun j => LL B i j * fwv (LL B) bv j) (aY (qx k hk)) ((aY (qL i k hg hf)).mono rfl) ((aY (hS1 k (by omega))).mono rfl) (by rw [bg, bg, bg]; exact pL _ _ _ rfl)
   refine ag ?_;show AWP _ _ _ _ _ _;refine ab ?_;refine ae ?_;refine gQ fun _ O=>?_;refine Z9 ?_;refine Z8 ?_;refine eQ O ?_;clear O;refine bJ tok mixed (A := [[], [], [], [], [], [2, 3], [], [], [], [6, 7], [], [6, 7, 8], [6, 7, 8, 9, 10], [], [], [], [13, 14], [2, 3, 4, 6, 7, 8, 9, 10, 11, 13, 14, 15], [], []]) (an := [{}, {}, {}, {}, {}, {}, {}, {}, {}, {}, {}, {}, {}, {}, {}, {}, {}, {}, {}, {}]) rfl (by kernel_rfl) rfl fun _ O=>?_;refine Z9 ?_;refine Z9 ?_;refine Z9 ?_;refine Z9 ?_;refine aa rfl (x_o (i := i) (j := i) rfl rfl rfl rfl rfl hg (Nat.zero_add _)) rfl ?_;refine aM rfl (qY (x := qzW (bv i - sm k fun j => LL B i j * fwv (LL B) bv j)) rfl rfl rfl rfl hg (by simp [fwR])) rfl ?_;refine Z9 ?_;refine Z9 ?_;refine aa rfl (mN rfl rfl rfl rfl rfl hg) rfl ?_;refine Z7 ?_;refine Z9 ?_;refine aa rfl (x_v rfl rfl rfl rfl rfl (show k < n by omega)) rfl ?_;refine Z7 ?_;refine Z9 ?_;refine Z9 ?_;refine aa rfl (x_o (i := k) (j := k) rfl rfl rfl rfl rfl (show k < n by omega) (Nat.zero_add _)) rfl ?_;refine aM rfl (qY (x := qzW (fwv (LL B) bv k)) rfl rfl rfl rfl (show k < n by omega) (if_pos hf)) rfl ?_;refine ac rfl rfl (cl) rfl rfl rfl rfl ?_;refine aa rfl (x_o (i := i) (j := i) rfl rfl rfl rfl rfl hg (Nat.zero_add _)) rfl ?_;refine ak rfl (rV (qzW (bv i - sm (k + 1) fun j => LL B i j * fwv (LL B) bv j)) rfl rfl rfl hg) rfl rfl rfl ?_;refine eQ O ?_;clear O;rw [fw2];show AWP _ _ _ _ _ _;refine gR fun _ O=>?_;refine ai rfl (aF (c := ((k + 1 : Nat) : Int)) (by omega) (by omega)) rfl ?_;refine Z9 ?_;refine eQ O ?_;clear O;exact ⟨k + 1, by omega, hf, Wk.mk' ⟨rfl, rfl, rfl, rfl, rfl, rfl, rfl, rfl, rfl, trivial⟩ ⟨rfl, trivial⟩⟩
  have hf : k = i := by simp at hf; omega
  subst hf
  refine ax ?_;show AWP _ _ _ _ _ _;rw [fw3];refine gR fun _ O=>?_;refine ai rfl (aF (c := ((k + 1 : Nat) : Int)) (by omega) (by omega)) rfl ?_;refine Z9 ?_;refine eQ O ?_;clear O;exact ⟨k + 1, by omega, hg, Wk.mk' ⟨rfl, rfl, rfl, rfl, rfl, rfl, trivial⟩ ⟨rfl, trivial⟩⟩
 have hg : i = n := by simp at hg; omega
 subst hg
 refine ax ?_;show AWP _ _ _ _ _ _;rw [dv0];refine ab ?_;refine gQ fun _ O=>?_;refine Z9 ?_;refine az rfl rfl rfl ?_;refine Z9 ?_;refine eQ O ?_;clear O;refine ae (aG (α := Nat) (fun k => mk 133 [(6, V1 (dMs (kj B i))), (7, V1 (dRs (kY B i))), (9, .val (.one (.own 38 4 0 i))), (78, dI i), (79, dI k)] [(38, some (.arr 4 (aW i (dvG B bv k))))] []) (fun k => k <= i) (fun k => i - k) 0 ?_ (Nat.zero_le _) ?_)
 ·exact Wk.mk' ⟨rfl, rfl, rfl, rfl, rfl, trivial⟩ ⟨rfl, trivial⟩
 intro k hk
 refine gQ fun _ O=>?_;refine Z6 ?_;refine eQ O ?_;clear O;refine ab ?_;refine aj rfl (fun hf => ?_) (fun hf => ?_)
 ·have hf : k < i := by simp at hf; omega
  have dk := hD k hf
  have cd := xI (qzW (fwv (LL B) bv k)) (qzW (DD B k)) (fwv (LL B) bv k / DD B k) ((aY (hS1 k hf)).mono rfl) ((aY (qD k hf)).mono rfl) (by rw [bg]; grind) (by rw [bg, bg])
  refine ag ?_;show AWP _ _ _ _ _ _;refine ab ?_;refine ae ?_;refine gQ fun _ O=>?_;refine Z9 ?_;refine Z8 ?_;refine eQ O ?_;clear O;refine bJ tok mixed (A := [[], [], [], [], [], [2, 3], [], [], [], [6, 7], [2, 3, 4, 6, 7, 8], [2, 3, 4, 5, 6, 7, 8, 9], [2, 3, 4, 5, 6, 7, 8, 9, 10], [2, 3, 4, 5, 6, 7, 8, 9, 10], [], []]) (an := [{}, {}, {}, {}, {}, {}, {}, {}, {}, {}, {}, {}, {}, {}, {}, {}]) rfl (by kernel_rfl) rfl fun _ O=>?_;refine Z9 ?_;refine Z9 ?_;refine Z9 ?_;refine Z9 ?_;refine aa rfl (x_o (i := k) (j := k) rfl rfl rfl rfl rfl hf (Nat.zero_add _)) rfl ?_;refine aM rfl (qY (x := qzW (fwv (LL B) bv k)) rfl rfl rfl rfl hf (if_neg (Nat.lt_irrefl k))) rfl ?_;refine Z9 ?_;refine Z9 ?_;refine aa rfl (x_v rfl rfl rfl rfl rfl hf) rfl ?_;refine Z7 ?_;refine ac rfl rfl (cd) rfl rfl rfl rfl ?_;refine Z9 ?_;refine aq rfl rfl rfl ?_;refine aq rfl rfl rfl ?_;refine aa rfl (x_o (i := k) (j := k) rfl rfl rfl rfl rfl hf (Nat.zero_add _)) rfl ?_;refine ak rfl (rV (qzW (fwv (LL B) bv k / DD B k)) rfl rfl rfl hf) rfl rfl rfl ?_;refine eQ O ?_;clear O;rw [dv1];show AWP _ _ _ _ _ _;refine gR fun _ O=>?_;refine ai rfl (aF (c := ((k + 1 : Nat) : Int)) (by omega) (by omega)) rfl ?_;refine Z9 ?_;refine eQ O ?_;clear O;exact ⟨k + 1, by omega, hf, Wk.mk' ⟨rfl, rfl, rfl, rfl, rfl, trivial⟩ ⟨rfl, trivial⟩⟩
 have hf : k = i := by simp at hf; omega
 subst hf
 refine ax ?_;show AWP _ _ _ _ _ _;rw [bk0]
 have qc : ∀ i, i < k -> ql (fwv (LL B) bv i / DD B i) <= 720896 := fun i hi => sN (hS1 i hi) (qD i hi)
 refine ab ?_;refine gQ fun _ O=>?_;refine Z9 ?_;refine az rfl rfl rfl ?_;refine ai rfl (cJ (c := (k : Int) - 1 - (0 : Nat)) (by omega) (by omega)) rfl ?_;refine Z8 ?_;refine eQ O ?_;clear O;refine ae (aG (α := Nat) (fun s => mk 133 [(6, V1 (dMs (kj B k))), (9, .val (.one (.own 38 4 0 k))), (13, dI ((k : Int) - 1 - s))] [(38, some (.arr 4 (aW k (bkG B bv k s))))] []) (fun s => s <= k) (fun s => k - s) 0 ?_ (Nat.zero_le _) ?_)
 ·exact Wk.mk' ⟨rfl, rfl, rfl, trivial⟩ ⟨rfl, trivial⟩
 intro s hs
 refine ab ?_;refine gQ fun _ O=>?_;refine Z9 ?_;refine Z6 ?_;refine eQ O ?_;clear O;refine aj rfl (fun hd => ?_) (fun hd => ?_)
 ·obtain ⟨j, hj⟩ : ∃ j, k = j + s + 1 := ⟨k - s - 1, by simp at hd; omega⟩
  have hjk : j < k := by omega
  have ej : (k : Int) - 1 - s = (j : Int) := by omega
  rw [ej, bk1 B bv hj]
  have tg : ∀ t, t < k -> ql (bkF B bv k j t) <= 131072 := fun t ht => by
   simp only [bkF]; split
   ·exact Nat.le_trans (aR (qL t j ht (by omega)) (hS2 t ht)) (by decide)
   ·exact Nat.le_trans iY (by decide)
  have qx : ∀ p, p <= k -> ql (fwv (LL B) bv j / DD B j - sm p (bkF B bv k j)) <= 16777215 := fun p hp => Nat.le_trans (vU (qc j hjk) p fun t ht => tg t (by omega)) (by
   have := Nat.mul_le_mul_right (131072 + 1) (show p <= 16 by omega)
   omega)
  refine ag ?_;show AWP _ _ _ _ _ _;refine ab ?_;refine ae ?_;refine gQ fun _ O=>?_;refine Z9 ?_;refine ai rfl (aF (c := ((j + 1 : Nat) : Int)) (by omega) (by omega)) rfl ?_;refine Z8 ?_;refine eQ O ?_;clear O;refine ae (aG (α := Nat) (fun p => mk 133 [(6, V1 (dMs (kj B k))), (9, .val (.one (.own 38 4 0 k))), (13, dI j), (14, dI p)] [(38, some (.arr 4 (aW k (bkR B bv k j p))))] []) (fun p => j + 1 <= p /\ p <= k) (fun p => k - p) (j + 1) ?_ ⟨Nat.le_refl _, hjk⟩ ?_)
  ·exact Wk.mk' ⟨rfl, rfl, rfl, rfl, trivial⟩ ⟨rfl, trivial⟩
  rintro p ⟨hp1, hp2⟩
  refine ab ?_;refine gQ fun _ O=>?_;refine Z9 ?_;refine Z9 ?_;refine az rfl rfl rfl ?_;refine Z6 ?_;refine eQ O ?_;clear O;refine aj rfl (fun hx => ?_) (fun hx => ?_)
  ·have hx : p < k := by simp at hx; omega
   have cl := ng (qzW (fwv (LL B) bv j / DD B j - sm p (bkF B bv k j))) (qzW (LL B p j)) (qzW (slv B bv k p)) (fwv (LL B) bv j / DD B j - sm (p + 1) (bkF B bv k j)) (aY (qx p hp2)) ((aY (qL p j hx (by omega))).mono rfl) ((aY (hS2 p hx)).mono rfl) (by rw [bg, bg, bg]; exact pL _ _ _ (if_pos (by omega)))
   refine ag ?_;show AWP _ _ _ _ _ _;refine ab ?_;refine ae ?_;refine bJ tok mixed (A := [[], [], [], [], [], [2, 3], [], [], [], [6, 7], [], [6, 7, 8], [6, 7, 8, 9, 10], [], [], [], [13, 14], [2, 3, 4, 6, 7, 8, 9, 10, 11, 13, 14, 15], [], []]) (an := [{}, {}, {}, {}, {}, {}, {}, {}, {}, {}, {}, {}, {}, {}, {}, {}, {}, {}, {}, {}]) rfl (by kernel_rfl) rfl fun _ O=>?_;refine Z9 ?_;refine Z9 ?_;refine Z9 ?_;refine Z9 ?_;refine aa rfl (x_o (i := j) (j := j) rfl rfl rfl rfl rfl hjk (Nat.zero_add _)) rfl ?_;refine aM rfl (qY (x := qzW (fwv (LL B) bv j / DD B j - sm p (bkF B bv k j))) rfl rfl rfl rfl hjk (by simp [bkR])) rfl ?_;refine Z9 ?_;refine Z9 ?_;refine aa rfl (mN rfl rfl rfl rfl rfl hx) rfl ?_;refine Z7 ?_;refine Z9 ?_;refine aa rfl (x_v rfl rfl rfl rfl rfl hjk) rfl ?_;refine Z7 ?_;refine Z9 ?_;refine Z9 ?_;refine aa rfl (x_o (i := p) (j := p) rfl rfl rfl rfl rfl hx (Nat.zero_add _)) rfl ?_;refine aM rfl (qY (x := qzW (slv B bv k p)) rfl rfl rfl rfl hx (if_pos (by omega))) rfl ?_;refine ac rfl rfl (cl) rfl rfl rfl rfl ?_;refine aa rfl (x_o (i := j) (j := j) rfl rfl rfl rfl rfl hjk (Nat.zero_add _)) rfl ?_;refine ak rfl (rV (qzW (fwv (LL B) bv j / DD B j - sm (p + 1) (bkF B bv k j))) rfl rfl rfl hjk) rfl rfl rfl ?_;refine eQ O ?_;clear O;rw [bk2];show AWP _ _ _ _ _ _;refine gR fun _ O=>?_;refine Z9 ?_;refine ai rfl (aF (c := ((p + 1 : Nat) : Int)) (by omega) (by omega)) rfl ?_;refine Z8 ?_;refine eQ O ?_;clear O;exact ⟨p + 1, by omega, ⟨by omega, hx⟩, Wk.mk' ⟨rfl, rfl, rfl, rfl, trivial⟩ ⟨rfl, trivial⟩⟩
  have hx : p = k := by simp at hx; omega
  subst hx
  refine ax ?_;show AWP _ _ _ _ _ _;rw [bk3 B bv hj];refine gR fun _ O=>?_;refine Z9 ?_;refine ai rfl (cJ (c := (p : Int) - 1 - (s + 1 : Nat)) (by omega) (by omega)) rfl ?_;refine Z8 ?_;refine eQ O ?_;clear O;exact ⟨s + 1, by omega, by omega, Wk.mk' ⟨rfl, rfl, rfl, trivial⟩ ⟨rfl, trivial⟩⟩
 have hd : s = k := by simp at hd; omega
 subst hd
 refine ax ?_;show AWP _ _ _ _ _ _;rw [bk4];refine d3 [9] [38] 38 [(9, V1 (dRs (Bw B bv s)))] [] rfl ?_ trivial ?_
 ·exact ⟨bG (jb _ _).symm (by simp [Bw, cf]), trivial⟩
 rw [if_pos rfl];refine gQ fun _ O=>?_;refine Z9 ?_;refine Z8 ?_;refine Z8 ?_;refine eQ O ?_;clear O;exact al aP
end Go.Proofs.YtceacleokgoooaaGreatDoor

/- Arrays of own arrays whose rows are exchanged. No condition. -/
namespace Go.Proofs.YtceacleokgoooaaGreatDoor
open Go.RowKit

def gP (B sz len n : Nat) (σ : Nat -> Nat) : List SC := (List.range n).map fun r => .own (B + σ r) sz 0 len
theorem eZ (B sz len n : Nat) (σ : Nat -> Nat) : (gP B sz len n σ).length = n := by simp [gP]
theorem dV {B sz len n r : Nat} {σ : Nat -> Nat} (h : r < n) : (gP B sz len n σ)[r]? = some (.own (B + σ r) sz 0 len) := by simp [gP, h]
theorem o5 {B sz len n d : Nat} {σ : Nat -> Nat} (hd : d < B) : (gP B sz len n σ).all (SC.noRef d) = true := by
 rw [List.all_eq_true]
 intro c hc
 obtain ⟨i, hi, rfl⟩ := List.mem_map.1 hc
 simp only [SC.noRef, bne_iff_ne, ne_eq]; omega
theorem permC_congr {B sz len n : Nat} {σ τ : Nat -> Nat} (h : ∀ r, r < n -> σ r = τ r) : gP B sz len n σ = gP B sz len n τ := List.map_congr_left fun r hr => by rw [h r (List.mem_range.1 hr)]
theorem Aj {B sz len n i k : Nat} {σ τ : Nat -> Nat} (h1 : τ i = σ k) (h2 : τ k = σ i) (h3 : ∀ r, r ≠ i -> r ≠ k -> τ r = σ r) : ((gP B sz len n σ).set i (.own (B + σ k) sz 0 len)).set k (.own (B + σ i) sz 0 len) = gP B sz len n τ := by
 apply List.ext_getElem?
 intro r
 rcases Nat.lt_or_ge r n with hr | hr
 ·rw [dV hr, List.getElem?_set, List.getElem?_set, List.length_set, eZ, dV hr]
  by_cases e1 : k = r
  ·subst e1; rw [if_pos rfl, if_pos hr, h2]
  ·rw [if_neg e1]
   by_cases e2 : i = r
   ·subst e2; rw [if_pos rfl, if_pos hr, h1]
   ·rw [if_neg e2, h3 r (Ne.symm e2) (Ne.symm e1)]
 ·rw [List.getElem?_eq_none (by rw [List.length_set, List.length_set, eZ]; omega), List.getElem?_eq_none (by rw [eZ]; omega)]
def tlS (id n i : Nat) : SV := if i + 1 = n then V1 (.sl []) else .val (.one (.own id 1 (i + 1) (n - (i + 1))))
theorem Is {id n i d : Nat} (h : id ≠ d) : (tlS id n i).noRef d = true := by
 unfold tlS; split
 ·rfl
 ·simp only [SV.noRef, VV.noRef, SC.noRef, bne_iff_ne, ne_eq]; exact h
section
variable {T : Tab} {t e : TypeId} {ti ei : TI}
theorem Iv {id n i : Nat} {l h : Int} (h1 : T t = some ti) (h2 : ti.und = .slice e) (h3 : T e = some ei) (h4 : ei.size = 1) (hi : i < n) (hl : l = ((i + 1 : Nat) : Int)) (hh : h = (n : Int)) :
  ci T t (.val (.one (.own id 1 0 n))) l h = .set (tlS id n i) := by
 subst hl hh
 simp only [ci, h1, h2, h3, ec];rw [if_pos ⟨by omega, by omega, by omega⟩]
 unfold tlS
 by_cases e : i + 1 = n
 ·rw [if_pos (by omega), if_pos e]
 ·rw [if_neg (by omega), if_neg e, if_pos h4.symm]
  have e1 : (((i + 1 : Nat) : Int)).toNat = i + 1 := by omega
  have e2 : ((n : Int) - ((i + 1 : Nat) : Int)).toNat = n - (i + 1) := by omega
  rw [e1, e2, Nat.zero_add]
theorem HL {S : bR} {id n i : Nat} (h1 : T t = some ti) (h2 : ti.und = .slice e) (hi : i < n) : aQ T ⟨[], S, []⟩ (.builtin .len) [tlS id n i] [t] = .set (dI (n - (i + 1) : Nat)) := by
 unfold tlS
 by_cases e : i + 1 = n
 ·rw [if_pos e]
  have : n - (i + 1) = 0 := by omega
  rw [this]; exact jD h1 h2 rfl
 ·rw [if_neg e];simp only [aQ, kp, h1, h2, ec, aT]
theorem Jr {k : IntKind} {x : Int} {id n i p : Nat} (h1 : T t = some ti) (h2 : ti.und = .slice e) (h3 : T e = some ei) (h4 : ei.size = 1) (hx : x = (p : Int)) (hp : p < n - (i + 1)) :
  aV T t (tlS id n i) (V1 (.lit (.int k x))) = .set (.pe id 1 (i + 1 + p) 0) := by
 unfold tlS
 rw [if_neg (by omega)];exact x_o h1 h2 h3 h4.symm hx hp rfl
end
theorem xd {d : Nat} : (([] : List (Nat × SV)).all fun p => p.2.noRef d) = true := rfl
theorem dZ {k d : Nat} {v : SV} {E : List (Nat × SV)} (h : v.noRef d = true) (hE : E.all (fun p => p.2.noRef d) = true) : (((k, v) :: E).all fun p => p.2.noRef d) = true := by
 rw [List.all_cons, hE, Bool.and_true]; exact h
theorem Ck {id sz off len d : Nat} (h : id ≠ d) : (SV.val (.one (.own id sz off len))).noRef d = true := by simp only [SV.noRef, VV.noRef, SC.noRef, bne_iff_ne, ne_eq]; exact h
theorem Ho {id off d : Nat} (h : id ≠ d) : (SV.ptr id off).noRef d = true := by simp only [SV.noRef, bne_iff_ne, ne_eq]; exact h
theorem II {id sz i j d : Nat} (h : id ≠ d) : (SV.pe id sz i j).noRef d = true := by simp only [SV.noRef, bne_iff_ne, ne_eq]; exact h
section
variable {n : Nat} {E E' : List (Nat × SV)} {S S1 : List (Nat × Option OO)} {B sz len m gid d : Nat} {R R' : Nat -> List (List DC)}
theorem Wk.gpush0 {row : List (List DC)} (hE : Known n E E') (hEd : E'.all (fun p => p.2.noRef d) = true) (hEj : E'.all (fun p => p.2.noRef (B + m)) = true)
  (hS : KnownO S S1) (h1 : ltK B S1 = true) (hd : d < B) (hg : gid < B) (hdg : d ≠ gid) (hSd : cv S1 d = true) (h1d : so S1 d = none)
  (hgrid : so S gid = some (.box (gridC B sz len m ++ [.own d sz 0 len]))) (hrow : so S d = some (.arr sz row))
  (hhi : ∀ k, B <= k -> so S k = so (bu B sz m R) k) (hR : ∀ i, i < m + 1 -> R' i = if i = m then row else R i) (hB9 : Nat.blt 999 B = true := by rfl) :
  Wk (mk n E S [gid]) (mk n E' (((gid, some (.box (gridC B sz len (m + 1)))) :: S1) ++ bu B sz (m + 1) R') [gid]) := by
 have h := Wk.gpush (k := 0) (n := n) (E := E) (E' := E') (S := S) (S1 := S1) (R' := R') hE hEd hEj hS h1 hd hg hdg hSd h1d hgrid hrow hhi hR hB9
 rw [List.replicate_zero, List.append_nil] at h;exact h
end
end Go.Proofs.YtceacleokgoooaaGreatDoor

/- Elimination with exchanges gives the determinant. No condition. -/
namespace Go.Proofs.YtceacleokgoooaaGreatDoor

def swp (r s i : Nat) : Nat := if i = r then s else if i = s then r else i
theorem zu {n : Nat} {A : Nat -> Nat -> Rat} {r s : Nat} (hr : r < n) (hs : s < n) (hne : r ≠ s) : dt n (fun i c => A (swp r s i) c) = - dt n A := by
 have h1 : dt n (fun i c => if i = r then A r c + A s c else A i c) = dt n A := lX 1 hr hs hne (fun c _ => by simp only [if_true]; grind) (fun i c _ _ hi => if_neg hi)
 have h2 : dt n (fun i c => if i = r then A r c + A s c else if i = s then - A r c else A i c) = dt n (fun i c => if i = r then A r c + A s c else A i c) := lX (r := s) (s := r) (-1) hs hr (Ne.symm hne) (fun c _ => by
  rw [if_neg (Ne.symm hne), if_pos rfl, if_neg (Ne.symm hne), if_pos rfl]; grind) (fun i c _ _ hi => by rw [if_neg hi])
 have h3 : dt n (fun i c => if i = r then A s c else if i = s then - A r c else A i c) = dt n (fun i c => if i = r then A r c + A s c else if i = s then - A r c else A i c) := lX (r := r) (s := s) 1 hr hs hne (fun c _ => by
  rw [if_pos rfl, if_pos rfl, if_neg (Ne.symm hne), if_pos rfl]; grind) (fun i c _ _ hi => by rw [if_neg hi, if_neg hi])
 have h4 : dt n (fun i c => A (swp r s i) c) = (-1) * dt n (fun i c => if i = r then A s c else if i = s then - A r c else A i c) := FI (r := s) (-1) hs (fun c _ => by
  unfold swp
  rw [if_neg (Ne.symm hne), if_pos rfl, if_neg (Ne.symm hne), if_pos rfl]; grind) (fun i c _ _ hi => by
  unfold swp
  by_cases h : i = r
  ·rw [if_pos h, if_pos h]
  ·rw [if_neg h, if_neg hi, if_neg h, if_neg hi])
 rw [h4, h3, h2, h1]; grind
theorem zy {n : Nat} {A : Nat -> Nat -> Rat} (x : Nat -> Rat) : ∀ m, m <= n -> dt n (fun i c => if 0 < i /\ i < m then A i c + x i * A 0 c else A i c) = dt n A
 | 0, _ => aJ fun i c _ _ => if_neg (by omega)
 | m + 1, h => by
  rw [<- zy (A := A) x m (by omega)]
  by_cases h0 : m = 0
  ·subst h0
   exact aJ fun i c _ _ => by rw [if_neg (by omega), if_neg (by omega)]
  ·refine lX (r := m) (s := 0) (x m) (by omega) (by omega) h0 (fun c _ => ?_) (fun i c _ _ hi => ?_)
   ·rw [if_pos ⟨by omega, by omega⟩, if_neg (show ¬ (0 < m /\ m < m) by omega), if_neg (show ¬ (0 < 0 /\ 0 < m) by omega)]
   ·by_cases hh : 0 < i /\ i < m
    ·rw [if_pos ⟨hh.1, by omega⟩, if_pos hh]
    ·rw [if_neg (by omega), if_neg hh]
def piv (f : Nat -> Rat) (n : Nat) : Nat -> Nat -> Nat
 | 0, _ => n
 | d + 1, k => if f k = 0 then piv f n d (k + 1) else k
theorem qK (f : Nat -> Rat) (n : Nat) : ∀ (d k : Nat), k + d = n -> (piv f n d k < n /\ k <= piv f n d k /\ f (piv f n d k) ≠ 0) \/ (piv f n d k = n /\ ∀ i, k <= i -> i < n -> f i = 0)
 | 0, k, h => Or.inr ⟨rfl, fun i h1 h2 => by omega⟩
 | d + 1, k, h => by
  simp only [piv]
  by_cases e : f k = 0
  ·rw [if_pos e]
   rcases qK f n d (k + 1) (by omega) with ⟨h1, h2, h3⟩ | ⟨h1, h2⟩
   ·exact Or.inl ⟨h1, by omega, h3⟩
   ·refine Or.inr ⟨h1, fun i hi hin => ?_⟩
    by_cases hik : i = k
    ·rw [hik]; exact e
    ·exact h2 i (by omega) hin
  ·rw [if_neg e]; exact Or.inl ⟨by omega, Nat.le_refl _, e⟩
def el : Nat -> (Nat -> Nat -> Rat) -> Rat
 | 0, _ => 1
 | n + 1, A =>
  let k := piv (fun i => A i 0) (n + 1) (n + 1) 0
  if k = n + 1 then 0
  else (if k = 0 then 1 else -1) * (A k 0 * el n (fun i c => A (swp 0 k (i + 1)) (c + 1) - A (swp 0 k (i + 1)) 0 / A k 0 * A k (c + 1)))
theorem Gu : ∀ (n : Nat) (A : Nat -> Nat -> Rat), el n A = dt n A
 | 0, _ => rfl
 | n + 1, A => by
  simp only [el]
  rcases qK (fun i => A i 0) (n + 1) (n + 1) 0 (by omega) with ⟨h1, _, h3⟩ | ⟨h1, h2⟩
  ·rw [if_neg (by omega)];generalize piv (fun i => A i 0) (n + 1) (n + 1) 0 = k at *
   have hs : dt (n + 1) (fun i c => A (swp 0 k i) c) = (if k = 0 then 1 else -1) * dt (n + 1) A := by
    by_cases hk : k = 0
    ·rw [if_pos hk, aJ (B := A) (fun i c _ _ => by
      have : swp 0 k i = i := by unfold swp; (repeat' split) <;> omega
      rw [this])]; grind
    ·rw [if_neg hk, zu (by omega) h1 (Ne.symm hk)]; grind
   have e0 : swp 0 k 0 = k := by unfold swp; rw [if_pos rfl]
   have he := zy (n := n + 1) (A := fun i c => A (swp 0 k i) c) (fun i => - (A (swp 0 k i) 0 / A k 0)) (n + 1) (Nat.le_refl _)
   rw [pR (fun i h0 hi => by
    rw [if_pos ⟨h0, hi⟩, e0]; grind), if_neg (by omega), e0] at he
   rw [Gu n]
   rw [aJ (B := fun i c => A (swp 0 k (i + 1)) (c + 1) - A (swp 0 k (i + 1)) 0 / A k 0 * A k (c + 1)) (fun i c hi _ => by
    rw [if_pos ⟨by omega, by omega⟩]; grind)] at he
   rw [he, hs]
   split <;> grind
  ·rw [if_pos h1, aJ (B := fun i c => if c = 0 then 0 else A i c) (fun i c hi _ => by
    by_cases hc : c = 0
    ·rw [if_pos hc, hc]; exact h2 i (by omega) hi
    ·rw [if_neg hc])]
   have := pR (n := n) (A := fun i c => if c = 0 then 0 else A i c) (fun i _ _ => if_pos rfl)
   rw [this, if_pos rfl]; grind
end Go.Proofs.YtceacleokgoooaaGreatDoor

/- Leading minors and pivots; permuted matrices. No condition. -/
namespace Go.Proofs.YtceacleokgoooaaGreatDoor

theorem iZ : ∀ (n : Nat) (f : Nat -> Rat), pr (n + 1) f = pr n f * f n
 | 0, f => by simp only [pr]; grind
 | n + 1, f => by
  show f 0 * pr (n + 1) (fun i => f (i + 1)) = f 0 * pr n (fun i => f (i + 1)) * f (n + 1)
  rw [iZ n]; grind
theorem xL {f : Nat -> Rat} : ∀ {n : Nat}, (∀ i, i < n -> 0 < f i) -> 0 < pr n f
 | 0, _ => by show (0 : Rat) < 1; decide
 | n + 1, h => by
  rw [iZ];exact Rat.mul_pos (xL (n := n) fun i hi => h i (by omega)) (h n (by omega))
theorem AI {n : Nat} {A : Nat -> Nat -> Rat} {r s : Nat} (hr : r < n) (hs : s < n) (hne : r ≠ s) : dt n (fun i c => A i (swp r s c)) = - dt n A := by
 have h1 : dt n (fun i c => if c = r then A i r + A i s else A i c) = dt n A := pS 1 hr hs hne (fun i _ => by simp only [if_true]; grind) (fun i c _ _ hc => if_neg hc)
 have h2 : dt n (fun i c => if c = r then A i r + A i s else if c = s then - A i r else A i c) = dt n (fun i c => if c = r then A i r + A i s else A i c) := pS (k := s) (l := r) (-1) hs hr (Ne.symm hne) (fun i _ => by
  rw [if_neg (Ne.symm hne), if_pos rfl, if_neg (Ne.symm hne), if_pos rfl]; grind) (fun i c _ _ hc => by rw [if_neg hc])
 have h3 : dt n (fun i c => if c = r then A i s else if c = s then - A i r else A i c) = dt n (fun i c => if c = r then A i r + A i s else if c = s then - A i r else A i c) := pS (k := r) (l := s) 1 hr hs hne (fun i _ => by
  rw [if_pos rfl, if_pos rfl, if_neg (Ne.symm hne), if_pos rfl]; grind) (fun i c _ _ hc => by rw [if_neg hc, if_neg hc])
 have h4 := oJ (A := fun i c => A i (swp r s c)) (B := fun i c => if c = r then A i s else if c = s then - A i r else A i c) (C := fun i c => if c = r then A i s else if c = s then - A i r else A i c) s (-1) 0 hs (fun i _ => by
  unfold swp
  rw [if_neg (Ne.symm hne), if_pos rfl, if_neg (Ne.symm hne), if_pos rfl]; grind) (fun i c _ _ hc => by
  unfold swp
  by_cases h : c = r
  ·rw [if_pos h, if_pos h]; exact ⟨rfl, rfl⟩
  ·rw [if_neg h, if_neg hc, if_neg h, if_neg hc]; exact ⟨rfl, rfl⟩)
 rw [h4, h3, h2, h1]; grind
theorem Dm {n : Nat} {A : Nat -> Nat -> Rat} {r s : Nat} (hr : r < n) (hs : s < n) (hne : r ≠ s) : dt n (fun i c => A (swp r s i) (swp r s c)) = dt n A := by
 rw [zu (A := fun i c => A i (swp r s c)) hr hs hne, AI hr hs hne]; grind
end Go.Proofs.YtceacleokgoooaaGreatDoor

/- How great determinants of integers are; words of what the factors hold. No condition. -/
namespace Go.Proofs.YtceacleokgoooaaGreatDoor

def IB (k : Nat) (q : Rat) : Prop := ∃ z : Int, q = (z : Rat) /\ z.natAbs <= 2 ^ k
theorem IB.mono {k l : Nat} {q : Rat} (h : IB k q) (hl : k <= l) : IB l q := by
 obtain ⟨z, h1, h2⟩ := h
 exact ⟨z, h1, Nat.le_trans h2 (Nat.pow_le_pow_right (by decide) hl)⟩
theorem IB.mul {k l : Nat} {p q : Rat} (h : IB k p) (h' : IB l q) : IB (k + l) (p * q) := by
 obtain ⟨z, rfl, h2⟩ := h
 obtain ⟨y, rfl, h3⟩ := h'
 refine ⟨z * y, by rw [Rat.intCast_mul], ?_⟩;rw [Int.natAbs_mul, Nat.pow_add];exact Nat.mul_le_mul h2 h3
theorem IB.neg {k : Nat} {p : Rat} (h : IB k p) : IB k (-p) := by
 obtain ⟨z, rfl, h2⟩ := h
 exact ⟨-z, by rw [Rat.intCast_neg], by rw [Int.natAbs_neg]; exact h2⟩
theorem rT : IB 0 1 := ⟨1, rfl, by decide⟩
theorem zM (k : Nat) : IB k 0 := ⟨0, rfl, by simp⟩
theorem GA : ∀ i, IB 0 (sgD i)
 | 0 => rT
 | i + 1 => (GA i).neg
theorem zN {k : Nat} {f : Nat -> Rat} : ∀ n : Nat, (∀ i, i < n -> IB k (f i)) -> ∃ z : Int, sm n f = (z : Rat) /\ z.natAbs <= n * 2 ^ k
 | 0, _ => ⟨0, rfl, by simp⟩
 | n + 1, h => by
  obtain ⟨z, h1, h2⟩ := zN n (fun i hi => h i (by omega))
  obtain ⟨y, h3, h4⟩ := h n (by omega)
  refine ⟨z + y, by rw [bE, h1, h3, Rat.intCast_add], ?_⟩
  have := Int.natAbs_add_le z y
  rw [Nat.add_mul, Nat.one_mul]
  omega
theorem Jq {k n : Nat} {f : Nat -> Rat} (hn : n <= 16) (h : ∀ i, i < n -> IB k (f i)) : IB (k + 4) (sm n f) := by
 obtain ⟨z, h1, h2⟩ := zN n h
 refine ⟨z, h1, Nat.le_trans h2 ?_⟩;rw [Nat.pow_add, Nat.mul_comm];exact Nat.mul_le_mul_left _ hn
theorem jN {m : Nat} : ∀ {n : Nat} {A : Nat -> Nat -> Rat}, n <= 16 -> (∀ i j, i < n -> j < n -> IB m (A i j)) -> IB (n * (m + 4)) (dt n A)
 | 0, _, _, _ => by rw [Nat.zero_mul]; exact rT
 | n + 1, A, hn, h => by
  have ih := fun i => jN (m := m) (n := n) (A := fun r c => A (sk i r) (c + 1)) (by omega)
  have hs : IB (0 + m + n * (m + 4) + 4) (dt (n + 1) A) := Jq hn fun i hi =>
   ((GA i).mul (h i 0 hi (by omega))).mul (ih i fun r c hr hc => h _ _ (m8 hr) (by omega))
  exact hs.mono (by rw [Nat.succ_mul]; omega)
theorem tD {z : Int} {k j : Nat} (h : z.natAbs <= 2 ^ k) (hk : k < 32 * j) : zl z <= j := by
 unfold zl
 refine vk ?_;refine Nat.lt_of_le_of_lt h ?_
 have : (4294967296 : Nat) ^ j = 2 ^ (32 * j) := by rw [Nat.pow_mul]
 rw [this];exact Nat.pow_lt_pow_right (by decide) hk
theorem iF {q N D : Rat} {k j : Nat} (hN : IB k N) (hD : IB k D) (h0 : D ≠ 0) (h : q * D = N) (hk : k < 32 * j) : ql q <= j := by
 obtain ⟨x, rfl, h1⟩ := hN
 obtain ⟨y, rfl, h2⟩ := hD
 have e : q = Rat.divInt x y := by rw [Rat.divInt_eq_div, <- h]; grind
 rw [e];exact uc (Nat.ble_eq_true_of_le (by omega)) (tD h1 hk) (tD h2 hk)
theorem sO {f : Nat -> Rat} : ∀ {n : Nat}, (∀ i, i < n -> f i ≠ 0) -> pr n f ≠ 0
 | 0, _ => by show (1 : Rat) ≠ 0; decide
 | n + 1, h => by
  rw [iZ]
  intro e
  rcases Rat.mul_eq_zero.1 e with e | e
  ·exact sO (n := n) (fun i hi => h i (by omega)) e
  ·exact h n (by omega) e

section
variable {B : Nat -> Nat -> Rat} {n m J : Nat}
theorem zQ (hs : ∀ i j, i < n -> j < n -> B i j = B j i) {i : Nat} (hi : i < n) (hd : ∀ k, k < i -> DD B k ≠ 0) : DD B i * dt i B = dt (i + 1) B /\ dt i B ≠ 0 := by
 have h1 : dt (i + 1) B = pr (i + 1) (DD B) := mI (fun a b ha hb => hs a b (by omega) (by omega)) (fun k hk => hd k (by omega))
 have h2 : dt i B = pr i (DD B) := mI (fun a b ha hb => hs a b (by omega) (by omega)) (fun k hk => hd k (by omega))
 rw [h1, h2, iZ];exact ⟨by grind, sO hd⟩
theorem Gy (hs : ∀ i j, i < n -> j < n -> B i j = B j i) {i j : Nat} (hi : i < n) (hj : j < i) (hd : ∀ k, k <= j -> DD B k ≠ 0) :
  LL B i j * dt (j + 1) B = dt (j + 1) (fun r c => if c = j then B i r else B r c) := by
 have hb := fun c (hc : c < j + 1) => yq (L := LL B) (b := fun c => LL B i c) (n := j + 1) (fun i _ => dH B i) (fun i c _ _ h => jM B h) hc
 generalize hX : bsx (LL B) (fun c => LL B i c) (j + 1) (j + 1) = X at hb
 have e1 : X j = LL B i j := by
  have := hb j (by omega)
  rw [dD (j := j) _ (by omega) (fun r hr hne => by rw [jM B (show r < j by omega)]; grind), dH] at this;rw [<- this]; grind
 have hs' : ∀ a b, a < j + 1 -> b < j + 1 -> B a b = B b a := fun a b ha hb => hs a b (by omega) (by omega)
 rw [<- e1];refine uW (by omega) (fun r hr => ?_);rw [uB hs' (fun k hk => hd k (by omega)) X hr];rw [ar (g := fun k => LL B r k * (DD B k * LL B i k)) (fun k hk => by rw [hb k hk])];rw [eU (m := r + 1) (by omega) (fun k hk _ => by rw [jM B (show r < k by omega)]; grind), bE, dH]
 by_cases e : r = i
 ·omega
 have := xe B (i := i) (j := r) (by omega) (hd r (by omega))
 rw [ar (g := fun k => LL B i k * LL B r k * DD B k) (fun k _ => by grind)]; grind
theorem GB (hs : ∀ i j, i < n -> j < n -> B i j = B j i) (hB : ∀ i j, i < n -> j < n -> IB m (B i j)) (hn : n <= 16) (hJ : n * (m + 4) < 32 * J) {i : Nat} (hi : i < n) (hd : ∀ k, k < i -> DD B k ≠ 0) : ql (DD B i) <= J := by
 obtain ⟨h1, h2⟩ := zQ hs hi hd
 have a1 := jN (m := m) (n := i) (A := B) (by omega) (fun a b ha hb => hB a b (by omega) (by omega))
 have a2 := jN (m := m) (n := i + 1) (A := B) (by omega) (fun a b ha hb => hB a b (by omega) (by omega))
 have l1 : i * (m + 4) <= n * (m + 4) := Nat.mul_le_mul_right _ (by omega)
 have l2 : (i + 1) * (m + 4) <= n * (m + 4) := Nat.mul_le_mul_right _ (by omega)
 exact iF (a2.mono l2) (a1.mono l1) h2 h1 hJ
theorem DP (hs : ∀ i j, i < n -> j < n -> B i j = B j i) (hB : ∀ i j, i < n -> j < n -> IB m (B i j)) (hn : n <= 16) (hJ : n * (m + 4) < 32 * J) {i j : Nat} (hi : i < n) (hj : j < i) (hd : ∀ k, k <= j -> DD B k ≠ 0) : ql (LL B i j) <= J := by
 have h1 := Gy hs hi hj hd
 have h2 := (zQ hs (i := j + 1) (by omega) (fun k hk => hd k (by omega))).2
 have a1 := jN (m := m) (n := j + 1) (A := B) (by omega) (fun a b ha hb => hB a b (by omega) (by omega))
 have a2 := jN (m := m) (n := j + 1) (A := fun r c => if c = j then B i r else B r c) (by omega) (fun a b ha hb => by
  show IB m (if b = j then B i a else B a b)
  split
  ·exact hB _ _ (by omega) (by omega)
  ·exact hB _ _ (by omega) (by omega))
 have l2 : (j + 1) * (m + 4) <= n * (m + 4) := Nat.mul_le_mul_right _ (by omega)
 exact iF (a2.mono l2) (a1.mono l2) h2 h1 hJ
theorem Bv (hs : ∀ i j, i < n -> j < n -> B i j = B j i) (hB : ∀ i j, i < n -> j < n -> IB m (B i j)) {b : Nat -> Rat} (hb : ∀ i, i < n -> IB m (b i)) (hn : n <= 16) (hJ : n * (m + 4) < 32 * J) (hd : ∀ k, k < n -> DD B k ≠ 0) {i : Nat} (hi : i < n) : ql (slv B b n i) <= J := by
 have h1 := uW (A := B) (x := slv B b n) (b := b) hi (fun r hr => qt hs hd hr)
 have h2 : dt n B ≠ 0 := by
  rw [mI hs (fun k hk => hd k (by omega))]; exact sO hd
 have a1 := jN (m := m) (n := n) (A := B) hn hB
 have a2 := jN (m := m) (n := n) (A := fun r c => if c = i then b r else B r c) hn (fun x y hx hy => by
  show IB m (if y = i then b x else B x y)
  split
  ·exact hb _ hx
  ·exact hB _ _ hx hy)
 exact iF a2 a1 h2 h1 hJ
end
end Go.Proofs.YtceacleokgoooaaGreatDoor

/- Elimination in place. No condition. -/
namespace Go.Proofs.YtceacleokgoooaaGreatDoor

theorem sQ (f : Nat -> Rat) (i n : Nat) : ∀ (d k : Nat), piv (fun r => f (i + r)) n d k + i = piv f (n + i) d (k + i)
 | 0, _ => rfl
 | d + 1, k => by
  simp only [piv]
  have e : i + k = k + i := by omega
  simp only [e]
  by_cases h : f (k + i) = 0
  ·rw [if_pos h, if_pos h, sQ f i n d (k + 1), show k + 1 + i = k + i + 1 by omega]
  ·rw [if_neg h, if_neg h]
theorem Ch {f : Nat -> Rat} {n k : Nat} : ∀ (d i : Nat), i + d = n -> i <= k -> k <= n -> (∀ r, i <= r -> r < k -> f r = 0) -> (k = n \/ f k ≠ 0) -> piv f n d i = k
 | 0, i, h, h1, h2, _, _ => by simp only [piv]; omega
 | d + 1, i, h, h1, h2, h3, h4 => by
  simp only [piv]
  by_cases e : i = k
  ·subst e
   rcases h4 with h4 | h4
   ·omega
   ·rw [if_neg h4]
  ·rw [if_pos (h3 i (Nat.le_refl _) (by omega))];exact Ch d (i + 1) (by omega) (by omega) h2 (fun r hr hk => h3 r (by omega) hk) h4
def stp (i k : Nat) (A : Nat -> Nat -> Rat) (r c : Nat) : Rat := if i < r /\ i <= c then A (swp i k r) c - A (swp i k r) i / A k i * A k c else A (swp i k r) c
def elS (n : Nat) : Nat -> Nat -> (Nat -> Nat -> Rat) -> Rat -> Rat
 | 0, _, _, det => det
 | d + 1, i, A, det => let k := piv (fun r => A r i) n (d + 1) i; if k = n then 0 else elS n d (i + 1) (stp i k A) ((if k = i then det else -det) * A k i)
theorem C9 (n : Nat) : ∀ (d i : Nat) (A : Nat -> Nat -> Rat) (det : Rat), i + d = n -> elS n d i A det = det * el d (fun r c => A (i + r) (i + c))
 | 0, _, _, det, _ => by simp only [elS, el]; grind
 | d + 1, i, A, det, h => by
  have hp := sQ (fun r => A r i) i (d + 1) (d + 1) 0
  rw [show d + 1 + i = n by omega, Nat.zero_add] at hp;simp only [elS, el, Nat.add_zero];generalize piv (fun r => A (i + r) i) (d + 1) (d + 1) 0 = k at *;rw [<- hp]
  by_cases hk : k = d + 1
  ·rw [if_pos (by omega), if_pos hk]; grind
  ·rw [if_neg (by omega), if_neg hk, C9 n d (i + 1) _ _ (by omega)]
   have e : el d (fun r c => stp i (k + i) A (i + 1 + r) (i + 1 + c)) = el d (fun r c => A (i + swp 0 k (r + 1)) (i + (c + 1)) - A (i + swp 0 k (r + 1)) i / A (i + k) i * A (i + k) (i + (c + 1))) := by
    congr 1
    funext r c
    simp only [stp];rw [if_pos ⟨by omega, by omega⟩]
    have e1 : swp i (k + i) (i + 1 + r) = i + swp 0 k (r + 1) := by unfold swp; (repeat' split) <;> omega
    rw [e1, show i + 1 + c = i + (c + 1) by omega, show k + i = i + k by omega]
   rw [e, show k + i = i + k by omega]
   by_cases h0 : k = 0
   ·rw [if_pos (by omega), if_pos h0]; grind
   ·rw [if_neg (by omega), if_neg h0]; grind
theorem HZ (n : Nat) (A : Nat -> Nat -> Rat) : elS n n 0 A 1 = dt n A := by
 rw [C9 n n 0 A 1 (by omega), <- Gu]
 have : (fun r c => A (0 + r) (0 + c)) = A := by funext r c; rw [Nat.zero_add, Nat.zero_add]
 rw [this]; grind
def elB (n : Nat) : Nat -> Nat -> (Nat -> Nat -> Rat) -> Prop
 | 0, _, _ => True
 | d + 1, i, A => (∀ r c, i <= r -> r < n -> i <= c -> c < n -> ql (A r c) <= 65536) /\ (piv (fun r => A r i) n (d + 1) i < n -> elB n d (i + 1) (stp i (piv (fun r => A r i) n (d + 1) i) A))
end Go.Proofs.YtceacleokgoooaaGreatDoor

/- Any order of rows and columns. No condition. -/
namespace Go.Proofs.YtceacleokgoooaaGreatDoor

theorem ii (r s i : Nat) : swp r s (swp r s i) = i := by unfold swp; (repeat' split) <;> omega
theorem tJ {r s i n : Nat} (hr : r < n) (hs : s < n) (hi : i < n) : swp r s i < n := by unfold swp; (repeat' split) <;> omega
theorem rH {n : Nat} : ∀ (m : Nat) {A : Nat -> Nat -> Rat} {e : Nat -> Nat}, m <= n -> (∀ i, i < n -> e i < n) -> (∀ i j, i < n -> j < n -> e i = e j -> i = j) -> (∀ i, m <= i -> i < n -> e i = i) -> dt n (fun i c => A (e i) (e c)) = dt n A
 | 0, A, e, _, _, _, h => aJ fun i c hi hc => by rw [h i (by omega) hi, h c (by omega) hc]
 | m + 1, A, e, hm, h1, h2, h3 => by
  by_cases hv : e m = m
  ·exact rH m (by omega) h1 h2 (fun i hi hin => by
    by_cases hh : i = m
    ·rw [hh]; exact hv
    ·exact h3 i (by omega) hin)
  ·have lv := h1 m (by omega)
   have := rH m (A := fun i c => A (swp m (e m) i) (swp m (e m) c)) (e := fun i => swp m (e m) (e i)) (by omega) (fun i hi => tJ (by omega) lv (h1 i hi))
    (fun i j hi hj hij => h2 i j hi hj (by
     have := congrArg (swp m (e m)) hij
     rwa [ii, ii] at this))
    (fun i hi hin => by
     by_cases hh : i = m
     ·subst hh; unfold swp; rw [if_neg hv, if_pos rfl]
     ·have e1 := h3 i (by omega) hin
      have e2 : i ≠ e m := fun e' => hh (h2 i m hin (by omega) (e1.trans e'))
      show swp m (e m) (e i) = i
      rw [e1]; unfold swp; rw [if_neg hh, if_neg e2])
   rw [Dm (by omega) lv (Ne.symm hv)] at this;rw [<- this]
   exact aJ fun i c _ _ => by rw [ii, ii]
theorem m0 {n : Nat} : ∀ (m : Nat) {f : Nat -> Rat} {e : Nat -> Nat}, m <= n -> (∀ i, i < n -> e i < n) -> (∀ i j, i < n -> j < n -> e i = e j -> i = j) -> (∀ i, m <= i -> i < n -> e i = i) -> sm n (fun i => f (e i)) = sm n f
 | 0, f, e, _, _, _, h => ar fun i hi => by rw [h i (by omega) hi]
 | m + 1, f, e, hm, h1, h2, h3 => by
  by_cases hv : e m = m
  ·exact m0 m (by omega) h1 h2 (fun i hi hin => by
    by_cases hh : i = m
    ·rw [hh]; exact hv
    ·exact h3 i (by omega) hin)
  ·have lv := h1 m (by omega)
   have := m0 m (f := fun i => f (swp m (e m) i)) (e := fun i => swp m (e m) (e i)) (by omega) (fun i hi => tJ (by omega) lv (h1 i hi))
    (fun i j hi hj hij => h2 i j hi hj (by
     have := congrArg (swp m (e m)) hij
     rwa [ii, ii] at this))
    (fun i hi hin => by
     by_cases hh : i = m
     ·subst hh; unfold swp; rw [if_neg hv, if_pos rfl]
     ·have e1 := h3 i (by omega) hin
      have e2 : i ≠ e m := fun e' => hh (h2 i m hin (by omega) (e1.trans e'))
      show swp m (e m) (e i) = i
      rw [e1]; unfold swp; rw [if_neg hh, if_neg e2])
   have e3 : sm n (fun i => f (swp m (e m) i)) = sm n f := by
    have lm : m < n := by omega
    have hne : m ≠ e m := Ne.symm hv
    rw [tP (a := m) (b := e m) _ lm lv hne, tP (a := m) (b := e m) f lm lv hne]
    have a1 : swp m (e m) m = e m := by unfold swp; rw [if_pos rfl]
    have a2 : swp m (e m) (e m) = m := by unfold swp; rw [if_neg hv, if_pos rfl]
    rw [a1, a2, ar (f := fun i => if i = m \/ i = e m then 0 else f (swp m (e m) i)) (g := fun i => if i = m \/ i = e m then 0 else f i) (fun i _ => by
     by_cases hh : i = m \/ i = e m
     ·rw [if_pos hh, if_pos hh]
     ·rw [if_neg hh, if_neg hh]
      have : swp m (e m) i = i := by unfold swp; rw [if_neg (by omega), if_neg (by omega)]
      rw [this])]
    grind
   rw [e3] at this;rw [<- this]
   exact ar fun i _ => by rw [ii]
end Go.Proofs.YtceacleokgoooaaGreatDoor

/- Determinants by elimination. No condition. -/
namespace Go.Proofs.YtceacleokgoooaaGreatDoor
attribute [local irreducible] aA

theorem Ac (n : Nat) (G : Nat -> RW) (h0 : 0 < n) (hn : n <= 1048576) : Con Tryz.prog 111 [V1 (dRs (cf n G))] { v := .val (.one (.own 0 4 0 n)), ob := some (4, aW n G) } := by
 have hne : ∀ l : List (List DC), l.length = n -> l ≠ [] := fun l h e => by rw [e] at h; simp at h; omega
 refine Z3 Tryz.func111 ?_
 intro w0 X
 rw [ap _ _ [(0, V1 (dRs (cf n G)))] rfl rfl];refine gQ fun _ O=>?_;refine Z8 ?_;refine eQ O ?_;clear O;refine ab ?_;refine tC (es := (cf n G).map RW.dc) tok rfl rfl rfl rfl rfl rfl rfl rfl rfl rfl fun b hb => ?_;rw [g6, g6];refine aj rfl (fun hc => ?_) (fun hc => ?_)
 ·exact absurd (hb hc) (hne _ (by simp [cf]))
 ·refine ag ?_;show AWP _ _ _ _ _ _;refine gQ fun _ O=>?_;refine aC rfl rfl rfl rfl ?_;refine Z9 ?_;refine aO rfl (jn (es := []) rfl rfl rfl rfl rfl rfl (by decide) (Nat.le_of_ble_eq_true rfl) rfl (fun e he => by obtain ⟨x, _, rfl⟩ := List.mem_map.1 he; rfl) rfl rfl rfl (by simp [cf]; omega)) rfl rfl rfl ?_;refine Z8 ?_;refine eQ O ?_;clear O;refine mL [(2, .val (.one (.own 7 4 0 n)))] [(7, some (.arr 4 (aW n G)))] ⟨?_, trivial⟩ ⟨?_, trivial⟩ ?_
  ·show SV.val (.one (.own 7 4 0 (([] : List (List DC)) ++ (cf n G).map RW.dc).length)) = _
   rw [List.nil_append, jb, dm]
  ·show some (OO.arr 4 (([] : List (List DC)) ++ (cf n G).map RW.dc)) = _
   rw [List.nil_append, jb]
  refine al ?_;exact kS (nM (by rfl) rfl)

theorem Hk (q : Rat) (h : ql q <= 16777216) : Con Tryz.prog 114 [AG (qzW q).cs] { v := AG (qzW (-q)).cs } := by
 have := Hl (qzW q) (aY h)
 rwa [bg] at this

def yk (m : List (List RW)) : RW × Int := if cp m = true then (qzW (dt m.length (bc m)), 0) else (eO, 1)
def gl : OO := .box [.d (.lit (.bool false)), .nil, .d (.lit (.bool false)), .nil]
def gB (n : Nat) : Nat -> Option OO
 | 0 => none
 | i + 1 => some (.box (gridC 1000 4 n (i + 1)))
def wV (V : Nat -> Nat -> RW) (s i j : Nat) (f : Nat -> Rat) : Nat -> Nat -> RW := fun q c => if q = s then (if i <= c /\ c < j then qzW (f c) else V q c) else V q c
theorem Jt (V : Nat -> Nat -> RW) (s i : Nat) (f : Nat -> Rat) (q : Nat) : wV V s i i f q = V q := by
 funext c; unfold wV; split
 ·rw [if_neg (by omega)]
 ·rfl
theorem Js (V : Nat -> Nat -> RW) {n s i j : Nat} (hij : i <= j) (f : Nat -> Rat) : aW n (jc (wV V s i j f s) j (qzW (f j))) = aW n (wV V s i (j + 1) f s) := bn fun c _ => by
 simp only [jc, wV, if_true]
 by_cases h : c = j
 ·subst h; rw [if_pos rfl, if_pos ⟨hij, by omega⟩]
 ·rw [if_neg h]
  by_cases h2 : i <= c /\ c < j
  ·rw [if_pos h2, if_pos (by omega)]
  ·rw [if_neg h2, if_neg (by omega)]
structure EL (n i : Nat) (V : Nat -> Nat -> RW) (σ : Nat -> Nat) (A : Nat -> Nat -> Rat) : Prop where
 lt : ∀ r, r < n -> σ r < n
 inj : ∀ r s, r < n -> s < n -> σ r = σ s -> r = s
 ok : ∀ r c, i <= r -> r < n -> i <= c -> c < n -> (V (σ r) c).OK 65536
 v : ∀ r c, i <= r -> r < n -> i <= c -> c < n -> (V (σ r) c).v = A r c
structure ER (n i k r : Nat) (V : Nat -> Nat -> RW) (σ : Nat -> Nat) (A : Nat -> Nat -> Rat) : Prop where
 lt : ∀ r, r < n -> σ r < n
 inj : ∀ r s, r < n -> s < n -> σ r = σ s -> r = s
 ok : ∀ p c, i <= p -> p < n -> i <= c -> c < n -> (V (σ p) c).OK 65536
 v : ∀ p c, i <= p -> p < n -> i <= c -> c < n -> (V (σ p) c).v = if p < r then stp i k A p c else A (swp i k p) c
theorem EL.swap {n i k : Nat} {V : Nat -> Nat -> RW} {σ : Nat -> Nat} {A : Nat -> Nat -> Rat} (h : EL n i V σ A) (hi : i < n) (hik : i <= k) (hk : k < n) : ER n i k (i + 1) V (fun r => σ (swp i k r)) A := by
 have hs : ∀ p, p < n -> swp i k p < n := fun p hp => tJ hi hk hp
 have hs2 : ∀ p, i <= p -> i <= swp i k p := fun p hp => by unfold swp; (repeat' split) <;> omega
 refine ⟨fun r hr => h.lt _ (hs r hr), fun r s hr hs' e => ?_, fun p c h1 h2 h3 h4 => h.ok _ c (hs2 p h1) (hs p h2) h3 h4, fun p c h1 h2 h3 h4 => ?_⟩
 ·have := h.inj _ _ (hs r hr) (hs s hs') e
  have := congrArg (swp i k) this
  rwa [ii, ii] at this
 ·rw [h.v _ c (hs2 p h1) (hs p h2) h3 h4]
  by_cases hp : p < i + 1
  ·rw [if_pos hp]; simp only [stp]; rw [if_neg (by omega)]
  ·rw [if_neg hp]
theorem ER.row {n i k r : Nat} {V : Nat -> Nat -> RW} {σ : Nat -> Nat} {A : Nat -> Nat -> Rat} (h : ER n i k r V σ A) (hir : i < r) (hr : r < n) (hq : ∀ c, i <= c -> c < n -> ql (stp i k A r c) <= 65536) :
  ER n i k (r + 1) (wV V (σ r) i n (fun c => stp i k A r c)) σ A := by
 refine ⟨h.lt, h.inj, fun p c h1 h2 h3 h4 => ?_, fun p c h1 h2 h3 h4 => ?_⟩
 ·by_cases e : p = r
  ·subst e; simp only [wV, if_true]; rw [if_pos ⟨h3, h4⟩]; exact aY (hq c h3 h4)
  ·have : σ p ≠ σ r := fun e' => e (h.inj p r h2 hr e')
   simp only [wV]; rw [if_neg this]; exact h.ok p c h1 h2 h3 h4
 ·by_cases e : p = r
  ·subst e; simp only [wV, if_true]; rw [if_pos ⟨h3, h4⟩, if_pos (by omega), bg]
  ·have : σ p ≠ σ r := fun e' => e (h.inj p r h2 hr e')
   simp only [wV]; rw [if_neg this, h.v p c h1 h2 h3 h4]
   by_cases hp : p < r
   ·rw [if_pos hp, if_pos (by omega)]
   ·rw [if_neg hp, if_neg (by omega)]
theorem ER.done {n i k : Nat} {V : Nat -> Nat -> RW} {σ : Nat -> Nat} {A : Nat -> Nat -> Rat} (h : ER n i k n V σ A) : EL n (i + 1) V σ (stp i k A) :=
 ⟨h.lt, h.inj, fun r c h1 h2 h3 h4 => h.ok r c (by omega) h2 (by omega) h4, fun r c h1 h2 h3 h4 => by rw [h.v r c (by omega) h2 (by omega) h4, if_pos h2]⟩

set_option maxHeartbeats 2000000 in
theorem GZ (m : List (List RW)) (hl : m.length <= 9223372036854775806) (hr : ∀ r ∈ m, r.length <= 9223372036854775806) (ok : okM 65536 m) (hE : cp m = true -> elB m.length m.length 0 (bc m)) :
  Con Tryz.prog 62 [V1 (dMs m)] { v := .tup [.agg (yk m).1.cs, .one (.d (lI (yk m).2))] } := by
 refine Z3 Tryz.func62 ?_
 intro w0 X
 rw [ap _ _ [(0, V1 (dMs m))] rfl rfl];refine gQ fun _ O=>?_;refine ay rfl rfl rfl rfl rfl rfl ?_;refine Z8 ?_;refine eQ O ?_;clear O;refine ab ?_;refine gQ fun _ O=>?_;refine Z9 ?_;refine ac rfl rfl (nf m hl hr ok) rfl rfl rfl rfl ?_;refine dJ rfl rfl rfl ?_;refine eQ O ?_;clear O;refine aj rfl (fun hc => ?_) (fun hc => ?_)
 ·have e : yk m = (eO, 1) := by rw [yk, if_neg]; intro h; rw [h] at hc; cases hc
  rw [e];refine gQ fun _ O=>?_;refine bF rfl rfl rfl ?_;refine ak rfl rfl rfl rfl rfl ?_;refine Z8 ?_;refine eQ O ?_;clear O;exact al aP
 have hc : cp m = true := by simpa using hc
 have hE1 := hE hc
 clear hE;rw [yk, if_pos hc]
 obtain ⟨hv1, hv2, _⟩ := of_decide_eq_true hc
 obtain ⟨n, hn⟩ : ∃ n, m.length = n := ⟨_, rfl⟩
 have hm : m = ba n n (mtv m) := nF hn (fun r hr => (hv2 r hr).trans hn)
 have oF : ∀ i j, i < n -> j < n -> (mtv m i j).OK 65536 := fun i j hi hj => by rw [hm] at ok; exact lJ ok hi hj
 have hF : ∀ i j, bc m i j = (mtv m i j).v := fun _ _ => rfl
 rw [hn] at hv1 hE1 ⊢;rw [<- HZ];generalize bc m = A at *;generalize mtv m = F at *;clear hv2 hc hr hl ok hn
 subst hm
 refine ag ?_;show AWP _ _ _ _ _ _;refine gQ fun _ O=>?_;refine Z8 ?_;refine eQ O ?_;clear O;refine ab ?_;refine gQ fun _ O=>?_;refine Z9 ?_;refine az rfl (gc rfl rfl) rfl ?_;refine Z9 ?_;refine eQ O ?_;clear O;refine ae (aG (α := Nat) (fun i => mk 138 [(2, .ptr 2 0), (4, bU 17 1 i), (19, V1 (dMs (ba n n F))), (20, dI n), (21, dI i)] (((17, gB n i) :: [(2, some gl)]) ++ bu 1000 4 i (fun s => aW n (F s))) [17]) (fun i => i <= n) (fun i => n - i) 0 ?_ (Nat.zero_le _) ?_)
 ·exact Wk.trans (Wk.mk' (E' := [(2, .ptr 2 0), (4, bU 17 1 0), (19, V1 (dMs (ba n n F))), (20, dI n), (21, dI (0 : Nat))]) (S' := [(17, none), (2, some gl)]) ⟨rfl, rfl, rfl, rfl, rfl, trivial⟩ ⟨rfl, rfl, trivial⟩) (Wk.rbE (rb := []) rfl)
 intro i hi
 refine gQ fun _ O=>?_;refine Z6 ?_;refine eQ O ?_;clear O;refine ab ?_;refine aj rfl (fun hg => ?_) (fun hg => ?_)
 ·have hg : i < n := by simp at hg; omega
  have cl := Ac n (F i) (by omega) (by omega)
  refine ag ?_;show AWP _ _ _ _ _ _;refine ab ?_;refine ae ?_;refine gQ fun _ O=>?_;refine aa rfl (mN rfl rfl rfl rfl rfl hg) rfl ?_;refine Z7 ?_;refine Z8 ?_;refine eQ O ?_;clear O
  rcases i with _ | i
  ·refine c6 fun _ O=>?_;refine ah tok rfl ?_;refine Z9 ?_;refine am ?_;refine ah tok rfl ?_;refine Z9 ?_;refine am ?_;refine ah tok rfl ?_;refine jY rfl rfl (cl) (Or.inl rfl) rfl rfl rfl rfl ?_;refine am ?_;refine vo tok rfl rfl rfl rfl rfl rfl rfl rfl rfl ?_;refine DX (B := 1000) (m := 0) (sz := 4) (id := 17) (R := fun s => aW n (F s)) tok [(2, .ptr 2 0), (19, V1 (dMs (ba n n F))), (20, dI n), (21, dI (0 : Nat))] [(2, some gl), (27, some (.arr 4 (aW n (F 0))))] rfl rfl rfl rfl rfl rfl rfl (Nat.le_of_ble_eq_true rfl) rfl rfl rfl rfl (by decide) (by decide) ⟨rfl, rfl, rfl, rfl, trivial⟩ ⟨rfl, rfl, trivial⟩ rfl (fun q hq => ?_) rfl rfl rfl rfl rfl rfl rfl rfl rfl ?_
   ·rw [aD, if_neg (by omega), aD, if_neg (by omega), dh rfl hq]
   refine ah tok rfl ?_;refine Z8 ?_;refine am ?_;refine aN rfl (O _ ?_); clear O;show AWP _ _ _ _ _ _;refine gR fun _ O=>?_;refine ai rfl (aF (c := ((0 + 1 : Nat) : Int)) (by omega) (by omega)) rfl ?_;refine Z9 ?_;refine eQ O ?_;clear O;exact ⟨0 + 1, by omega, hg, Wk.gpush0 (B := 1000) (m := 0) (d := 27) (gid := 17) (S1 := [(2, some gl)]) (R := fun s => aW n (F s)) ⟨rfl, rfl, rfl, rfl, rfl, trivial⟩ rfl rfl ⟨rfl, trivial⟩ rfl (by decide) (by decide) (by decide) rfl rfl rfl rfl (fun q hq => by rw [aD, if_neg (by omega), dh rfl hq]) (fun a _ => by split <;> rename_i e; rw [e]; rfl)⟩
  ·refine c6 fun _ O=>?_;refine ah tok rfl ?_;refine Z9 ?_;refine am ?_;refine ah tok rfl ?_;refine Z9 ?_;refine am ?_;refine ah tok rfl ?_;refine jY rfl rfl (cl) (Or.inl rfl) rfl rfl (dX rfl rfl (dp (Or.inl (by decide)))) rfl ?_;refine am ?_;refine vo tok rfl rfl rfl rfl rfl rfl rfl rfl (dX rfl rfl (dp (Or.inl (by decide)))) ?_;refine GI (B := 1000) (m := i + 1) (sz := 4) (id := 17) (R := fun s => aW n (F s)) tok [(2, .ptr 2 0), (19, V1 (dMs (ba n n F))), (20, dI n), (21, dI (i + 1 : Nat))] [(2, some gl), (27, some (.arr 4 (aW n (F (i + 1)))))] rfl rfl rfl rfl rfl rfl rfl (Nat.le_of_ble_eq_true rfl) rfl rfl (kh _ _ _ _).symm (by omega) rfl rfl rfl (by decide) (by decide) ⟨rfl, rfl, rfl, rfl, trivial⟩ ⟨rfl, rfl, trivial⟩ rfl (fun q hq => ?_) rfl rfl rfl rfl rfl rfl (dp (Or.inl (by decide))) (dp (Or.inl (by decide))) rfl rfl rfl rfl ?_
   ·rw [aD, if_neg (by omega), aD, if_neg (by omega), dh rfl hq]
   refine ah tok rfl ?_;refine Z8 ?_;refine am ?_;refine aN rfl (O _ ?_); clear O;show AWP _ _ _ _ _ _;refine gR fun _ O=>?_;refine ai rfl (aF (c := ((i + 1 + 1 : Nat) : Int)) (by omega) (by omega)) rfl ?_;refine Z9 ?_;refine eQ O ?_;clear O;exact ⟨i + 1 + 1, by omega, hg, Wk.gpush0 (B := 1000) (m := i + 1) (d := 27) (gid := 17) (S1 := [(2, some gl)]) (R := fun s => aW n (F s)) ⟨rfl, rfl, rfl, rfl, rfl, trivial⟩ rfl (dZ (Ho (by omega)) (dZ (Ck (by omega)) (dZ rfl (dZ rfl (dZ rfl xd))))) ⟨rfl, trivial⟩ rfl (by decide) (by decide) (by decide) rfl rfl rfl rfl (fun q hq => by rw [aD, if_neg (by omega), dh rfl hq]) (fun a _ => by split <;> rename_i e; rw [e]; rfl)⟩
 have hg : n = i := by simp at hg; omega
 subst hg
 refine ax ?_;show AWP _ _ _ _ _ _
 rcases n with _ | n
 ·refine cX (Wk.mk' (E' := [(2, .ptr 2 0), (4, .val (.one .nil))]) (S' := [(2, some gl)]) ⟨rfl, rfl, trivial⟩ ⟨rfl, trivial⟩) ?_;refine cX (Wk.rb (rb' := []) (st := mk 138 _ [(2, some gl)] [17]) fun k hk => Or.inr fun cs hc => ?_) ?_
  ·have hk : k ∈ [17] := hk
   simp at hk; subst hk
   have : so [(2, some gl)] 17 = some (.box cs) := hc
   cases this
  refine gQ fun _ O=>?_;refine ac rfl rfl (xw) rfl rfl rfl rfl ?_;refine ay rfl rfl rfl rfl rfl rfl ?_;refine ak rfl rfl rfl rfl rfl ?_;refine eQ O ?_;clear O;refine ab ?_;refine gQ fun _ O=>?_;refine Z9 ?_;refine az rfl rfl rfl ?_;refine Z9 ?_;refine eQ O ?_;clear O;refine ae (aG (α := Unit) (fun _ => mk 138 [(2, .ptr 2 0), (7, .ptr 7 0), (33, dI 0), (34, dI 0)] [(2, some gl), (7, some (.box (qzW 1).cs))] []) (fun _ => True) (fun _ => 0) () ?_ trivial ?_)
  ·exact Wk.mk' ⟨rfl, rfl, rfl, rfl, trivial⟩ ⟨rfl, rfl, trivial⟩
  rintro - -
  refine gQ fun _ O=>?_;refine Z6 ?_;refine eQ O ?_;clear O;refine ab ?_;refine aj rfl (fun h => by cases h) (fun _ => ?_);refine ax ?_;show AWP _ _ _ _ _ _;refine gQ fun _ O=>?_;refine Z7 ?_;refine ak rfl rfl rfl rfl rfl ?_;refine Z8 ?_;refine eQ O ?_;clear O;exact al aP
 have hok0 : EL (n + 1) 0 F (fun r => r) A := ⟨fun _ h => h, fun _ _ _ _ h => h, fun r c _ hr _ hc => oF r c hr hc, fun r c _ hr _ hc => (hF r c).symm⟩
 clear hF oF hg hi;refine cX (Wk.gkeep (B := 1000) (E' := [(2, .ptr 2 0), (4, .val (.one (.own 17 1 0 (n + 1))))]) (S0 := [(2, some gl), (17, some (.box (gP 1000 4 (n + 1) (n + 1) (fun r => r))))]) ⟨rfl, rfl, trivial⟩ ⟨rfl, rfl, trivial⟩ rfl (fun q hq => dh rfl hq)) ?_;generalize n + 1 = n at *
 obtain ⟨D, hD⟩ : ∃ D, D = elS n n 0 A 1 := ⟨_, rfl⟩
 rw [<- hD];refine gQ fun _ O=>?_;refine ac rfl rfl (xw) rfl rfl rfl rfl ?_;refine ay rfl rfl rfl rfl rfl (dX rfl rfl (o5 (by decide))) ?_;refine ak rfl rfl rfl rfl rfl ?_;refine eQ O ?_;clear O;refine ab ?_;refine gQ fun _ O=>?_;refine Z9 ?_;refine az rfl rfl rfl ?_;refine Z9 ?_;refine eQ O ?_;clear O
 refine ae (aG (α := Nat × Rat × (Nat -> Nat -> RW) × (Nat -> Nat) × (Nat -> Nat -> Rat)) (fun p => mk 138 [(2, .ptr 2 0), (4, .val (.one (.own 17 1 0 n))), (7, .ptr 7 0), (33, dI n), (34, dI p.1)] ([(2, some gl), (7, some (.box (qzW p.2.1).cs)), (17, some (.box (gP 1000 4 n n p.2.2.2.1)))] ++ bu 1000 4 n (fun s => aW n (p.2.2.1 s))) [17])
  (fun p => p.1 <= n /\ EL n p.1 p.2.2.1 p.2.2.2.1 p.2.2.2.2 /\ elB n (n - p.1) p.1 p.2.2.2.2 /\ elS n (n - p.1) p.1 p.2.2.2.2 p.2.1 = D /\ ql p.2.1 <= 1 + p.1 * 65536) (fun p => n - p.1) (0, 1, F, (fun r => r), A) ?_ ⟨Nat.zero_le _, hok0, hE1, hD.symm, (by show ql (1 : Rat) <= 1 + 0 * 65536; decide)⟩ ?_)
 ·exact Wk.gkeep (B := 1000) ⟨rfl, rfl, rfl, rfl, rfl, trivial⟩ ⟨rfl, rfl, rfl, trivial⟩ rfl (fun q hq => by rw [aD, if_neg (by omega), aD, if_neg (by omega), dh rfl hq])
 clear hok0 hE1 hD
 rintro ⟨i, det, V, σ, A'⟩ ⟨hi, hEL, hB, hD, hq⟩
 simp only at hi hEL hB hD hq ⊢
 refine gQ fun _ O=>?_;refine Z6 ?_;refine eQ O ?_;clear O;refine ab ?_;refine aj rfl (fun hg => ?_) (fun hg => ?_)
 ·have hg : i < n := by simp at hg; omega
  obtain ⟨d, hd⟩ : ∃ d, n - i = d + 1 := ⟨n - i - 1, by omega⟩
  rw [hd] at hB hD;refine ag ?_;show AWP _ _ _ _ _ _;refine ab ?_;refine ae ?_;refine gQ fun _ O=>?_;refine Z9 ?_;refine Z8 ?_;refine eQ O ?_;clear O;refine gQ fun _ O=>?_;refine Z9 ?_;refine Z8 ?_;refine eQ O ?_;clear O;refine ab ?_
  refine ae (aG (α := Nat) (fun k => mk 138 [(2, .ptr 2 0), (4, .val (.one (.own 17 1 0 n))), (7, .ptr 7 0), (8, dI i), (9, dI k), (33, dI n), (34, dI i)] ([(2, some gl), (7, some (.box (qzW det).cs)), (17, some (.box (gP 1000 4 n n σ)))] ++ bu 1000 4 n (fun s => aW n (V s))) [17])
   (fun k => i <= k /\ k <= n /\ ∀ r, i <= r -> r < k -> A' r i = 0) (fun k => n - k) i ?_ ⟨Nat.le_refl _, hi, fun r h1 h2 => by omega⟩ ?_)
  ·exact Wk.gkeep (B := 1000) ⟨rfl, rfl, rfl, rfl, rfl, rfl, rfl, trivial⟩ ⟨rfl, rfl, rfl, trivial⟩ rfl (fun q hq => dh rfl hq)
  rintro k ⟨hik, hkn, hz⟩
  have lt : decide ((k : Int) < n) = true -> k < n := fun h => by simp at h; omega
  have okk : decide ((k : Int) < n) = true -> (V (σ k) i).OK 16777216 := fun h => (hEL.ok k i hik (lt h) (Nat.le_refl _) hg).mono rfl
  have P1 : decide ((k : Int) < n) = true -> ((V (σ k) i).v.num.sign == 0) = decide (k < n /\ A' k i = 0) := fun h => by
   rw [hEL.v k i hik (lt h) (Nat.le_refl _) hg, Bool.eq_iff_iff, beq_iff_eq, decide_eq_true_eq, jZ];exact ⟨fun e => ⟨lt h, e⟩, fun e => e.2⟩
  have P2 : decide ((k : Int) < n) = false -> false = decide (k < n /\ A' k i = 0) := fun h => (decide_eq_false fun e => by simp at h; omega).symm
  refine ab ?_;refine bD (α := Bool) (fun c => mk 138 [(2, .ptr 2 0), (4, .val (.one (.own 17 1 0 n))), (7, .ptr 7 0), (8, dI i), (9, dI k), (33, dI n), (34, dI i), (52, dB c)] ([(2, some gl), (7, some (.box (qzW det).cs)), (17, some (.box (gP 1000 4 n n σ)))] ++ bu 1000 4 n (fun s => aW n (V s))) [17]) (fun c => c = decide (k < n /\ A' k i = 0)) ?_ ?_
  ·refine c6 fun _ O=>?_;refine ah tok rfl ?_;refine Z9 ?_;refine am ?_;refine ah tok rfl ?_;refine Z9 ?_;refine am ?_;refine ah tok rfl ?_;refine az rfl rfl rfl ?_;refine am ?_;refine ah tok rfl ?_;refine Z6 ?_;refine am ?_;refine ah tok rfl ?_;refine Z9 ?_;refine am ?_;refine da (fun h0 => ?_) (fun h0 => ?_)
   ·refine ah tok rfl ?_;refine Z9 ?_;refine am ?_;refine ah tok rfl ?_;refine Z9 ?_;refine am ?_;refine ah tok rfl ?_;refine aa rfl (x_o (i := k) (j := k) rfl rfl rfl rfl rfl (lt h0) (Nat.zero_add _)) rfl ?_;refine am ?_;refine ah tok rfl ?_;refine aM rfl (jE rfl rfl rfl rfl (dV (lt h0))) rfl ?_;refine am ?_;refine ah tok rfl ?_;refine Z9 ?_;refine am ?_;refine ah tok rfl ?_;refine aa rfl (x_o (i := i) (j := i) rfl rfl rfl rfl rfl hg (Nat.zero_add _)) rfl ?_;refine am ?_;refine ah tok rfl ?_;refine aM rfl (l_q rfl rfl rfl (ey rfl (hEL.lt k (lt h0))) hg) rfl ?_;refine am ?_;refine ah tok rfl ?_;refine ac rfl rfl (pK _ (okk h0)) rfl rfl rfl rfl ?_;refine am ?_;refine ah tok rfl ?_;refine Z6 ?_;refine am ?_;refine ah tok rfl ?_;refine Z4 ?_;refine am ?_;refine aN rfl (O _ ?_); clear O;exact ⟨_, (by first|exact P1 h0|exact P2 h0), Wk.gkeep (B := 1000) ⟨rfl, rfl, rfl, rfl, rfl, rfl, rfl, rfl, trivial⟩ ⟨rfl, rfl, rfl, trivial⟩ rfl (fun q hq => dh rfl hq)⟩
   ·refine aB rfl rfl ?_;refine aB rfl rfl ?_;refine aB rfl rfl ?_;refine aB rfl rfl ?_;refine aB rfl rfl ?_;refine aB rfl rfl ?_;refine aB rfl rfl ?_;refine aB rfl rfl ?_;refine aB rfl rfl ?_;refine ah tok rfl ?_;refine Z4 ?_;refine am ?_;refine aN rfl (O _ ?_); clear O;exact ⟨_, (by first|exact P1 h0|exact P2 h0), Wk.gkeep (B := 1000) ⟨rfl, rfl, rfl, rfl, rfl, rfl, rfl, rfl, trivial⟩ ⟨rfl, rfl, rfl, trivial⟩ rfl (fun q hq => dh rfl hq)⟩
  rintro c rfl
  refine aj rfl (fun hc => ?_) (fun hc => ?_)
  ·obtain ⟨hc1, hc2⟩ := of_decide_eq_true hc
   refine ag ?_;show AWP _ _ _ _ _ _;refine ae ?_;refine gR fun _ O=>?_;refine Z9 ?_;refine ai rfl (aF (c := ((k + 1 : Nat) : Int)) (by omega) (by omega)) rfl ?_;refine Z8 ?_;refine eQ O ?_;clear O;refine ⟨k + 1, by omega, ⟨by omega, hc1, fun r h1 h2 => ?_⟩, Wk.gkeep (B := 1000) ⟨rfl, rfl, rfl, rfl, rfl, rfl, rfl, trivial⟩ ⟨rfl, rfl, rfl, trivial⟩ rfl (fun q hq => dh rfl hq)⟩
   by_cases e : r = k
   ·rw [e]; exact hc2
   ·exact hz r h1 (by omega)
  have hc := of_decide_eq_false hc
  refine ax ?_;show AWP _ _ _ _ _ _
  have hpk : piv (fun r => A' r i) n (d + 1) i = k := Ch (d + 1) i (by omega) hik hkn hz (by
   by_cases e : k = n
   ·exact Or.inl e
   ·exact Or.inr fun e' => hc ⟨by omega, e'⟩)
  clear lt okk P1 P2;refine ab ?_;refine gQ fun _ O=>?_;refine Z9 ?_;refine Z9 ?_;refine az rfl rfl rfl ?_;refine Z6 ?_;refine eQ O ?_;clear O;refine aj rfl (fun hk => ?_) (fun hk => ?_)
  ·have hk : k = n := by simp at hk; omega
   have eD : D = 0 := by rw [<- hD]; simp only [elS]; rw [hpk, if_pos hk]
   rw [eD];refine gQ fun _ O=>?_;refine ac rfl rfl (yO) rfl rfl rfl rfl ?_;refine ak rfl rfl rfl rfl rfl ?_;refine Z8 ?_;refine eQ O ?_;clear O;exact al aP
  have hk : k < n := by simp at hk; omega
  have hnz : A' k i ≠ 0 := fun e => hc ⟨hk, e⟩
  have hD : elS n d (i + 1) (stp i k A') ((if k = i then det else -det) * A' k i) = D := by rw [<- hD]; simp only [elS]; rw [hpk, if_neg (show ¬ k = n by omega)]
  have hB1 := hB.1
  have hB2 := hB.2
  rw [hpk] at hB2
  have hB2 := hB2 hk
  clear hB hpk hc hz
  have hER := hEL.swap hg hik hk
  have qn : ql (-det) <= 1 + i * 65536 := Ag hq
  refine ag ?_;show AWP _ _ _ _ _ _;refine bD (α := Unit) (fun _ => mk 138 [(2, .ptr 2 0), (4, .val (.one (.own 17 1 0 n))), (7, .ptr 7 0), (8, dI i), (33, dI n), (34, dI i)] ([(2, some gl), (7, some (.box (qzW (if k = i then det else -det)).cs)), (17, some (.box (gP 1000 4 n n (fun r => σ (swp i k r)))))] ++ bu 1000 4 n (fun s => aW n (V s))) [17]) (fun _ => True) ?_ ?_
  ·refine gQ fun _ O=>?_;refine Z9 ?_;refine Z9 ?_;refine Z6 ?_;refine eQ O ?_;clear O;refine aj rfl (fun hx => ?_) (fun hx => ?_)
   ·have hx : k ≠ i := by simp at hx; omega
    have cn := Hk det (by omega)
    rw [if_neg hx];refine aL tok mixed (A := [[], [], [], [], [], [], [], [4, 5], [], [], [], [8, 9], [8, 9, 10], [8, 9, 10], [], []]) (an := [{}, {}, {}, {}, {}, {}, {}, {}, {}, {}, {}, {}, {}, {}, {}, {}]) rfl (by kernel_rfl) rfl fun _ O=>?_;refine Z9 ?_;refine Z9 ?_;refine Z9 ?_;refine Z9 ?_;refine Z9 ?_;refine Z9 ?_;refine aa rfl (x_o (i := k) (j := k) rfl rfl rfl rfl rfl hk (Nat.zero_add _)) rfl ?_;refine aM rfl (jE rfl rfl rfl rfl (dV hk)) rfl ?_;refine Z9 ?_;refine Z9 ?_;refine aa rfl (x_o (i := i) (j := i) rfl rfl rfl rfl rfl hg (Nat.zero_add _)) rfl ?_;refine aM rfl (jE rfl rfl rfl rfl (dV hg)) rfl ?_;refine aa rfl (x_o (i := i) (j := i) rfl rfl rfl rfl rfl hg (Nat.zero_add _)) rfl ?_;refine eW rfl (qj rfl rfl rfl (by rw [eZ]; exact hg)) rfl rfl rfl ?_;refine aa rfl (x_o (i := k) (j := k) rfl rfl rfl rfl rfl hk (Nat.zero_add _)) rfl ?_;refine eW rfl (qj rfl rfl rfl (by rw [List.length_set, eZ]; exact hk)) rfl rfl rfl ?_;refine eQ O ?_;clear O;refine gR fun _ O=>?_;refine Z7 ?_;refine ac rfl rfl (cn) rfl rfl rfl rfl ?_;refine ak rfl rfl rfl rfl rfl ?_;refine eQ O ?_;clear O;refine ⟨(), trivial, Wk.trans (Wk.rbE (rb' := [17]) rfl) (Wk.gkeep (B := 1000) ⟨rfl, rfl, rfl, rfl, rfl, rfl, trivial⟩ ⟨rfl, rfl, ?_, trivial⟩ rfl (fun q hq => by rw [aD, if_neg (by omega), aD, if_neg (by omega), aD, if_neg (by omega), dh rfl hq]))⟩;exact congrArg (fun l => some (OO.box l)) (Aj (by show σ (swp i k i) = σ k; unfold swp; rw [if_pos rfl]) (by show σ (swp i k k) = σ i; unfold swp; rw [if_neg hx, if_pos rfl]) (fun r h1 h2 => by show σ (swp i k r) = σ r; unfold swp; rw [if_neg h1, if_neg h2]))
   ·have hx : k = i := by simp at hx; omega
    rw [if_pos hx];refine ag ?_;refine ⟨(), trivial, Wk.gkeep (B := 1000) ⟨rfl, rfl, rfl, rfl, rfl, rfl, trivial⟩ ⟨rfl, rfl, ?_, trivial⟩ rfl (fun q hq => dh rfl hq)⟩
    exact congrArg (fun l => some (OO.box l)) (permC_congr fun r _ => by
     have : swp i k r = r := by unfold swp; (repeat' split) <;> omega
     rw [this])
  rintro - -
  have qd : ql (if k = i then det else -det) <= 1 + i * 65536 := by split <;> assumption
  generalize (if k = i then det else -det) = det1 at hD qd ⊢;generalize hτ : (fun r => σ (swp i k r)) = τ at hER ⊢
  have hvk : ∀ W, ER n i k (i + 1) W τ A' -> (W (τ i) i).v = A' k i := fun W h => by
   rw [h.v i i (Nat.le_refl _) hg (Nat.le_refl _) hg, if_pos (by omega)];simp only [stp]; rw [if_neg (by omega)]
   have : swp i k i = k := by unfold swp; rw [if_pos rfl]
   rw [this]
  have qki : ql (A' k i) <= 65536 := hB1 k i hik hk (Nat.le_refl _) hg
  have cm := oo (qzW det1) (V (τ i) i) (det1 * A' k i) ((aY (Nat.le_trans qd (by omega))).mono (k := 16777216) rfl) ((hER.ok i i (Nat.le_refl _) hg (Nat.le_refl _) hg).mono rfl) (by rw [bg, hvk V hER])
  have qd2 : ql (det1 * A' k i) <= 1 + (i + 1) * 65536 := Nat.le_trans (aR qd qki) (by rw [Nat.succ_mul]; omega)
  refine aL tok mixed (A := [[], [], [], [], [1, 2], [], [1, 2, 3], [1, 2, 3, 4, 5], [1, 2, 3, 4, 5, 6], []]) (an := [{}, {}, {}, {}, {}, {}, {}, {}, {}, {}]) rfl (by kernel_rfl) rfl fun _ O=>?_;refine Z7 ?_;refine Z9 ?_;refine Z9 ?_;refine aa rfl (x_o (i := i) (j := i) rfl rfl rfl rfl rfl hg (Nat.zero_add _)) rfl ?_;refine aM rfl (jE rfl rfl rfl rfl (dV hg)) rfl ?_;refine Z9 ?_;refine aa rfl (x_o (i := i) (j := i) rfl rfl rfl rfl rfl hg (Nat.zero_add _)) rfl ?_;refine aM rfl (l_q rfl rfl rfl (ey rfl (hER.lt i hg)) hg) rfl ?_;refine ac rfl rfl (cm) rfl rfl rfl rfl ?_;refine ak rfl rfl rfl rfl rfl ?_;refine eQ O ?_;clear O;refine gQ fun _ O=>?_;refine Z9 ?_;refine Z9 ?_;refine ai rfl (aF (c := ((i + 1 : Nat) : Int)) (by omega) (by omega)) rfl ?_;refine jX rfl rfl rfl (Iv (i := i) rfl rfl rfl rfl hg rfl rfl) rfl ?_;refine az rfl (HL rfl rfl hg) rfl ?_;refine Z9 ?_;refine eQ O ?_;clear O
  refine ae (aG (α := Nat × (Nat -> Nat -> RW)) (fun p => mk 138 [(2, .ptr 2 0), (4, .val (.one (.own 17 1 0 n))), (7, .ptr 7 0), (8, dI i), (33, dI n), (34, dI i), (91, tlS 17 n i), (92, dI (n - (i + 1) : Nat)), (93, dI p.1)] ([(2, some gl), (7, some (.box (qzW (det1 * A' k i)).cs)), (17, some (.box (gP 1000 4 n n τ)))] ++ bu 1000 4 n (fun s => aW n (p.2 s))) [17])
   (fun p => p.1 <= n - (i + 1) /\ ER n i k (i + 1 + p.1) p.2 τ A') (fun p => n - (i + 1) - p.1) (0, V) ?_ ⟨Nat.zero_le _, hER⟩ ?_)
  ·exact Wk.gkeep (B := 1000) ⟨rfl, rfl, rfl, rfl, rfl, rfl, rfl, rfl, rfl, trivial⟩ ⟨rfl, rfl, rfl, trivial⟩ rfl (fun q hq => by rw [aD, if_neg (by omega), dh rfl hq])
  clear cm hEL hER hvk
  rintro ⟨p, W⟩ ⟨hp, hER⟩
  simp only at hp hER ⊢
  refine gQ fun _ O=>?_;refine Z6 ?_;refine eQ O ?_;clear O;refine ab ?_;refine aj rfl (fun hx => ?_) (fun hx => ?_)
  ·have hx : p < n - (i + 1) := by simp at hx; omega
   obtain ⟨r, hr⟩ : ∃ r, r = i + 1 + p := ⟨_, rfl⟩
   have hrn : r < n := by omega
   have hir : i < r := by omega
   rw [<- hr] at hER
   have li := hER.lt i hg
   have lr := hER.lt r hrn
   have hne : τ r ≠ τ i := fun e => by have := hER.inj r i hrn hg e; omega
   have vi : ∀ c, i <= c -> c < n -> (W (τ i) c).v = A' k c := fun c h1 h2 => by
    rw [hER.v i c (Nat.le_refl _) hg h1 h2, if_pos hir];simp only [stp]; rw [if_neg (by omega)]
    have : swp i k i = k := by unfold swp; rw [if_pos rfl]
    rw [this]
   have vr : ∀ c, i <= c -> c < n -> (W (τ r) c).v = A' (swp i k r) c := fun c h1 h2 => by
    rw [hER.v r c (by omega) hrn h1 h2, if_neg (by omega)]
   have oi := fun c (h1 : i <= c) (h2 : c < n) => hER.ok i c (Nat.le_refl _) hg h1 h2
   have orr := fun c (h1 : i <= c) (h2 : c < n) => hER.ok r c (by omega) hrn h1 h2
   have hsr : i <= swp i k r /\ swp i k r < n := by unfold swp; (repeat' split) <;> omega
   have q1 := hB1 (swp i k r) i hsr.1 hsr.2 (Nat.le_refl _) hg
   have qq : ql (A' (swp i k r) i / A' k i) <= 131072 := sN q1 qki
   have cd := xI (W (τ r) i) (W (τ i) i) (A' (swp i k r) i / A' k i) ((orr i (Nat.le_refl _) hg).mono rfl) ((oi i (Nat.le_refl _) hg).mono rfl) (by rw [vi i (Nat.le_refl _) hg]; exact hnz) (by rw [vi i (Nat.le_refl _) hg, vr i (Nat.le_refl _) hg])
   have hsq : ∀ c, i <= c -> c < n -> ql (stp i k A' r c) <= 65536 := fun c h1 h2 => by
    by_cases e : c = i
    ·subst e
     have : stp c k A' r c = 0 := by simp only [stp]; rw [if_pos ⟨hir, Nat.le_refl _⟩]; grind
     rw [this]; exact Nat.le_trans iY (by decide)
    ·rcases d with _ | d
     ·omega
     ·exact hB2.1 r c (by omega) hrn (by omega) h2
   refine ag ?_;show AWP _ _ _ _ _ _;refine ab ?_;refine ae ?_;refine gQ fun _ O=>?_;refine aa rfl (Jr rfl rfl rfl rfl rfl hx) rfl ?_;refine aM rfl (jE rfl rfl rfl rfl (by rw [<- hr]; exact dV hrn)) rfl ?_;refine Z8 ?_;refine eQ O ?_;clear O;refine aL tok mixed (A := [[], [], [], [0, 1], [], [], [], [4, 5], [], [4, 5, 6], [4, 5, 6, 7, 8], [0, 1, 2, 4, 5, 6, 7, 8, 9], [0, 1, 2, 3, 4, 5, 6, 7, 8, 9, 10], [0, 1, 2, 3, 4, 5, 6, 7, 8, 9, 10, 11], [0, 1, 2, 3, 4, 5, 6, 7, 8, 9, 10, 11], [], [], []]) (an := [{}, {}, {}, {}, {}, {}, {}, {}, {}, {}, {}, {}, {}, {}, {}, { c := [109] }, {}, {}]) rfl (by kernel_rfl) rfl fun _ O=>?_;refine Z9 ?_;refine Z9 ?_;refine aa rfl (x_o (i := i) (j := i) rfl rfl rfl rfl rfl hg (Nat.zero_add _)) rfl ?_;refine aM rfl (l_q rfl rfl rfl (ey rfl lr) hg) rfl ?_;refine Z9 ?_;refine Z9 ?_;refine aa rfl (x_o (i := i) (j := i) rfl rfl rfl rfl rfl hg (Nat.zero_add _)) rfl ?_;refine aM rfl (jE rfl rfl rfl rfl (dV hg)) rfl ?_;refine Z9 ?_;refine aa rfl (x_o (i := i) (j := i) rfl rfl rfl rfl rfl hg (Nat.zero_add _)) rfl ?_;refine aM rfl (l_q rfl rfl rfl (ey rfl li) hg) rfl ?_;refine ac rfl rfl (cd) rfl rfl rfl rfl ?_;refine Z9 ?_;refine aq rfl rfl rfl ?_;refine aq rfl rfl rfl ?_;refine ay rfl rfl rfl rfl rfl (dX (by repeat (first|exact xd|refine dZ rfl ?_|refine dZ (Ck (by omega)) ?_|refine dZ (II (by omega)) ?_|refine dZ (Is (by decide)) ?_)) rfl (o5 (by decide))) ?_;refine ak rfl rfl rfl rfl rfl ?_;refine Z8 ?_;refine eQ O ?_;clear O;refine gQ fun _ O=>?_;refine Z9 ?_;refine Z8 ?_;refine eQ O ?_;clear O
   refine ae (aG (α := Nat) (fun j => mk 138 [(2, .ptr 2 0), (4, .val (.one (.own 17 1 0 n))), (7, .ptr 7 0), (8, dI i), (11, .val (.one (.own (1000 + τ r) 4 0 n))), (12, .ptr 12 0), (14, dI j), (33, dI n), (34, dI i), (91, tlS 17 n i), (92, dI (n - (i + 1) : Nat)), (93, dI p)] ([(2, some gl), (7, some (.box (qzW (det1 * A' k i)).cs)), (12, some (.box (qzW (A' (swp i k r) i / A' k i)).cs)), (17, some (.box (gP 1000 4 n n τ)))] ++ bu 1000 4 n (fun s => aW n (wV W (τ r) i j (fun c => stp i k A' r c) s))) [17])
    (fun j => i <= j /\ j <= n) (fun j => n - j) i ?_ ⟨Nat.le_refl _, hi⟩ ?_)
   ·simp only [Jt];exact Wk.gkeep (B := 1000) ⟨rfl, rfl, rfl, rfl, rfl, rfl, rfl, rfl, rfl, rfl, rfl, rfl, trivial⟩ ⟨rfl, rfl, rfl, rfl, trivial⟩ rfl (fun q hq => by rw [aD, if_neg (by omega), aD, if_neg (by omega), dh rfl hq])
   rintro j ⟨hij, hjn⟩
   refine ab ?_;refine gQ fun _ O=>?_;refine Z9 ?_;refine Z9 ?_;refine az rfl rfl rfl ?_;refine Z6 ?_;refine eQ O ?_;clear O;refine aj rfl (fun hy => ?_) (fun hy => ?_)
   ·have hy : j < n := by simp at hy; omega
    have cl := ng (W (τ r) j) (qzW (A' (swp i k r) i / A' k i)) (W (τ i) j) (stp i k A' r j) ((orr j hij hy).mono rfl) ((aY qq).mono rfl) ((oi j hij hy).mono rfl) (by rw [bg, vr j hij hy, vi j hij hy]; simp only [stp]; rw [if_pos ⟨hir, hij⟩])
    refine ag ?_;show AWP _ _ _ _ _ _;refine ab ?_;refine ae ?_;refine bJ tok mixed (A := [[], [], [], [], [], [2, 3], [], [], [], [], [7, 8], [], [7, 8, 9], [7, 8, 9, 10, 11], [2, 3, 4, 7, 8, 9, 10, 11, 12], [], []]) (an := [{}, {}, {}, {}, {}, {}, {}, {}, {}, {}, {}, {}, {}, {}, {}, {}, {}]) rfl (by kernel_rfl) rfl fun _ O=>?_;refine Z9 ?_;refine Z9 ?_;refine Z9 ?_;refine Z9 ?_;refine aa rfl (x_o (i := j) (j := j) rfl rfl rfl rfl rfl hy (Nat.zero_add _)) rfl ?_;refine aM rfl (qY (x := W (τ r) j) rfl rfl rfl (ey rfl lr) hy (by simp only [wV, if_true]; rw [if_neg (by omega)])) rfl ?_;refine Z7 ?_;refine Z9 ?_;refine Z9 ?_;refine aa rfl (x_o (i := i) (j := i) rfl rfl rfl rfl rfl hg (Nat.zero_add _)) rfl ?_;refine aM rfl (jE rfl rfl rfl rfl (dV hg)) rfl ?_;refine Z9 ?_;refine aa rfl (x_o (i := j) (j := j) rfl rfl rfl rfl rfl hy (Nat.zero_add _)) rfl ?_;refine aM rfl (qY (x := W (τ i) j) rfl rfl rfl (ey rfl li) hy (by simp only [wV]; rw [if_neg (Ne.symm hne)])) rfl ?_;refine ac rfl rfl (cl) rfl rfl rfl rfl ?_;refine aa rfl (x_o (i := j) (j := j) rfl rfl rfl rfl rfl hy (Nat.zero_add _)) rfl ?_;refine ak rfl (rV (qzW (stp i k A' r j)) rfl rfl (ey rfl lr) hy) rfl rfl rfl ?_;refine eQ O ?_;clear O;refine cX (Wk.gset (B := 1000) (f := τ r) (R' := fun s => aW n (wV W (τ r) i (j + 1) (fun c => stp i k A' r c) s)) (S0 := [(2, some gl), (7, some (.box (qzW (det1 * A' k i)).cs)), (12, some (.box (qzW (A' (swp i k r) i / A' k i)).cs)), (17, some (.box (gP 1000 4 n n τ)))]) (E' := [(2, .ptr 2 0), (4, .val (.one (.own 17 1 0 n))), (7, .ptr 7 0), (8, dI i), (11, .val (.one (.own (1000 + τ r) 4 0 n))), (12, .ptr 12 0), (14, dI j), (33, dI n), (34, dI i), (91, tlS 17 n i), (92, dI (n - (i + 1) : Nat)), (93, dI p)]) ⟨rfl, rfl, rfl, rfl, rfl, rfl, rfl, rfl, rfl, rfl, rfl, rfl, trivial⟩ rfl lr (fun s _ => ?_)) ?_
    ·by_cases e : s = τ r
     ·rw [if_pos e, e]; exact (Js W hij (fun c => stp i k A' r c)).symm
     ·rw [if_neg e];refine bn fun c _ => ?_;simp only [wV]; rw [if_neg e, if_neg e]
    show AWP _ _ _ _ _ _;refine gR fun _ O=>?_;refine Z9 ?_;refine ai rfl (aF (c := ((j + 1 : Nat) : Int)) (by omega) (by omega)) rfl ?_;refine Z8 ?_;refine eQ O ?_;clear O;exact ⟨j + 1, by omega, ⟨by omega, hy⟩, Wk.gkeep (B := 1000) ⟨rfl, rfl, rfl, rfl, rfl, rfl, rfl, rfl, rfl, rfl, rfl, rfl, trivial⟩ ⟨rfl, rfl, rfl, rfl, trivial⟩ rfl (fun q hq => dh rfl hq)⟩
   have hy : j = n := by simp at hy; omega
   subst hy
   refine ax ?_;show AWP _ _ _ _ _ _;refine gR fun _ O=>?_;refine ai rfl (aF (c := ((p + 1 : Nat) : Int)) (by omega) (by omega)) rfl ?_;refine Z9 ?_;refine eQ O ?_;clear O;exact ⟨(p + 1, wV W (τ r) i j (fun c => stp i k A' r c)), by show j - (i + 1) - (p + 1) < j - (i + 1) - p; omega, ⟨by show p + 1 <= j - (i + 1); omega, by show ER j i k (i + 1 + (p + 1)) _ τ A'; rw [show i + 1 + (p + 1) = r + 1 by omega]; exact hER.row hir hrn hsq⟩, Wk.gkeep (B := 1000) ⟨rfl, rfl, rfl, rfl, rfl, rfl, rfl, rfl, rfl, trivial⟩ ⟨rfl, rfl, rfl, trivial⟩ rfl (fun q hq => dh rfl hq)⟩
  have hx : i + 1 + p = n := by simp at hx; omega
  rw [hx] at hER;refine ax ?_;show AWP _ _ _ _ _ _;refine gR fun _ O=>?_;refine ai rfl (aF (c := ((i + 1 : Nat) : Int)) (by omega) (by omega)) rfl ?_;refine Z9 ?_;refine eQ O ?_;clear O
  have hd' : n - (i + 1) = d := by omega
  exact ⟨(i + 1, det1 * A' k i, W, τ, stp i k A'), by show n - (i + 1) < n - i; omega, ⟨hg, hER.done, by show elB n (n - (i + 1)) (i + 1) _; rw [hd']; exact hB2, by show elS n (n - (i + 1)) (i + 1) _ _ = D; rw [hd']; exact hD, qd2⟩, Wk.gkeep (B := 1000) ⟨rfl, rfl, rfl, rfl, rfl, trivial⟩ ⟨rfl, rfl, rfl, trivial⟩ rfl (fun q hq => dh rfl hq)⟩
 ·have hg : i = n := by simp at hg; omega
  subst hg
  have hD : det = D := by rw [Nat.sub_self] at hD; exact hD
  rw [hD];refine ax ?_;show AWP _ _ _ _ _ _;refine gQ fun _ O=>?_;refine Z7 ?_;refine ak rfl rfl rfl rfl rfl ?_;refine Z8 ?_;refine eQ O ?_;clear O;exact al aP
end Go.Proofs.YtceacleokgoooaaGreatDoor

/- Minors. No condition. -/
namespace Go.Proofs.YtceacleokgoooaaGreatDoor
attribute [local irreducible] aA

def kc (d i : Nat) : Nat := if i <= d then i else i - 1
theorem Gd {d i : Nat} (h : i ≠ d) : sk d (kc d i) = i := by unfold sk kc; split <;> split <;> omega
theorem ze {d i : Nat} (h : i ≠ d) : kc d (i + 1) = kc d i + 1 := by unfold kc; split <;> split <;> omega
theorem zf (d : Nat) : kc d (d + 1) = kc d d := by unfold kc; split <;> split <;> omega
theorem Gk {d n : Nat} (h : d < n) {i : Nat} (hi : i <= n) : kc d i <= n - 1 := by unfold kc; split <;> omega
theorem IX {d n : Nat} (h : d < n) : kc d n = n - 1 := by unfold kc; split <;> omega
def mz (F : Nat -> Nat -> RW) (d a b : Nat) : RW := qzW (F (sk d a) (sk d b)).v
def my (m : List (List RW)) (drop : Int) : List (List RW) × Int :=
 if cp m = true then (if 0 <= drop /\ drop < (m.length : Int) then (ba (m.length - 1) (m.length - 1) (mz (mtv m) drop.toNat), 0) else ([], 2)) else ([], 1)

set_option maxHeartbeats 1000000 in
theorem BI (m : List (List RW)) (drop : Int) (hl : m.length <= 9223372036854775806) (hr : ∀ r ∈ m, r.length <= 9223372036854775806) (ok : okM 65536 m) :
  Con Tryz.prog 61 [V1 (dMs m), dI drop] { v := .tup [.one (.d (dMs (my m drop).1)), .one (.d (lI (my m drop).2))] } := by
 refine Z3 Tryz.func61 ?_
 intro w0 X
 rw [ap _ _ [(0, V1 (dMs m)), (1, dI drop)] rfl rfl];refine gQ fun _ O=>?_;refine Z8 ?_;refine Z8 ?_;refine eQ O ?_;clear O;refine ab ?_;refine ae ?_;refine gQ fun _ O=>?_;refine Z9 ?_;refine ac rfl rfl (nf m hl hr ok) rfl rfl rfl rfl ?_;refine dJ rfl rfl rfl ?_;refine Z8 ?_;refine eQ O ?_;clear O;refine aj rfl (fun hc => ?_) (fun hc => ?_)
 ·have e : my m drop = ([], 1) := by rw [my, if_neg]; intro h; rw [h] at hc; cases hc
  rw [e];refine gQ fun _ O=>?_;refine Z8 ?_;refine Z8 ?_;refine eQ O ?_;clear O;exact al aP
 have hc : cp m = true := by simpa using hc
 rw [my, if_pos hc]
 obtain ⟨hv1, hv2, _⟩ := of_decide_eq_true hc
 obtain ⟨n, hn⟩ : ∃ n, m.length = n := ⟨_, rfl⟩
 have hm : m = ba n n (mtv m) := nF hn (fun r hr => (hv2 r hr).trans hn)
 have oF : ∀ i j, i < n -> j < n -> (mtv m i j).OK 65536 := fun i j hi hj => by rw [hm] at ok; exact lJ ok hi hj
 rw [hn] at hv1 ⊢;generalize mtv m = F at *;clear hv2 hc hr hl ok hn
 subst hm
 refine bD (α := Bool) (fun c => mk 57 [(0, V1 (dMs (ba n n F))), (1, dI drop), (16, dB c)] [] []) (fun c => c = !decide (0 <= drop /\ drop < (n : Int))) ?_ ?_
 ·refine c6 fun _ O=>?_;refine ah tok rfl ?_;refine Z9 ?_;refine am ?_;refine ah tok rfl ?_;refine Z6 ?_;refine am ?_;refine ah tok rfl ?_;refine Z9 ?_;refine am ?_;refine da (fun h0 => ?_) (fun h0 => ?_)
  ·refine aB rfl rfl ?_;refine aB rfl rfl ?_;refine aB rfl rfl ?_;refine aB rfl rfl ?_;refine ah tok rfl ?_;refine Z4 ?_;refine am ?_;refine ah tok rfl ?_;refine Z8 ?_;refine am ?_;refine aN rfl (O _ ?_); clear O;exact ⟨_, (by simp only [decide_eq_true_eq, decide_eq_false_iff_not, Int.not_lt] at h0; rw [Bool.eq_iff_iff]; simp only [Bool.not_eq_true', decide_eq_false_iff_not, decide_eq_true_eq, true_iff, ge_iff_le]; omega), Wk.mk' ⟨rfl, rfl, rfl, trivial⟩ trivial⟩
  ·refine ah tok rfl ?_;refine Z9 ?_;refine am ?_;refine ah tok rfl ?_;refine Z9 ?_;refine am ?_;refine ah tok rfl ?_;refine az rfl (gc rfl rfl) rfl ?_;refine am ?_;refine ah tok rfl ?_;refine Z6 ?_;refine am ?_;refine ah tok rfl ?_;refine Z4 ?_;refine am ?_;refine ah tok rfl ?_;refine Z8 ?_;refine am ?_;refine aN rfl (O _ ?_); clear O;exact ⟨_, (by simp only [decide_eq_true_eq, decide_eq_false_iff_not, Int.not_lt] at h0; rw [Bool.eq_iff_iff]; simp only [Bool.not_eq_true', decide_eq_false_iff_not, decide_eq_true_eq, true_iff, ge_iff_le]; omega), Wk.mk' ⟨rfl, rfl, rfl, trivial⟩ trivial⟩
 rintro c rfl
 refine aj rfl (fun hd => ?_) (fun hd => ?_)
 ·rw [Bool.not_eq_true'] at hd
  have hd : ¬ (0 <= drop /\ drop < (n : Int)) := of_decide_eq_false hd
  rw [if_neg hd];refine gQ fun _ O=>?_;refine Z8 ?_;refine Z8 ?_;refine eQ O ?_;clear O;exact al aP
 rw [Bool.not_eq_false'] at hd
 have hd : 0 <= drop /\ drop < (n : Int) := of_decide_eq_true hd
 rw [if_pos hd]
 obtain ⟨d, rfl⟩ : ∃ d : Nat, drop = d := ⟨drop.toNat, by omega⟩
 have hdn : d < n := by omega
 rw [Int.toNat_natCast];refine ag ?_;show AWP _ _ _ _ _ _;refine gQ fun _ O=>?_;refine Z8 ?_;refine eQ O ?_;clear O;refine ab ?_;refine gQ fun _ O=>?_;refine Z9 ?_;refine az rfl (gc rfl rfl) rfl ?_;refine Z9 ?_;refine eQ O ?_;clear O;refine ae (aG (α := Nat) (fun i => mk 57 [(1, dI d), (6, bU 200 1 (kc d i)), (25, V1 (dMs (ba n n F))), (26, dI n), (27, dI i)] [(200, ca 1 ((ba (kc d i) (n - 1) (mz F d)).map cM) (kc d i))] []) (fun i => i <= n) (fun i => n - i) 0 ?_ (Nat.zero_le _) ?_)
 ·have e0 : kc d 0 = 0 := by unfold kc; rw [if_pos (by omega)]
  rw [e0];exact Wk.mk' ⟨rfl, rfl, rfl, rfl, rfl, trivial⟩ ⟨rfl, trivial⟩
 intro i hi
 refine gQ fun _ O=>?_;refine Z6 ?_;refine eQ O ?_;clear O;refine ab ?_;refine aj rfl (fun hg => ?_) (fun hg => ?_)
 ·have hg : i < n := by simp at hg; omega
  have n1 := sX (kc d i) (n - 1) (mz F d)
  have z1 := il (kc d i) (n - 1) (mz F d)
  refine ag ?_;show AWP _ _ _ _ _ _;refine ab ?_;refine ae ?_;refine gQ fun _ O=>?_;refine Z9 ?_;refine aa rfl (mN rfl rfl rfl rfl rfl hg) rfl ?_;refine Z7 ?_;refine Z8 ?_;refine Z8 ?_;refine eQ O ?_;clear O;refine ab ?_;refine gQ fun _ O=>?_;refine Z9 ?_;refine Z9 ?_;refine Z6 ?_;refine eQ O ?_;clear O;refine aj rfl (fun hx => ?_) (fun hx => ?_)
  ·have hx : i = d := by simp at hx; omega
   subst hx
   refine ax ?_;show AWP _ _ _ _ _ _;refine gR fun _ O=>?_;refine ai rfl (aF (c := ((i + 1 : Nat) : Int)) (by omega) (by omega)) rfl ?_;refine Z9 ?_;refine eQ O ?_;clear O;refine ⟨i + 1, by omega, hg, ?_⟩;rw [zf];exact Wk.mk' ⟨rfl, rfl, rfl, rfl, rfl, trivial⟩ ⟨rfl, trivial⟩
  have hx : i ≠ d := by simp at hx; omega
  have hsk := Gd hx
  have hks := ze hx
  rw [<- hks] at n1;generalize (ba (kc d i) (n - 1) (mz F d)).map cM = es at n1 z1 ⊢
  obtain ⟨a, ha⟩ : ∃ a, a = kc d i := ⟨_, rfl⟩
  rw [<- ha] at hsk hks n1 z1 ⊢;refine ag ?_;show AWP _ _ _ _ _ _;refine gQ fun _ O=>?_;refine Z8 ?_;refine eQ O ?_;clear O;refine ab ?_;refine gQ fun _ O=>?_;refine Z9 ?_;refine az rfl (wG rfl rfl) rfl ?_;refine Z9 ?_;refine eQ O ?_;clear O;refine ae (aG (α := Nat) (fun j => mk 57 [(1, dI d), (6, bU 200 1 a), (9, bU 201 4 (kc d j)), (25, V1 (dMs (ba n n F))), (26, dI n), (27, dI i), (35, V1 (dRs (cf n (F i)))), (36, dI n), (37, dI j)] [(200, ca 1 es a), (201, ca 4 (aW (kc d j) (mz F d a)) (kc d j))] []) (fun j => j <= n) (fun j => n - j) 0 ?_ (Nat.zero_le _) ?_)
  ·have e0 : kc d 0 = 0 := by unfold kc; rw [if_pos (by omega)]
   rw [e0];exact Wk.mk' ⟨rfl, rfl, rfl, rfl, rfl, rfl, rfl, rfl, rfl, trivial⟩ ⟨rfl, rfl, trivial⟩
  intro j hj
  refine gQ fun _ O=>?_;refine Z6 ?_;refine eQ O ?_;clear O;refine ab ?_;refine aj rfl (fun hf => ?_) (fun hf => ?_)
  ·have hf : j < n := by simp at hf; omega
   have n2 := sD (kc d j) (mz F d a)
   have z2 := dm (kc d j) (mz F d a)
   obtain ⟨b, hb⟩ : ∃ b, b = kc d j := ⟨_, rfl⟩
   have hb1 := Gk hdn hj
   rw [<- hb] at n2 z2 hb1 ⊢
   have cn := ik (F i j) ((oF i j hg hf).mono rfl)
   refine ag ?_;show AWP _ _ _ _ _ _;refine ab ?_;refine ae ?_;refine gQ fun _ O=>?_;refine Z9 ?_;refine aa rfl (x_v rfl rfl rfl rfl rfl hf) rfl ?_;refine Z7 ?_;refine ay rfl rfl rfl rfl rfl (by rcases a with _|a <;> rcases b with _|b <;> rfl) ?_;refine Z8 ?_;refine ak rfl rfl rfl rfl rfl ?_;refine eQ O ?_;clear O;refine gQ fun _ O=>?_;refine Z9 ?_;refine Z9 ?_;refine Z6 ?_;refine eQ O ?_;clear O;refine aj rfl (fun hy => ?_) (fun hy => ?_)
   ·have hy : j ≠ d := by simp at hy; omega
    have hskj := Gd hy
    have hksj := ze hy
    rw [<- hb] at hskj hksj
    have ev : mz F d a b = qzW (F i j).v := by unfold mz; rw [hsk, hskj]
    rw [ev, <- hksj] at n2;generalize aW b (mz F d a) = rs at n2 z2 ⊢
    rcases b with _ | b
    ·refine gR fun _ O=>?_;refine Z9 ?_;refine Z7 ?_;refine ac rfl rfl (cn) rfl rfl rfl rfl ?_;refine aC rfl rfl (by rcases a with _|a <;> rfl) rfl ?_;refine aO rfl (dS rfl rfl rfl rfl rfl (by decide) (Nat.le_of_ble_eq_true rfl) rfl (by simp) rfl (by simp) (by simp)) (by rcases a with _|a <;> rfl) rfl rfl ?_;refine Z8 ?_;refine eQ O ?_;clear O;show AWP _ _ _ _ _ _;refine gR fun _ O=>?_;refine ai rfl (aF (c := ((j + 1 : Nat) : Int)) (by omega) (by omega)) rfl ?_;refine Z9 ?_;refine eQ O ?_;clear O;refine ⟨j + 1, by omega, hf, ?_⟩;rw [hksj] at n2 ⊢;refine Wk.rn [1, 6, 9, 25, 26, 27, 35, 36, 37] [200, 49] 49 201 rfl rfl (by rcases a with _|a <;> rfl) ⟨rfl, (by rcases a with _|a <;> rfl), ?_, rfl, rfl, rfl, rfl, rfl, rfl, trivial⟩ ⟨(by rcases a with _|a <;> rfl), ?_, trivial⟩
     ·first
       | rfl
       | (show SV.val (.one (.own 201 4 0 _)) = _
          rw [List.length_append, z2]; rfl)
     ·first
       | (rw [<- n2, List.length_eq_zero_iff.1 z2]; rfl)
       | (rw [<- n2]; rfl)
    ·refine gR fun _ O=>?_;refine Z9 ?_;refine Z7 ?_;refine ac rfl rfl (cn) rfl rfl rfl rfl ?_;refine aC rfl rfl (by rcases a with _|a <;> rfl) rfl ?_;refine aO rfl (jn rfl rfl rfl rfl rfl rfl (by decide) (Nat.le_of_ble_eq_true rfl) rfl (by simp) rfl rfl z2.symm (by simp <;> omega)) (by rcases a with _|a <;> rfl) rfl rfl ?_;refine Z8 ?_;refine eQ O ?_;clear O;show AWP _ _ _ _ _ _;refine gR fun _ O=>?_;refine ai rfl (aF (c := ((j + 1 : Nat) : Int)) (by omega) (by omega)) rfl ?_;refine Z9 ?_;refine eQ O ?_;clear O;refine ⟨j + 1, by omega, hf, ?_⟩;rw [hksj] at n2 ⊢;refine Wk.rn [1, 6, 9, 25, 26, 27, 35, 36, 37] [200, 49] 49 201 rfl rfl (by rcases a with _|a <;> rfl) ⟨rfl, (by rcases a with _|a <;> rfl), ?_, rfl, rfl, rfl, rfl, rfl, rfl, trivial⟩ ⟨(by rcases a with _|a <;> rfl), ?_, trivial⟩
     ·first
       | rfl
       | (show SV.val (.one (.own 201 4 0 _)) = _
          rw [List.length_append, z2]; rfl)
     ·first
       | (rw [<- n2, List.length_eq_zero_iff.1 z2]; rfl)
       | (rw [<- n2]; rfl)
   ·have hy : j = d := by simp at hy; omega
    subst hy
    refine ag ?_;show AWP _ _ _ _ _ _;refine gR fun _ O=>?_;refine ai rfl (aF (c := ((j + 1 : Nat) : Int)) (by omega) (by omega)) rfl ?_;refine Z9 ?_;refine eQ O ?_;clear O;refine ⟨j + 1, by omega, hf, ?_⟩;rw [zf, <- hb];exact Wk.mk' ⟨rfl, rfl, rfl, rfl, rfl, rfl, rfl, rfl, rfl, trivial⟩ ⟨rfl, rfl, trivial⟩
  have hf : j = n := by simp at hf; omega
  subst hf
  refine ax ?_;show AWP _ _ _ _ _ _;rw [IX hdn]
  obtain ⟨p, hp⟩ : ∃ p, j - 1 = p + 1 := ⟨j - 2, by omega⟩
  have ha1 : a <= j - 1 := by rw [ha]; exact Gk hdn (by omega)
  rw [hp] at n1 ⊢
  rcases a with _ | a
  ·refine d3 [1, 6, 9, 25, 26, 27] [200, 201] 201 [(1, dI d), (6, bU 200 1 (0)), (9, V1 (dRs (cf (p + 1) (mz F d (0))))), (25, V1 (dMs (ba j j F))), (26, dI j), (27, dI i)] [(200, ca 1 es (0))] rfl ?_ ⟨rfl, trivial⟩ ?_
   ·exact ⟨rfl, rfl, bG (jb _ _).symm (by simp [cf]), rfl, rfl, rfl, trivial⟩
   refine gR fun _ O=>?_;refine Z9 ?_;refine Z9 ?_;refine aC rfl rfl rfl rfl ?_;refine aO rfl (dS rfl rfl rfl rfl rfl (by decide) (Nat.le_of_ble_eq_true rfl) rfl (by simp) rfl (by simp) (by simp)) rfl rfl rfl ?_;refine Z8 ?_;refine eQ O ?_;clear O;show AWP _ _ _ _ _ _;refine gR fun _ O=>?_;refine ai rfl (aF (c := ((i + 1 : Nat) : Int)) (by omega) (by omega)) rfl ?_;refine Z9 ?_;refine eQ O ?_;clear O;refine ⟨i + 1, by omega, hg, ?_⟩;rw [hks] at n1 ⊢;refine Wk.rn [1, 6, 25, 26, 27] [54] 54 200 rfl rfl rfl ⟨rfl, ?_, rfl, rfl, rfl, trivial⟩ ⟨?_, trivial⟩
   ·first
     | rfl
     | (show SV.val (.one (.own 200 1 0 _)) = _
        rw [List.length_append, z1]; rfl)
   ·first
     | (rw [<- n1, List.length_eq_zero_iff.1 z1]; rfl)
     | (rw [<- n1]; rfl)
  ·refine d3 [1, 6, 9, 25, 26, 27] [200, 201] 201 [(1, dI d), (6, bU 200 1 (a + 1)), (9, V1 (dRs (cf (p + 1) (mz F d (a + 1))))), (25, V1 (dMs (ba j j F))), (26, dI j), (27, dI i)] [(200, ca 1 es (a + 1))] rfl ?_ ⟨rfl, trivial⟩ ?_
   ·exact ⟨rfl, rfl, bG (jb _ _).symm (by simp [cf]), rfl, rfl, rfl, trivial⟩
   refine gR fun _ O=>?_;refine Z9 ?_;refine Z9 ?_;refine aC rfl rfl rfl rfl ?_;refine aO rfl (jn rfl rfl rfl rfl rfl rfl (by decide) (Nat.le_of_ble_eq_true rfl) rfl (by simp) rfl rfl z1.symm (by simp <;> omega)) rfl rfl rfl ?_;refine Z8 ?_;refine eQ O ?_;clear O;show AWP _ _ _ _ _ _;refine gR fun _ O=>?_;refine ai rfl (aF (c := ((i + 1 : Nat) : Int)) (by omega) (by omega)) rfl ?_;refine Z9 ?_;refine eQ O ?_;clear O;refine ⟨i + 1, by omega, hg, ?_⟩;rw [hks] at n1 ⊢;refine Wk.rn [1, 6, 25, 26, 27] [54] 54 200 rfl rfl rfl ⟨rfl, ?_, rfl, rfl, rfl, trivial⟩ ⟨?_, trivial⟩
   ·first
     | rfl
     | (show SV.val (.one (.own 200 1 0 _)) = _
        rw [List.length_append, z1]; rfl)
   ·first
     | (rw [<- n1, List.length_eq_zero_iff.1 z1]; rfl)
     | (rw [<- n1]; rfl)
 have hg : i = n := by simp at hg; omega
 subst hg
 refine ax ?_;show AWP _ _ _ _ _ _;rw [IX hdn]
 obtain ⟨p, hp⟩ : ∃ p, p = i - 1 := ⟨_, rfl⟩
 rw [<- hp]
 rcases p with _ | p
 ·refine gQ fun _ O=>?_;refine Z9 ?_;refine Z8 ?_;refine Z8 ?_;refine eQ O ?_;clear O;exact al aP
 ·refine d3 [6] [200] 200 [(6, V1 (dMs (ba (p + 1) (p + 1) (mz F d))))] [] rfl ?_ trivial ?_
  ·exact ⟨bG rfl (il _ _ _).symm, trivial⟩
  refine gQ fun _ O=>?_;refine Z9 ?_;refine Z8 ?_;refine Z8 ?_;refine eQ O ?_;clear O;exact al aP
end Go.Proofs.YtceacleokgoooaaGreatDoor

/- The fixed examples hold. No condition. -/
namespace Go.Proofs.YtceacleokgoooaaGreatDoor
end Go.Proofs.YtceacleokgoooaaGreatDoor

/- Displacements are as long as the steps of their links. No condition. -/
namespace Go.Proofs.YtceacleokgoooaaGreatDoor
attribute [local irreducible] aA

end Go.Proofs.YtceacleokgoooaaGreatDoor

/- The cost stays the same, if all positions are moved. No condition. -/
namespace Go.Proofs.YtceacleokgoooaaGreatDoor
attribute [local irreducible] aA

section
variable {T : Tab} {t : TypeId} {a b : Int}
end
end Go.Proofs.YtceacleokgoooaaGreatDoor

/- Components of a graph: the least member of each, by joined trees and by repeated minima. No condition. -/
namespace Go.Proofs.YtceacleokgoooaaGreatDoor

inductive Cnn (ps : List (Nat × Nat)) : Nat -> Nat -> Prop
 | refl (a : Nat) : Cnn ps a a
 | step {a b c : Nat} (h : Cnn ps a b) (hp : (b, c) ∈ ps \/ (c, b) ∈ ps) : Cnn ps a c
section
variable {ps : List (Nat × Nat)} {a b c : Nat}
theorem Cnn.trans (h : Cnn ps a b) (h' : Cnn ps b c) : Cnn ps a c := by
 induction h' with
 | refl => exact h
 | step _ hp ih => exact .step ih hp
theorem Cnn.one (hp : (a, b) ∈ ps \/ (b, a) ∈ ps) : Cnn ps a b := .step (.refl a) hp
theorem Cnn.symm (h : Cnn ps a b) : Cnn ps b a := by
 induction h with
 | refl => exact .refl _
 | step _ hp ih => exact (Cnn.one hp.symm).trans ih
theorem Cnn.mono {qs : List (Nat × Nat)} (hs : ∀ p ∈ ps, p ∈ qs) (h : Cnn ps a b) : Cnn qs a b := by
 induction h with
 | refl => exact .refl _
 | step _ hp ih => exact .step ih (hp.imp (hs _) (hs _))
theorem Cnn.nil (h : Cnn [] a b) : a = b := by
 induction h with
 | refl => rfl
 | step _ hp _ => rcases hp with hp | hp <;> cases hp
theorem Cnn.lt {n : Nat} (hn : ∀ p ∈ ps, p.1 < n /\ p.2 < n) (h : Cnn ps a b) (ha : a < n) : b < n := by
 induction h with
 | refl => exact ha
 | step _ hp _ => exact hp.elim (fun hp => (hn _ hp).2) (fun hp => (hn _ hp).1)
theorem Cnn.snoc {f t : Nat} : Cnn (ps ++ [(f, t)]) a b ↔ Cnn ps a b \/ (Cnn ps a f /\ Cnn ps t b) \/ (Cnn ps a t /\ Cnn ps f b) := by
 constructor
 ·intro h
  induction h with
  | refl => exact Or.inl (.refl _)
  | step _ hp ih =>
   have key : ∀ {x y : Nat}, (x, y) ∈ ps ++ [(f, t)] \/ (y, x) ∈ ps ++ [(f, t)] -> Cnn ps x y \/ (x = f /\ y = t) \/ (x = t /\ y = f) := by
    intro x y h
    simp only [List.mem_append, List.mem_singleton, Prod.mk.injEq] at h
    rcases h with (h | h) | (h | h)
    ·exact Or.inl (.one (Or.inl h))
    ·exact Or.inr (Or.inl h)
    ·exact Or.inl (.one (Or.inr h))
    ·exact Or.inr (Or.inr ⟨h.2, h.1⟩)
   rcases key hp with h | ⟨rfl, rfl⟩ | ⟨rfl, rfl⟩
   ·rcases ih with i | i | i
    ·exact Or.inl (i.trans h)
    ·exact Or.inr (Or.inl ⟨i.1, i.2.trans h⟩)
    ·exact Or.inr (Or.inr ⟨i.1, i.2.trans h⟩)
   ·rcases ih with i | i | i
    ·exact Or.inr (Or.inl ⟨i, .refl _⟩)
    ·exact Or.inr (Or.inl ⟨i.1, .refl _⟩)
    ·exact Or.inl i.1
   ·rcases ih with i | i | i
    ·exact Or.inr (Or.inr ⟨i, .refl _⟩)
    ·exact Or.inl i.1
    ·exact Or.inr (Or.inr ⟨i.1, .refl _⟩)
 ·have s : ∀ p ∈ ps, p ∈ ps ++ [(f, t)] := fun p hp => List.mem_append_left _ hp
  have e : Cnn (ps ++ [(f, t)]) f t := .one (Or.inl (by simp))
  rintro (h | h | h)
  ·exact h.mono s
  ·exact ((h.1.mono s).trans e).trans (h.2.mono s)
  ·exact ((h.1.mono s).trans e.symm).trans (h.2.mono s)
end

theorem uM {r : List Nat} (h : RG r) (v : Nat) : fd r (fd r v) = fd r v := by
 rw [kA h (fd r v), if_pos (nO h v)]
theorem Ax {r : List Nat} {i j x : Nat} (hi : i < r.length) : (r.set i x).getD j 0 = if j = i then x else r.getD j 0 := by
 rw [List.getD_eq_getElem?_getD, List.getElem?_set, List.getD_eq_getElem?_getD]
 by_cases h : i = j
 ·subst h; rw [if_pos rfl, if_pos rfl, if_pos hi]; rfl
 ·rw [if_neg h, if_neg (fun e => h e.symm)]
theorem C5 {r : List Nat} (h : RG r) {f t : Nat} (hf : fd r f < r.length) (ht : fd r t < r.length) (v : Nat) : fd (uni r f t) v = if fd r v = max (fd r f) (fd r t) then min (fd r f) (fd r t) else fd r v := by
 have hu := yA h f t
 have hm : max (fd r f) (fd r t) < r.length := by omega
 have hroot : r.getD (max (fd r f) (fd r t)) 0 = max (fd r f) (fd r t) := by
  rcases Nat.le_total (fd r f) (fd r t) with hl | hl
  ·rw [Nat.max_eq_right hl]; exact nO h t
  ·rw [Nat.max_eq_left hl]; exact nO h f
 have hmin : r.getD (min (fd r f) (fd r t)) 0 = min (fd r f) (fd r t) := by
  rcases Nat.le_total (fd r f) (fd r t) with hl | hl
  ·rw [Nat.min_eq_left hl]; exact nO h f
  ·rw [Nat.min_eq_right hl]; exact nO h t
 have hg : ∀ j, (uni r f t).getD j 0 = if j = max (fd r f) (fd r t) then min (fd r f) (fd r t) else r.getD j 0 := fun j => Ax hm
 have hmm : fd (uni r f t) (min (fd r f) (fd r t)) = min (fd r f) (fd r t) := by
  rw [kA hu, hg]
  by_cases e : min (fd r f) (fd r t) = max (fd r f) (fd r t)
  ·rw [if_pos e, if_pos rfl]
  ·rw [if_neg e, if_pos hmin]
 induction v using Nat.strongRecOn with
 | _ v ih =>
  by_cases hv : v = max (fd r f) (fd r t)
  ·have e1 : fd r v = v := by rw [kA h, hv, if_pos hroot]
   rw [e1, if_pos hv, kA hu, hg, if_pos hv]
   by_cases e : min (fd r f) (fd r t) = v
   ·rw [if_pos e]; exact e.symm
   ·rw [if_neg e]; exact hmm
  ·rw [kA hu, hg, if_neg hv]
   by_cases hr : r.getD v 0 = v
   ·have e1 : fd r v = v := by rw [kA h, if_pos hr]
    rw [if_pos hr, e1, if_neg hv]
   ·have hlt : r.getD v 0 < v := by have := h v; omega
    have e1 : fd r v = fd r (r.getD v 0) := by rw [kA h v, if_neg hr]
    rw [if_neg hr, ih _ hlt, e1]

def l5 (n : Nat) (ps : List (Nat × Nat)) : List Nat := ps.foldl (fun r p => uni r p.1 p.2) (List.range n)
theorem D3 (n : Nat) (ps : List (Nat × Nat)) : RG (l5 n ps) /\ (l5 n ps).length = n := by
 have : ∀ (ps : List (Nat × Nat)) (r : List Nat), RG r -> RG (ps.foldl (fun r p => uni r p.1 p.2) r) /\ (ps.foldl (fun r p => uni r p.1 p.2) r).length = r.length := by
  intro ps
  induction ps with
  | nil => intro r h; exact ⟨h, rfl⟩
  | cons p ps ih =>
   intro r h
   have := ih _ (yA h p.1 p.2)
   rw [p6] at this;exact this
 have h := this ps (List.range n) (rS n)
 rw [List.length_range] at h;exact h
theorem zW (n : Nat) (ps : List (Nat × Nat)) (p : Nat × Nat) : l5 n (ps ++ [p]) = uni (l5 n ps) p.1 p.2 := by
 rw [l5, List.foldl_append]; rfl
theorem wX {n v : Nat} (h : v < n) : fd (List.range n) v = v := by
 rw [kA (rS n), List.getD_eq_getElem?_getD, List.getElem?_range h]; simp
theorem Ep {α : Type} {P : List α -> Prop} (h0 : P []) (h1 : ∀ l a, P l -> P (l ++ [a])) : ∀ l, P l := by
 intro l
 have : ∀ k, ∀ l : List α, l.length = k -> P l := by
  intro k
  induction k with
  | zero => intro l hl; rw [List.length_eq_zero_iff.1 hl]; exact h0
  | succ k ih =>
   intro l hl
   rcases List.eq_nil_or_concat l with rfl | ⟨l', a, rfl⟩
   ·exact h0
   ·rw [List.concat_eq_append] at *;exact h1 _ _ (ih _ (by simpa using hl))
 exact this _ l rfl
theorem Bb (n : Nat) (ps : List (Nat × Nat)) (hn : ∀ p ∈ ps, p.1 < n /\ p.2 < n) : ∀ u v, u < n -> v < n -> (fd (l5 n ps) u = fd (l5 n ps) v ↔ Cnn ps u v) := by
 induction ps using Ep with
 | h0 =>
  intro u v hu hv
  have e : l5 n [] = List.range n := rfl
  rw [e, wX hu, wX hv];exact ⟨fun h => h ▸ .refl _, Cnn.nil⟩
 | h1 ps p ih =>
  obtain ⟨f, t⟩ := p
  intro u v hu hv
  have ih := ih fun p hp => hn p (List.mem_append_left _ hp)
  have hp := hn (f, t) (by simp)
  obtain ⟨o1, o2⟩ := D3 n ps
  have lt : ∀ {x}, x < n -> fd (l5 n ps) x < (l5 n ps).length := fun hx => by have := nP o1 (v := ‹_›); omega
  rw [zW, C5 o1 (lt hp.1) (lt hp.2), C5 o1 (lt hp.1) (lt hp.2), Cnn.snoc, <- ih u v hu hv, <- ih u f hu hp.1, <- ih t v hp.2 hv, <- ih u t hu hp.2, <- ih f v hp.1 hv]
  simp only
  generalize fd (l5 n ps) u = a;generalize fd (l5 n ps) v = b;generalize fd (l5 n ps) f = c;generalize fd (l5 n ps) t = d
  rcases Nat.le_total c d with h | h
  ·rw [Nat.max_eq_right h, Nat.min_eq_left h]
   split <;> split <;> omega
  ·rw [Nat.max_eq_left h, Nat.min_eq_right h]
   split <;> split <;> omega

/-! ### By repeated minima -/
end Go.Proofs.YtceacleokgoooaaGreatDoor

/- The components stay the same, if links are turned round. No condition. -/
namespace Go.Proofs.YtceacleokgoooaaGreatDoor
attribute [local irreducible] aA

end Go.Proofs.YtceacleokgoooaaGreatDoor

/- The reference's chain is the chain. No condition. -/
namespace Go.Proofs.YtceacleokgoooaaGreatDoor
attribute [local irreducible] aA

end Go.Proofs.YtceacleokgoooaaGreatDoor

/- Structs of integers are compared as their integers are. No condition. -/
namespace Go.Proofs.YtceacleokgoooaaGreatDoor
open Go.RowKit

section
variable {P : Program} {t : TypeId}
end
end Go.Proofs.YtceacleokgoooaaGreatDoor

/- Any chain is that of the reference. No condition. -/
namespace Go.Proofs.YtceacleokgoooaaGreatDoor
attribute [local irreducible] aA
open Go.RowKit

end Go.Proofs.YtceacleokgoooaaGreatDoor

/- The positions of a chain that are added up from its displacements have the cost 0. No condition. -/
namespace Go.Proofs.YtceacleokgoooaaGreatDoor
attribute [local irreducible] aA

section
variable {ts : List RW} {st : List PT} {w : Int}
end
end Go.Proofs.YtceacleokgoooaaGreatDoor

/- Laplacians are symmetric, and their rows have the sum 0. No condition. -/
namespace Go.Proofs.YtceacleokgoooaaGreatDoor

theorem As (f t : Nat) (w : Int) (i j : Nat) : lapD f t w i j = lapD f t w j i := by
 simp only [lapD]
 repeat' split
 all_goals omega
theorem LV.fn {n : Nat} {l : LK} (h : LV n l) : l.f.toNat ≠ l.t.toNat /\ l.f.toNat < n /\ l.t.toNat < n := by
 have := h.f; have := h.t; have := h.ne; omega
theorem s4 {n : Nat} (ls : List LK) (h : ∀ l ∈ ls, LV n l) (i j : Nat) : lapM ls i j = lapM ls j i := by
 have : ∀ k, k <= ls.length -> lapM (ls.take k) i j = lapM (ls.take k) j i := by
  intro k
  induction k with
  | zero => intro _; rfl
  | succ k ih =>
   intro hk
   have lv := (h ls[k] (List.getElem_mem (by omega))).fn
   rw [lM (by omega), pO lv.1, pO lv.1, As, ih (by omega)]
 have h := this ls.length (Nat.le_refl _)
 rwa [List.take_length] at h
end Go.Proofs.YtceacleokgoooaaGreatDoor

/- The Laplacian of any graph is that of the reference, symmetric, with rows whose sums are 0. No condition. -/
namespace Go.Proofs.YtceacleokgoooaaGreatDoor
attribute [local irreducible] aA

def rY (g : GR) : List (List RW) × Int := if d7 g then (iQ g.nodes.length (lapM g.links), 0) else ([], 1)
theorem C1 (g : GR) : Con Tryz.prog 60 [AG g.cs] { v := .tup [.one (.d (dMs (rY g).1)), .one (.d (lI (rY g).2))] } := by
 refine Z3 Tryz.func60 ?_
 intro w0 X
 rw [ap _ _ [(0, AG g.cs)] rfl rfl];refine gQ fun _ O=>?_;refine aS rfl rfl rfl rfl rfl rfl ?_;refine Z8 ?_;refine Z8 ?_;refine eQ O ?_;clear O;refine ab ?_;refine gQ fun _ O=>?_;refine Z7 ?_;refine ac rfl rfl (jG g) rfl rfl rfl rfl ?_;refine dJ rfl rfl rfl ?_;refine eQ O ?_;clear O;refine aj rfl (fun hc => ?_) (fun hc => ?_)
 ·rw [Bool.not_eq_true'] at hc
  have e : rY g = ([], 1) := by rw [rY, if_neg (by rw [hc]; simp)]
  rw [e];refine gQ fun _ O=>?_;refine Z8 ?_;refine Z8 ?_;refine eQ O ?_;clear O;exact al aP
 ·rw [Bool.not_eq_false'] at hc
  have e : rY g = (iQ g.nodes.length (lapM g.links), 0) := by rw [rY, if_pos hc]
  have c := C0 g (bO.1 hc)
  rw [e];generalize iQ g.nodes.length (lapM g.links) = m at c ⊢;refine ag ?_;show AWP _ _ _ _ _ _;refine gQ fun _ O=>?_;refine Z7 ?_;refine ac rfl rfl (c) rfl rfl rfl rfl ?_;refine Z8 ?_;refine Z8 ?_;refine eQ O ?_;clear O;exact al aP

end Go.Proofs.YtceacleokgoooaaGreatDoor

/- The reference's displacements, residuals and costs. No condition. -/
namespace Go.Proofs.YtceacleokgoooaaGreatDoor
attribute [local irreducible] aA

end Go.Proofs.YtceacleokgoooaaGreatDoor

/- The reference's components. No condition. -/
namespace Go.Proofs.YtceacleokgoooaaGreatDoor
attribute [local irreducible] aA

def prs (ls : List LK) : List (Nat × Nat) := ls.map fun l => (l.f.toNat, l.t.toNat)
theorem v7 (n : Nat) (ls : List LK) : g7 n ls = l5 n (prs ls) := by
 rw [g7, l5, prs, List.foldl_map]
end Go.Proofs.YtceacleokgoooaaGreatDoor

/- The matrix-tree theorem: determinants of Laplacians count spanning forests. No condition. -/
namespace Go.Proofs.YtceacleokgoooaaGreatDoor

structure WL where
 f : Nat
 t : Nat
 w : Rat
def uu (p : Nat -> Nat) (x : WL) (i : Nat) : Rat := (if p x.f = i then 1 else 0) - (if p x.t = i then 1 else 0)
def lpl (p : Nat -> Nat) : List WL -> Nat -> Nat -> Rat
 | [], _, _ => 0
 | x :: xs, i, j => lpl p xs i j + x.w * (uu p x i * uu p x j)
def act (p : Nat -> Nat) (g i : Nat) : Bool := decide (p i = i) && decide (i ≠ g)
def kk (p : Nat -> Nat) (g : Nat) (ls : List WL) (i j : Nat) : Rat := if act p g i = true /\ act p g j = true then lpl p ls i j else if i = j then 1 else 0
def mg (p : Nat -> Nat) (a b : Nat) (v : Nat) : Nat := if p v = b then a else p v
def tr0 (p : Nat -> Nat) : Nat -> List WL -> Rat
 | 0, _ => 1
 | _ + 1, [] => 0
 | left + 1, x :: xs => if p x.f = p x.t then tr0 p (left + 1) xs else tr0 p (left + 1) xs + x.w * tr0 (mg p (p x.f) (p x.t)) left xs
theorem Gc {p : Nat -> Nat} {a b : Nat} (x : WL) (hab : a ≠ b) (i : Nat) (hi : i ≠ b) : uu (mg p a b) x i = if i = a then uu p x a + uu p x b else uu p x i := by
 unfold uu mg
 by_cases h1 : p x.f = b <;> by_cases h2 : p x.t = b <;> by_cases h3 : i = a <;> simp only [h1, h2, h3, if_true, if_false] <;> (repeat' split) <;> first | grind | omega
theorem qT (p : Nat -> Nat) : ∀ (ls : List WL) (i j : Nat), lpl p ls i j = lpl p ls j i
 | [], _, _ => rfl
 | x :: xs, i, j => by simp only [lpl]; rw [qT p xs i j]; grind
theorem xT {p : Nat -> Nat} {a b : Nat} (hab : a ≠ b) : ∀ (ls : List WL) (i j : Nat), i ≠ b -> j ≠ b -> lpl (mg p a b) ls i j =
  if i = a then (if j = a then lpl p ls a a + lpl p ls a b + (lpl p ls b a + lpl p ls b b) else lpl p ls a j + lpl p ls b j) else if j = a then lpl p ls i a + lpl p ls i b else lpl p ls i j
 | [], i, j, _, _ => by simp only [lpl]; (repeat' split) <;> grind
 | x :: xs, i, j, hi, hj => by
  simp only [lpl];rw [xT hab xs i j hi hj, Gc x hab i hi, Gc x hab j hj]
  (repeat' split) <;> grind

structure VP (n : Nat) (p : Nat -> Nat) : Prop where
 lt : ∀ v, v < n -> p v < n
 id : ∀ v, v < n -> p (p v) = p v
theorem A7 {p : Nat -> Nat} {x : WL} (h : p x.f ≠ p x.t) (i : Nat) : uu p x i = if i = p x.f then 1 else if i = p x.t then -1 else 0 := by
 unfold uu
 by_cases h1 : i = p x.f
 ·rw [if_pos h1.symm, if_neg (fun e => h (h1.symm.trans e.symm)), if_pos h1]; grind
 ·rw [if_neg (fun e => h1 e.symm), if_neg h1]
  by_cases h2 : i = p x.t
  ·rw [if_pos h2.symm, if_pos h2]; grind
  ·rw [if_neg (fun e => h2 e.symm), if_neg h2]; grind
theorem bM {p : Nat -> Nat} {g i : Nat} : act p g i = true ↔ p i = i /\ i ≠ g := by
 unfold act; rw [Bool.and_eq_true, decide_eq_true_eq, decide_eq_true_eq]
theorem u5 {p : Nat -> Nat} {a b g g' i : Nat} (ha : p a = a) (hab : a ≠ b) (hi : i ≠ b) (hg : (g' = g /\ b ≠ g) \/ (b = g /\ g' = a /\ i ≠ a)) : act (mg p a b) g' i = act p g i := by
 rw [Bool.eq_iff_iff, bM, bM]
 unfold mg
 by_cases h : p i = b
 ·rw [if_pos h]
  constructor
  ·rintro ⟨h1, h2⟩
   subst h1
   exact absurd (ha.symm.trans h) hab
  ·rintro ⟨h1, h2⟩
   exact absurd (h1.symm.trans h) hi
 ·rw [if_neg h]
  constructor
  ·rintro ⟨h1, h2⟩
   refine ⟨h1, fun e => ?_⟩
   rcases hg with ⟨rfl, _⟩ | ⟨hb', _, _⟩
   ·exact h2 e
   ·exact hi (e.trans hb'.symm)
  ·rintro ⟨h1, h2⟩
   refine ⟨h1, fun e => ?_⟩
   rcases hg with ⟨rfl, _⟩ | ⟨_, hg', hia⟩
   ·exact h2 e
   ·exact hia (e.trans hg')
theorem cw {p : Nat -> Nat} {g : Nat} {ls : List WL} {i j : Nat} (hi : act p g i = true) (hj : act p g j = true) : kk p g ls i j = lpl p ls i j := by unfold kk; rw [if_pos ⟨hi, hj⟩]
theorem d6 {p : Nat -> Nat} {g : Nat} {ls : List WL} {i j : Nat} (h : ¬ (act p g i = true /\ act p g j = true)) : kk p g ls i j = if i = j then 1 else 0 := by unfold kk; rw [if_neg h]
theorem s5 {n : Nat} {p : Nat -> Nat} {g : Nat} {xs : List WL} {x : WL} {k : Nat} (hk : k < n + 1) (ha : act p g k = true) (hx : (p x.f = k /\ p x.t = g) \/ (p x.f = g /\ p x.t = k)) :
  dt (n + 1) (kk p g (x :: xs)) = dt (n + 1) (kk p g xs) + x.w * dt n (fun i c => kk p g xs (sk k i) (sk k c)) := by
 have hkg : k ≠ g := (bM.1 ha).2
 have hne : p x.f ≠ p x.t := by rcases hx with ⟨h1, h2⟩ | ⟨h1, h2⟩ <;> rw [h1, h2] <;> first | exact hkg | exact hkg.symm
 have hu : ∀ i, i ≠ g -> uu p x i * uu p x i = (if i = k then 1 else 0) /\ (i ≠ k -> uu p x i = 0) := by
  intro i hi
  rw [A7 hne]
  rcases hx with ⟨h1, h2⟩ | ⟨h1, h2⟩
  ·rw [h1, h2]
   by_cases h : i = k
   ·rw [if_pos h, if_pos h]; exact ⟨by grind, fun e => absurd h e⟩
   ·rw [if_neg h, if_neg h, if_neg hi]; exact ⟨by grind, fun _ => rfl⟩
  ·rw [h1, h2, if_neg hi]
   by_cases h : i = k
   ·rw [if_pos h, if_pos h]; exact ⟨by grind, fun e => absurd h e⟩
   ·rw [if_neg h, if_neg h]; exact ⟨by grind, fun _ => rfl⟩
 refine zz x.w hk ?_ ?_
 ·rw [cw ha ha, cw ha ha];simp only [lpl]
  have := (hu k hkg).1
  rw [if_pos rfl] at this;rw [this]; grind
 ·intro i c _ _ hik
  by_cases h : act p g i = true /\ act p g c = true
  ·rw [cw h.1 h.2, cw h.1 h.2];simp only [lpl]
   have : uu p x i * uu p x c = 0 := by
    by_cases h1 : i = k
    ·have h2 : c ≠ k := fun e => hik ⟨h1, e⟩
     rw [(hu c (bM.1 h.2).2).2 h2]; grind
    ·rw [(hu i (bM.1 h.1).2).2 h1]; grind
   rw [this]; grind
  ·rw [d6 h, d6 h]
end Go.Proofs.YtceacleokgoooaaGreatDoor

/- The matrix-tree theorem: both ends in sight; the theorem. No condition. -/
namespace Go.Proofs.YtceacleokgoooaaGreatDoor

def mrg (a b : Nat) (A : Nat -> Nat -> Rat) (i c : Nat) : Rat := (if c = a then (if i = a then A a a + A b a + (A a b + A b b) else A i a + A i b) else if i = a then A a c + A b c else A i c)
theorem Dn {n : Nat} {A : Nat -> Nat -> Rat} {a b : Nat} (ha : a < n) (hb : b < n) (hab : a ≠ b) : dt n (mrg a b A) = dt n A := by
 have h1 : dt n (fun i c => if i = a then A a c + A b c else A i c) = dt n A := lX 1 ha hb hab (fun c _ => by simp only [if_true]; grind) (fun i c _ _ hi => if_neg hi)
 rw [<- h1];refine pS (k := a) (l := b) 1 ha hb hab (fun i _ => ?_) (fun i c _ _ hc => ?_)
 ·unfold mrg
  simp only [if_true]
  by_cases hi : i = a
  ·rw [if_pos hi, if_pos hi, if_pos hi]; grind
  ·rw [if_neg hi, if_neg hi, if_neg hi]; grind
 ·unfold mrg
  rw [if_neg hc]
theorem Fl {n : Nat} {p : Nat -> Nat} {g : Nat} {xs : List WL} {x : WL} (ha' : p x.f < n + 1) (hb' : p x.t < n + 1) (ha : act p g (p x.f) = true) (hb : act p g (p x.t) = true) (hab : p x.f ≠ p x.t) :
  dt (n + 1) (kk p g (x :: xs)) = dt (n + 1) (kk p g xs) + x.w * dt n (fun i c => mrg (p x.f) (p x.t) (kk p g xs) (sk (p x.t) i) (sk (p x.t) c)) := by
 have hu := A7 hab
 generalize hA : p x.f = a at *;generalize hB : p x.t = b at *
 have ua : uu p x a = 1 := by rw [hu, if_pos rfl]
 have ub : uu p x b = -1 := by rw [hu, if_neg (Ne.symm hab), if_pos rfl]
 have uo : ∀ i, i ≠ a -> i ≠ b -> uu p x i = 0 := fun i h1 h2 => by rw [hu, if_neg h1, if_neg h2]
 have key : ∀ i c, kk p g (x :: xs) i c = kk p g xs i c + x.w * (uu p x i * uu p x c) := by
  intro i c
  by_cases h : act p g i = true /\ act p g c = true
  ·rw [cw h.1 h.2, cw h.1 h.2]; rfl
  ·rw [d6 h, d6 h]
   have : uu p x i * uu p x c = 0 := by
    by_cases h1 : act p g i = true
    ·have h2 : ¬ act p g c = true := fun e => h ⟨h1, e⟩
     rw [uo c (fun e => h2 (e ▸ ha)) (fun e => h2 (e ▸ hb))]; grind
    ·rw [uo i (fun e => h1 (e ▸ ha)) (fun e => h1 (e ▸ hb))]; grind
   rw [this]; grind
 rw [<- Dn (A := kk p g (x :: xs)) ha' hb' hab, <- Dn (A := kk p g xs) ha' hb' hab];refine zz x.w hb' ?_ ?_
 ·unfold mrg
  rw [if_neg (Ne.symm hab), if_neg (Ne.symm hab), if_neg (Ne.symm hab), if_neg (Ne.symm hab), key, ub]; grind
 ·intro i c _ _ hic
  unfold mrg
  simp only [key]
  by_cases hc : c = a
  ·rw [if_pos hc, if_pos hc]
   by_cases hi : i = a
   ·rw [if_pos hi, if_pos hi, ua, ub]; grind
   ·rw [if_neg hi, if_neg hi, ua, ub]; grind
  ·rw [if_neg hc, if_neg hc]
   by_cases hi : i = a
   ·rw [if_pos hi, if_pos hi, ua, ub]; grind
   ·rw [if_neg hi, if_neg hi]
    by_cases hb1 : i = b
    ·have hc2 : c ≠ b := fun e => hic ⟨hb1, e⟩
     rw [uo c hc hc2]; grind
    ·rw [uo i hi hb1]; grind
theorem nA {n : Nat} {p : Nat -> Nat} {g : Nat} {xs : List WL} {k : Nat} (hk : k < n + 1) (h : ¬ act p g k = true) : dt (n + 1) (kk p g xs) = dt n (fun i c => kk p g xs (sk k i) (sk k c)) := by
 rw [rJ k hk (fun c _ hne => by rw [d6 (fun e => h e.1), if_neg (Ne.symm hne)]), d6 (fun e => h e.1), if_pos rfl]; grind
theorem HD {p : Nat -> Nat} {g a b : Nat} {xs : List WL} (ha : act p g a = true) (hb : act p g b = true) (hab : a ≠ b) {i j : Nat} (hi : i ≠ b) (hj : j ≠ b) : mrg a b (kk p g xs) i j = kk (mg p a b) g xs i j := by
 have pa := (bM.1 ha).1
 have hbg := (bM.1 hb).2
 have ei := u5 (g := g) (g' := g) pa hab hi (Or.inl ⟨rfl, hbg⟩)
 have ej := u5 (g := g) (g' := g) pa hab hj (Or.inl ⟨rfl, hbg⟩)
 by_cases h : act p g i = true /\ act p g j = true
 ·rw [cw (ei.trans h.1) (ej.trans h.2), xT hab xs i j hi hj]
  unfold mrg
  by_cases hja : j = a
  ·rw [if_pos hja]
   by_cases hia : i = a
   ·rw [if_pos hia, if_pos hia, if_pos hja, cw ha ha, cw hb ha, cw ha hb, cw hb hb]; grind
   ·rw [if_neg hia, if_neg hia, if_pos hja, cw h.1 ha, cw h.1 hb]
  ·rw [if_neg hja]
   by_cases hia : i = a
   ·rw [if_pos hia, if_pos hia, if_neg hja, cw ha h.2, cw hb h.2]
   ·rw [if_neg hia, if_neg hia, if_neg hja, cw h.1 h.2]
 ·rw [d6 (fun e => h ⟨ei.symm.trans e.1, ej.symm.trans e.2⟩)]
  unfold mrg
  by_cases hja : j = a
  ·have hni : ¬ act p g i = true := fun e => h ⟨e, hja ▸ ha⟩
   have hia : i ≠ a := fun e => hni (e ▸ ha)
   rw [if_pos hja, if_neg hia, d6 (fun e => hni e.1), d6 (fun e => hni e.1), if_neg hia, if_neg hi, if_neg (fun e => hia (e.trans hja))]; grind
  ·rw [if_neg hja]
   by_cases hia : i = a
   ·have hnj : ¬ act p g j = true := fun e => h ⟨hia ▸ ha, e⟩
    rw [if_pos hia, d6 (fun e => hnj e.2), d6 (fun e => hnj e.2), if_neg (Ne.symm hja), if_neg (Ne.symm hj), if_neg (fun e => hja (e.symm.trans hia))]; grind
   ·rw [if_neg hia, d6 h]
theorem Gj {p : Nat -> Nat} {g g' a b : Nat} {xs : List WL} (pa : p a = a) (hab : a ≠ b) (hg : (b = g /\ g' = a) \/ (a = g /\ g' = g)) {i j : Nat} (hi : i ≠ (if b = g then a else b)) (hj : j ≠ (if b = g then a else b)) (pb : p b = b) :
  kk p g xs i j = kk (mg p a b) g' xs i j := by
 have hag : ∀ k, k ≠ (if b = g then a else b) -> k ≠ b -> act (mg p a b) g' k = act p g k := fun k hk hkb => by
  rcases hg with ⟨h1, h2⟩ | ⟨h1, h2⟩
  ·rw [if_pos h1] at hk;exact u5 pa hab hkb (Or.inr ⟨h1, h2, hk⟩)
  ·exact u5 pa hab hkb (Or.inl ⟨h2, fun e => hab (h1.trans e.symm)⟩)
 have hb1 : ∀ k, k = b -> k ≠ (if b = g then a else b) -> act p g k = false /\ act (mg p a b) g' k = false := fun k hk hne => by
  by_cases h : b = g
  ·refine ⟨?_, ?_⟩
   ·rw [Bool.eq_false_iff]; intro e; exact (bM.1 e).2 (hk.trans h)
   ·rw [Bool.eq_false_iff]; intro e
    have := (bM.1 e).1
    unfold mg at this
    rw [hk, pb, if_pos rfl] at this;exact hab this
  ·rw [if_neg h] at hne; exact absurd hk hne
 by_cases hib : i = b
 ·obtain ⟨h1, h2⟩ := hb1 i hib hi
  rw [d6 (fun e => by rw [h1] at e; cases e.1), d6 (fun e => by rw [h2] at e; cases e.1)]
 by_cases hjb : j = b
 ·obtain ⟨h1, h2⟩ := hb1 j hjb hj
  rw [d6 (fun e => by rw [h1] at e; cases e.2), d6 (fun e => by rw [h2] at e; cases e.2)]
 have ei := hag i hi hib
 have ej := hag j hj hjb
 by_cases h : act p g i = true /\ act p g j = true
 ·rw [cw h.1 h.2, cw (ei.trans h.1) (ej.trans h.2), xT hab xs i j hib hjb]
  have hia : i ≠ a := by
   rcases hg with ⟨h1, _⟩ | ⟨h1, _⟩
   ·rw [if_pos h1] at hi; exact hi
   ·exact fun e => (bM.1 h.1).2 (e.trans h1)
  have hja : j ≠ a := by
   rcases hg with ⟨h1, _⟩ | ⟨h1, _⟩
   ·rw [if_pos h1] at hj; exact hj
   ·exact fun e => (bM.1 h.2).2 (e.trans h1)
  rw [if_neg hia, if_neg hja]
 ·rw [d6 h, d6 (fun e => h ⟨ei.symm.trans e.1, ej.symm.trans e.2⟩)]
theorem Fj {n : Nat} {p : Nat -> Nat} {g : Nat} {xs : List WL} {x : WL} (vp : VP (n + 1) p) (hf : x.f < n + 1) (ht : x.t < n + 1) (hab : p x.f ≠ p x.t) :
  dt (n + 1) (kk p g (x :: xs)) = dt (n + 1) (kk p g xs) + x.w * dt (n + 1) (kk (mg p (p x.f) (p x.t)) (if p x.t = g then p x.f else g) xs) := by
 have pa := vp.id x.f hf
 have pb := vp.id x.t ht
 have la := vp.lt x.f hf
 have lb := vp.lt x.t ht
 by_cases hbg : p x.t = g
 ·rw [if_pos hbg]
  have act_a : act p g (p x.f) = true := bM.2 ⟨pa, fun e => hab (e.trans hbg.symm)⟩
  rw [s5 la act_a (Or.inl ⟨rfl, hbg⟩), nA (p := mg p (p x.f) (p x.t)) (g := p x.f) la (fun e => (bM.1 e).2 rfl)]
  congr 2
  refine aJ fun i c _ _ => ?_;exact Gj pa hab (Or.inl ⟨hbg, rfl⟩) (by rw [if_pos hbg]; exact m7 _ _) (by rw [if_pos hbg]; exact m7 _ _) pb
 ·rw [if_neg hbg]
  have act_b : act p g (p x.t) = true := bM.2 ⟨pb, hbg⟩
  have nact : ¬ act (mg p (p x.f) (p x.t)) g (p x.t) = true := fun e => by
   have := (bM.1 e).1
   unfold mg at this
   rw [pb, if_pos rfl] at this;exact hab this
  rw [nA (p := mg p (p x.f) (p x.t)) (g := g) lb nact]
  by_cases hag : p x.f = g
  ·rw [s5 lb act_b (Or.inr ⟨hag, rfl⟩)]
   congr 2
   refine aJ fun i c _ _ => ?_;exact Gj pa hab (Or.inr ⟨hag, rfl⟩) (by rw [if_neg hbg]; exact m7 _ _) (by rw [if_neg hbg]; exact m7 _ _) pb
  ·have act_a : act p g (p x.f) = true := bM.2 ⟨pa, hag⟩
   rw [Fl la lb act_a act_b hab]
   congr 2
   refine aJ fun i c _ _ => ?_;exact HD act_a act_b hab (m7 _ _) (m7 _ _)
end Go.Proofs.YtceacleokgoooaaGreatDoor

/- The matrix-tree theorem. No condition. -/
namespace Go.Proofs.YtceacleokgoooaaGreatDoor

def cnt (p : Nat -> Nat) : Nat -> Nat
 | 0 => 0
 | n + 1 => cnt p n + if p n = n then 1 else 0
theorem tw {p q : Nat -> Nat} : ∀ {n : Nat}, (∀ v, v < n -> (p v = v ↔ q v = v)) -> cnt p n = cnt q n
 | 0, _ => rfl
 | n + 1, h => by
  simp only [cnt];rw [tw (n := n) (fun v hv => h v (by omega))]
  by_cases e : p n = n
  ·rw [if_pos e, if_pos ((h n (by omega)).1 e)]
  ·rw [if_neg e, if_neg (fun e' => e ((h n (by omega)).2 e'))]
theorem rO {p q : Nat -> Nat} {b : Nat} (hb : p b = b) (hq : ¬ q b = b) : ∀ {n : Nat}, b < n -> (∀ v, v < n -> v ≠ b -> (p v = v ↔ q v = v)) -> cnt p n = cnt q n + 1
 | 0, h, _ => by omega
 | n + 1, h, hh => by
  simp only [cnt]
  by_cases e : b = n
  ·subst e
   rw [if_pos hb, if_neg hq, tw (n := b) (fun v hv => hh v (by omega) (by omega))]
  ·rw [rO hb hq (n := n) (by omega) (fun v hv => hh v (by omega))]
   by_cases e' : p n = n
   ·rw [if_pos e', if_pos ((hh n (by omega) (by omega)).1 e')]
   ·rw [if_neg e', if_neg (fun e'' => e' ((hh n (by omega) (by omega)).2 e''))]
theorem zE {p : Nat -> Nat} {v : Nat} (hv : p v = v) : ∀ {n : Nat}, v < n -> 1 <= cnt p n
 | 0, h => by omega
 | n + 1, h => by
  simp only [cnt]
  by_cases e : v = n
  ·subst e
   have e2 : (if p v = v then 1 else 0) = 1 := if_pos hv
   omega
  ·have := zE hv (n := n) (by omega)
   omega
theorem FR {p : Nat -> Nat} {u v : Nat} (hu : p u = u) (hv : p v = v) (hne : u ≠ v) {n : Nat} (lu : u < n) (lv : v < n) : 2 <= cnt p n := by
 have h1 := rO (p := p) (q := fun i => if i = u then u + 1 else p i) hu (by simp) lu (fun w hw hne => by simp only [if_neg hne])
 have h2 := zE (p := fun i => if i = u then u + 1 else p i) (v := v) (by simp only [if_neg (Ne.symm hne)]; exact hv) lv
 omega
theorem Dx {p : Nat -> Nat} {g : Nat} : ∀ {n : Nat}, 2 <= cnt p n -> ∃ v, v < n /\ p v = v /\ v ≠ g
 | 0, h => by simp [cnt] at h
 | n + 1, h => by
  simp only [cnt] at h
  by_cases e : p n = n
  ·by_cases e' : n = g
   ·rw [if_pos e] at h
    have h1 : 1 <= cnt p n := by omega
    have ex : ∀ {m : Nat}, 1 <= cnt p m -> ∃ v, v < m /\ p v = v := by
     intro m
     induction m with
     | zero => intro h; simp [cnt] at h
     | succ m ih =>
      intro h
      simp only [cnt] at h
      by_cases em : p m = m
      ·exact ⟨m, by omega, em⟩
      ·rw [if_neg em] at h
       obtain ⟨v, h1, h2⟩ := ih (by omega)
       exact ⟨v, by omega, h2⟩
    obtain ⟨v, h2, h3⟩ := ex h1
    exact ⟨v, by omega, h3, by omega⟩
   ·exact ⟨n, by omega, e, e'⟩
  ·rw [if_neg e] at h
   obtain ⟨v, h1, h2, h3⟩ := Dx (p := p) (g := g) (n := n) (by omega)
   exact ⟨v, by omega, h2, h3⟩
theorem Gx : ∀ n : Nat, dt n (fun i j => if i = j then 1 else 0) = 1
 | 0 => rfl
 | n + 1 => by
  rw [pR (fun i h0 _ => by rw [if_neg (by omega)]), aJ (B := fun i j => if i = j then 1 else 0) (fun i j _ _ => by
   by_cases h : i = j
   ·rw [if_pos h, if_pos (by omega)]
   ·rw [if_neg h, if_neg (by omega)]), Gx n, if_pos rfl]; grind
theorem CL {n : Nat} {p : Nat -> Nat} {g : Nat} {ls : List WL} (pg : p g = g) (hg : g < n) (h : cnt p n = 1) : dt n (kk p g ls) = 1 := by
 rw [<- Gx n];refine aJ fun i j hi hj => ?_;refine d6 (fun e => ?_)
 have h1 := bM.1 e.1
 have := FR pg h1.1 (Ne.symm h1.2) hg hi
 omega
theorem Fk {n : Nat} {p : Nat -> Nat} {g : Nat} (h : 2 <= cnt p n) : dt n (kk p g []) = 0 := by
 obtain ⟨v, h1, h2, h3⟩ := Dx (g := g) h
 have av : act p g v = true := bM.2 ⟨h2, h3⟩
 refine w7 h1 (fun c _ => ?_)
 by_cases hc : act p g c = true
 ·rw [cw av hc]; rfl
 ·rw [d6 (fun e => hc e.2), if_neg (fun e : v = c => hc (by rw [<- e]; exact av))]
theorem IQ {n : Nat} {p : Nat -> Nat} {a b : Nat} (vp : VP n p) (ha : a < n) (pa : p a = a) (hab : a ≠ b) : VP n (mg p a b) := by
 refine ⟨fun v hv => ?_, fun v hv => ?_⟩
 ·unfold mg; split
  ·exact ha
  ·exact vp.lt v hv
 ·have e : mg p a b a = a := by unfold mg; rw [if_neg (by rw [pa]; exact hab), pa]
  unfold mg
  by_cases h : p v = b
  ·rw [if_pos h]; exact e
  ·rw [if_neg h, vp.id v hv, if_neg h]
theorem HH {n : Nat} {p : Nat -> Nat} {a b : Nat} (pa : p a = a) (pb : p b = b) (hb : b < n) (hab : a ≠ b) : cnt p n = cnt (mg p a b) n + 1 := by
 refine rO pb (fun e => ?_) hb (fun v _ hvb => ?_)
 ·unfold mg at e; rw [pb, if_pos rfl] at e; exact hab e
 ·unfold mg
  by_cases h : p v = b
  ·rw [if_pos h]
   constructor
   ·intro e; exact absurd (e.symm.trans h) hvb
   ·intro e; subst e; exact absurd (pa.symm.trans h) hab
  ·rw [if_neg h]
theorem kU {n : Nat} : ∀ (ls : List WL) (p : Nat -> Nat) (g left : Nat), VP (n + 1) p -> p g = g -> g < n + 1 -> cnt p (n + 1) = left + 1 -> (∀ x ∈ ls, x.f < n + 1 /\ x.t < n + 1) -> dt (n + 1) (kk p g ls) = tr0 p left ls
 | ls, p, g, 0, _, pg, hg, hc, _ => by
  rw [CL pg hg (by omega)]
  cases ls <;> rfl
 | [], p, g, left + 1, _, _, _, hc, _ => by
  rw [Fk (by omega)]; rfl
 | x :: xs, p, g, left + 1, vp, pg, hg, hc, hl => by
  obtain ⟨hf, ht⟩ := hl x (List.mem_cons_self ..)
  have hxs : ∀ y ∈ xs, y.f < n + 1 /\ y.t < n + 1 := fun y hy => hl y (List.mem_cons_of_mem _ hy)
  have ih := kU xs p g (left + 1) vp pg hg hc hxs
  by_cases hab : p x.f = p x.t
  ·have e : dt (n + 1) (kk p g (x :: xs)) = dt (n + 1) (kk p g xs) := aJ fun i j _ _ => by
    by_cases h : act p g i = true /\ act p g j = true
    ·rw [cw h.1 h.2, cw h.1 h.2];simp only [lpl, uu];rw [hab]; grind
    ·rw [d6 h, d6 h]
   rw [e, ih];simp only [tr0]; rw [if_pos hab]
  ·have pa := vp.id x.f hf
   have pb := vp.id x.t ht
   have la := vp.lt x.f hf
   have lb := vp.lt x.t ht
   have c2 := HH pa pb lb hab
   have hg' : mg p (p x.f) (p x.t) (if p x.t = g then p x.f else g) = (if p x.t = g then p x.f else g) := by
    unfold mg
    by_cases h : p x.t = g
    ·rw [if_pos h, pa, if_neg hab]
    ·rw [if_neg h, pg, if_neg (Ne.symm h)]
   have lg' : (if p x.t = g then p x.f else g) < n + 1 := by split <;> assumption
   have ih2 := kU xs (mg p (p x.f) (p x.t)) (if p x.t = g then p x.f else g) left (IQ vp la pa hab) hg' lg' (by omega) hxs
   rw [Fj vp hf ht hab, ih, ih2];simp only [tr0]; rw [if_neg hab]
end Go.Proofs.YtceacleokgoooaaGreatDoor

/- Determinants of restricted matrices; too few links. No condition. -/
namespace Go.Proofs.YtceacleokgoooaaGreatDoor

def rs (S : Nat -> Bool) (A : Nat -> Nat -> Rat) (l : List Nat) (i j : Nat) : Rat := if S (l.getD i 0) = true /\ S (l.getD j 0) = true then A (l.getD i 0) (l.getD j 0) else if i = j then 1 else 0
end Go.Proofs.YtceacleokgoooaaGreatDoor

/- The form of a Laplacian. No condition. -/
namespace Go.Proofs.YtceacleokgoooaaGreatDoor

def ux (n : Nat) (p : Nat -> Nat) (y : Nat -> Rat) : List WL -> Rat
 | [] => 0
 | x :: xs => ux n p y xs + x.w * (sm n (fun i => uu p x i * y i) * sm n (fun i => uu p x i * y i))
theorem CH (n : Nat) (p : Nat -> Nat) (y : Nat -> Rat) : ∀ ls : List WL, fm n (lpl p ls) y = ux n p y ls
 | [] => by
  unfold fm
  exact iD fun i _ => by
   rw [iD (fun j _ => by simp only [lpl]; grind)]; grind
 | x :: xs => by
  have ih := CH n p y xs
  unfold fm at ih
  show sm n (fun i => y i * sm n (fun j => lpl p (x :: xs) i j * y j)) = ux n p y xs + x.w * (sm n (fun i => uu p x i * y i) * sm n (fun i => uu p x i * y i))
  rw [<- ih, <- jw, <- ez, <- gY];refine ar fun i _ => ?_;rw [ar (f := fun j => lpl p (x :: xs) i j * y j) (g := fun j => lpl p xs i j * y j + (x.w * uu p x i) * (uu p x j * y j)) (fun j _ => by simp only [lpl]; grind), gY, ez]
  grind
theorem A8 {n : Nat} {x : WL} (y : Nat -> Rat) (hf : x.f < n) (ht : x.t < n) : sm n (fun i => uu id x i * y i) = y x.f - y x.t := by
 unfold uu
 rw [ar (g := fun i => (if i = x.f then y x.f else 0) + (if i = x.t then - y x.t else 0)) (fun i _ => by
  simp only [id]
  by_cases h1 : x.f = i
  ·by_cases h2 : x.t = i
   ·rw [if_pos h1, if_pos h2, if_pos h1.symm, if_pos h2.symm, <- h1, h1, h2]; grind
   ·rw [if_pos h1, if_neg h2, if_pos h1.symm, if_neg (fun e => h2 e.symm), h1]; grind
  ·by_cases h2 : x.t = i
   ·rw [if_neg h1, if_pos h2, if_neg (fun e => h1 e.symm), if_pos h2.symm, h2]; grind
   ·rw [if_neg h1, if_neg h2, if_neg (fun e => h1 e.symm), if_neg (fun e => h2 e.symm)]; grind), gY, dD (j := x.f) _ hf (fun i _ h => if_neg h), dD (j := x.t) _ ht (fun i _ h => if_neg h), if_pos rfl, if_pos rfl]
 grind
theorem uw {n : Nat} {p : Nat -> Nat} {y : Nat -> Rat} : ∀ {ls : List WL}, (∀ x ∈ ls, 0 <= x.w) -> 0 <= ux n p y ls
 | [], _ => by show (0 : Rat) <= 0; grind
 | x :: xs, h => by
  show 0 <= ux n p y xs + x.w * _
  have h1 := uw (n := n) (p := p) (y := y) (ls := xs) fun z hz => h z (List.mem_cons_of_mem _ hz)
  have h2 := Rat.mul_nonneg (h x (List.mem_cons_self ..)) (iB (sm n (fun i => uu p x i * y i)))
  grind
theorem sY {n : Nat} {y : Nat -> Rat} : ∀ {ls : List WL}, (∀ x ∈ ls, 0 < x.w) -> (∀ x ∈ ls, x.f < n /\ x.t < n) -> ux n id y ls = 0 -> ∀ x ∈ ls, y x.f = y x.t
 | [], _, _, _ => fun _ h => by cases h
 | x :: xs, h, hl, hz => by
  have hz : ux n id y xs + x.w * (sm n (fun i => uu id x i * y i) * sm n (fun i => uu id x i * y i)) = 0 := hz
  obtain ⟨h1, h2⟩ := hl x (List.mem_cons_self ..)
  rw [A8 y h1 h2] at hz
  have n1 := uw (n := n) (p := id) (y := y) (ls := xs) fun z hz => by have := h z (List.mem_cons_of_mem _ hz); grind
  have hw := h x (List.mem_cons_self ..)
  have n2 := iB (y x.f - y x.t)
  have n3 := Rat.mul_nonneg (show 0 <= x.w by grind) n2
  have e1 : ux n id y xs = 0 := by grind
  have e2 : x.w * ((y x.f - y x.t) * (y x.f - y x.t)) = 0 := by grind
  intro z hz'
  rcases List.mem_cons.1 hz' with rfl | hz'
  ·rcases Rat.mul_eq_zero.1 e2 with e | e
   ·grind
   ·rcases Rat.mul_eq_zero.1 e with e | e <;> grind
  ·exact sY (ls := xs) (fun z hz => h z (List.mem_cons_of_mem _ hz)) (fun z hz => hl z (List.mem_cons_of_mem _ hz)) e1 z hz'
theorem pJ (S : Nat -> Bool) (f : Nat -> Rat) : ∀ n : Nat, sm ((List.range n).filter S).length (fun i => f (((List.range n).filter S).getD i 0)) = sm n (fun v => if S v = true then f v else 0)
 | 0 => rfl
 | n + 1 => by
  rw [bE, <- pJ S f n, List.range_succ, List.filter_append]
  by_cases h : S n = true
  ·have e : List.filter S [n] = [n] := by simp [h]
   rw [e, List.length_append]
   show sm (_ + 1) _ = _
   rw [bE, if_pos h]
   congr 1
   ·exact ar fun i hi => by
     rw [List.getD_eq_getElem?_getD, List.getElem?_append_left hi, <- List.getD_eq_getElem?_getD]
   ·congr 1
    simp
  ·have e : List.filter S [n] = [] := by simp [h]
   rw [e, List.append_nil, if_neg h]; grind
end Go.Proofs.YtceacleokgoooaaGreatDoor

/- The Laplacian of what hangs on the ground is positive definite. No condition. -/
namespace Go.Proofs.YtceacleokgoooaaGreatDoor

theorem nt (S : Nat -> Bool) : ∀ {n i : Nat}, i < ((List.range n).filter S).length -> S (((List.range n).filter S).getD i 0) = true /\ ((List.range n).filter S).getD i 0 < n /\ ((List.range (((List.range n).filter S).getD i 0)).filter S).length = i
 | 0, i, h => by simp at h
 | n + 1, i, h => by
  rw [List.range_succ, List.filter_append] at h ⊢
  rcases Nat.lt_or_ge i ((List.range n).filter S).length with hi | hi
  ·have e : ((List.range n).filter S ++ List.filter S [n]).getD i 0 = ((List.range n).filter S).getD i 0 := by
    rw [List.getD_eq_getElem?_getD, List.getElem?_append_left hi, <- List.getD_eq_getElem?_getD]
   rw [e]
   obtain ⟨h1, h2, h3⟩ := nt S (n := n) hi
   exact ⟨h1, by omega, h3⟩
  ·by_cases hS : S n = true
   ·have e : List.filter S [n] = [n] := by simp [hS]
    rw [e] at h ⊢;rw [List.length_append] at h
    have hi2 : i = ((List.range n).filter S).length := by simp at h; omega
    have e2 : ((List.range n).filter S ++ [n]).getD i 0 = n := by subst hi2; simp
    rw [e2];exact ⟨hS, by omega, hi2.symm⟩
   ·have e : List.filter S [n] = [] := by simp [hS]
    rw [e, List.append_nil] at h
    omega
theorem we (S : Nat -> Bool) (n : Nat) (z : Nat -> Rat) : ∃ y : Nat -> Rat, (∀ i, i < ((List.range n).filter S).length -> y (((List.range n).filter S).getD i 0) = z i) /\ ∀ v, S v = false -> y v = 0 := by
 refine ⟨fun v => if S v = true then z ((List.range v).filter S).length else 0, fun i hi => ?_, fun v hv => ?_⟩
 ·obtain ⟨h1, _, h3⟩ := nt S hi
  show (if S _ = true then z _ else 0) = _
  rw [if_pos h1, h3]
 ·show (if S v = true then z _ else 0) = _
  rw [hv, if_neg Bool.false_ne_true]
theorem Fz {n : Nat} {S : Nat -> Bool} {A : Nat -> Nat -> Rat} {z y : Nat -> Rat} (h1 : ∀ i, i < ((List.range n).filter S).length -> y (((List.range n).filter S).getD i 0) = z i) (h2 : ∀ v, S v = false -> y v = 0) :
  fm ((List.range n).filter S).length (fun i j => A (((List.range n).filter S).getD i 0) (((List.range n).filter S).getD j 0)) z = fm n A y := by
 unfold fm
 have cut : ∀ f : Nat -> Rat, sm n (fun v => if S v = true then f v * y v else 0) = sm n (fun v => f v * y v) := fun f => ar fun v _ => by
  by_cases h : S v = true
  ·rw [if_pos h]
  ·rw [if_neg h, h2 v (by simpa using h)]; grind
 have e1 : ∀ v, sm ((List.range n).filter S).length (fun j => A v (((List.range n).filter S).getD j 0) * z j) = sm n (fun u => A v u * y u) := fun v => by
  rw [ar (g := fun j => (fun u => A v u * y u) (((List.range n).filter S).getD j 0)) (fun j hj => by rw [<- h1 j hj]), pJ S (fun u => A v u * y u) n, cut]
 rw [ar (g := fun i => (fun v => sm n (fun u => A v u * y u) * y v) (((List.range n).filter S).getD i 0)) (fun i hi => by
  rw [e1, <- h1 i hi]; grind), pJ S (fun v => sm n (fun u => A v u * y u) * y v) n, cut]
 exact ar fun v _ => by grind
theorem yn {ls : List WL} {y : Nat -> Rat} (h : ∀ x ∈ ls, y x.f = y x.t) {u v : Nat} (hc : Cnn (ls.map fun x => (x.f, x.t)) u v) : y u = y v := by
 induction hc with
 | refl => rfl
 | step _ hp ih =>
  rw [ih]
  rcases hp with hp | hp
  ·obtain ⟨x, hx, e⟩ := List.mem_map.1 hp
   cases e; exact h x hx
  ·obtain ⟨x, hx, e⟩ := List.mem_map.1 hp
   cases e; exact (h x hx).symm
theorem HM {n : Nat} {ls : List WL} {S : Nat -> Bool} {g : Nat} (hw : ∀ x ∈ ls, 0 < x.w) (hl : ∀ x ∈ ls, x.f < n /\ x.t < n) (hg : S g = false) (hc : ∀ v, v < n -> S v = true -> Cnn (ls.map fun x => (x.f, x.t)) v g)
  {z : Nat -> Rat} (hz : ∃ i, i < ((List.range n).filter S).length /\ z i ≠ 0) : 0 < fm ((List.range n).filter S).length (fun i j => lpl id ls (((List.range n).filter S).getD i 0) (((List.range n).filter S).getD j 0)) z := by
 obtain ⟨y, h1, h2⟩ := we S n z
 rw [Fz h1 h2, CH]
 have nn := uw (n := n) (p := id) (y := y) (ls := ls) (fun x hx => by have := hw x hx; grind)
 have ne : ux n id y ls ≠ 0 := fun e => by
  have he := sY hw hl e
  obtain ⟨i, hi, hne⟩ := hz
  obtain ⟨a1, a2, _⟩ := nt S hi
  rw [<- h1 i hi, yn he (hc _ a2 a1), h2 g hg] at hne;exact hne rfl
 grind
end Go.Proofs.YtceacleokgoooaaGreatDoor

/- Potentials and effective resistance. No condition. -/
namespace Go.Proofs.YtceacleokgoooaaGreatDoor

def LU (u : Nat -> Rat) : List WL -> Nat -> Rat
 | [], _ => 0
 | x :: xs, i => LU u xs i + x.w * (uu id x i * (u x.f - u x.t))
def EN (u v : Nat -> Rat) : List WL -> Rat
 | [] => 0
 | x :: xs => EN u v xs + x.w * ((u x.f - u x.t) * (v x.f - v x.t))
def dl (i v : Nat) : Rat := if v = i then 1 else 0
section
variable {n : Nat}
theorem xu {u : Nat -> Rat} (i : Nat) : ∀ {ls : List WL}, (∀ x ∈ ls, x.f < n /\ x.t < n) -> sm n (fun j => lpl id ls i j * u j) = LU u ls i
 | [], _ => iD fun j _ => by simp only [lpl]; grind
 | x :: xs, h => by
  obtain ⟨h1, h2⟩ := h x (List.mem_cons_self ..)
  have ih := xu (u := u) i (ls := xs) fun y hy => h y (List.mem_cons_of_mem _ hy)
  rw [ar (g := fun j => lpl id xs i j * u j + (x.w * uu id x i) * (uu id x j * u j)) (fun j _ => by simp only [lpl]; grind), gY, ez, ih, A8 u h1 h2];simp only [LU]; grind
theorem yL {u v : Nat -> Rat} : ∀ {ls : List WL}, (∀ x ∈ ls, x.f < n /\ x.t < n) -> sm n (fun i => v i * LU u ls i) = EN u v ls
 | [], _ => iD fun j _ => by simp only [LU]; grind
 | x :: xs, h => by
  obtain ⟨h1, h2⟩ := h x (List.mem_cons_self ..)
  have ih := yL (u := u) (v := v) (ls := xs) fun y hy => h y (List.mem_cons_of_mem _ hy)
  rw [ar (g := fun i => v i * LU u xs i + (x.w * (u x.f - u x.t)) * (uu id x i * v i)) (fun j _ => by simp only [LU]; grind), gY, ez, ih, A8 v h1 h2];simp only [EN]; grind
theorem zO (u v : Nat -> Rat) : ∀ ls : List WL, EN u v ls = EN v u ls
 | [] => rfl
 | x :: xs => by simp only [EN]; rw [zO u v xs]; grind
theorem zP {u : Nat -> Rat} : ∀ {ls : List WL}, (∀ x ∈ ls, 0 < x.w) -> 0 <= EN u u ls
 | [], _ => by show (0 : Rat) <= 0; grind
 | x :: xs, h => by
  have h1 := zP (u := u) (ls := xs) fun y hy => h y (List.mem_cons_of_mem _ hy)
  have h2 := Rat.mul_nonneg (show 0 <= x.w by have := h x (List.mem_cons_self ..); grind) (iB (u x.f - u x.t))
  simp only [EN]; grind
theorem pV {u : Nat -> Rat} : ∀ {ls : List WL}, (∀ x ∈ ls, 0 < x.w) -> EN u u ls <= 0 -> ∀ x ∈ ls, u x.f = u x.t
 | [], _, _ => fun _ h => by cases h
 | x :: xs, h, hz => by
  have hw := h x (List.mem_cons_self ..)
  have h1 := zP (u := u) (ls := xs) fun y hy => h y (List.mem_cons_of_mem _ hy)
  have h2 := Rat.mul_nonneg (show 0 <= x.w by grind) (iB (u x.f - u x.t))
  simp only [EN] at hz
  have e2 : x.w * ((u x.f - u x.t) * (u x.f - u x.t)) = 0 := by grind
  intro z hz'
  rcases List.mem_cons.1 hz' with rfl | hz'
  ·rcases Rat.mul_eq_zero.1 e2 with e | e
   ·grind
   ·rcases Rat.mul_eq_zero.1 e with e | e <;> grind
  ·exact pV (ls := xs) (fun y hy => h y (List.mem_cons_of_mem _ hy)) (by grind) z hz'
theorem DN (a b : Rat) (u v : Nat -> Rat) : ∀ (ls : List WL) (i : Nat), LU (fun k => a * u k + b * v k) ls i = a * LU u ls i + b * LU v ls i
 | [], _ => by simp only [LU]; grind
 | x :: xs, i => by simp only [LU]; rw [DN a b u v xs i]; grind
theorem u7 {u : Nat -> Rat} (i : Nat) : ∀ {ls : List WL}, (∀ x ∈ ls, u x.f = u x.t) -> LU u ls i = 0
 | [], _ => rfl
 | x :: xs, h => by
  simp only [LU];rw [u7 i (ls := xs) (fun y hy => h y (List.mem_cons_of_mem _ hy)), h x (List.mem_cons_self ..)]; grind

def UF (n : Nat) (ls : List WL) (i j : Nat) (u : Nat -> Rat) : Prop := ∀ v, v < n -> LU u ls v = dl i v - dl j v
theorem Bt {i : Nat} (f : Nat -> Rat) (hi : i < n) : sm n (fun v => f v * dl i v) = f i := by
 rw [dD (j := i) _ hi (fun v _ h => by unfold dl; rw [if_neg h]; grind)]
 unfold dl; rw [if_pos rfl]; grind
theorem UF.en {ls : List WL} {i j : Nat} {u : Nat -> Rat} (h : UF n ls i j u) (hl : ∀ x ∈ ls, x.f < n /\ x.t < n) (hi : i < n) (hj : j < n) (v : Nat -> Rat) : EN u v ls = v i - v j := by
 rw [<- yL hl, ar (g := fun k => 1 * (v k * dl i k) + (-1) * (v k * dl j k)) (fun k hk => by rw [h k hk]; grind), kO, Bt v hi, Bt v hj]
 grind
def IsR (n : Nat) (ls : List WL) (i j : Nat) (r : Rat) : Prop := ∃ u, UF n ls i j u /\ u i - u j = r
theorem IsR.uniq {ls : List WL} {i j : Nat} {r s : Rat} (hl : ∀ x ∈ ls, x.f < n /\ x.t < n) (hi : i < n) (hj : j < n) (h : IsR n ls i j r) (h' : IsR n ls i j s) : r = s := by
 obtain ⟨u, h1, rfl⟩ := h
 obtain ⟨v, h2, rfl⟩ := h'
 rw [<- h2.en hl hi hj u, zO, h1.en hl hi hj v]
theorem UF.symm {ls : List WL} {i j : Nat} {u : Nat -> Rat} (h : UF n ls i j u) : UF n ls j i (fun k => - u k) := fun v hv => by
 have := DN (-1) 0 u u ls v
 have e : (fun k => - u k) = fun k => (-1) * u k + 0 * u k := by funext k; grind
 rw [e, this, h v hv]; grind
theorem IsR.symm {ls : List WL} {i j : Nat} {r : Rat} (h : IsR n ls i j r) : IsR n ls j i r := by
 obtain ⟨u, h1, rfl⟩ := h
 exact ⟨_, h1.symm, by grind⟩
theorem IsR.nn {ls : List WL} {i j : Nat} {r : Rat} (hw : ∀ x ∈ ls, 0 < x.w) (hl : ∀ x ∈ ls, x.f < n /\ x.t < n) (hi : i < n) (hj : j < n) (h : IsR n ls i j r) : 0 <= r := by
 obtain ⟨u, h1, rfl⟩ := h
 rw [<- h1.en hl hi hj u]; exact zP hw
theorem IsR.pos {ls : List WL} {i j : Nat} {r : Rat} (hw : ∀ x ∈ ls, 0 < x.w) (hl : ∀ x ∈ ls, x.f < n /\ x.t < n) (hi : i < n) (hj : j < n) (hij : i ≠ j) (h : IsR n ls i j r) : 0 < r := by
 have h0 := h.nn hw hl hi hj
 obtain ⟨u, h1, rfl⟩ := h
 refine Classical.byContradiction fun hc => ?_
 have e := h1.en hl hi hj u
 have hz := pV hw (u := u) (by grind)
 have := h1 i hi
 rw [u7 i hz] at this
 unfold dl at this
 rw [if_pos rfl, if_neg hij] at this
 grind
theorem IsR.same {ls : List WL} {i : Nat} : IsR n ls i i 0 := ⟨fun _ => 0, fun v _ => by rw [u7 v (fun _ _ => rfl)]; grind, by grind⟩
theorem UF.max {ls : List WL} {i j k : Nat} {u : Nat -> Rat} (h : UF n ls i j u) (hw : ∀ x ∈ ls, 0 < x.w) (hl : ∀ x ∈ ls, x.f < n /\ x.t < n) (hi : i < n) (hj : j < n) (hc : Cnn (ls.map fun x => (x.f, x.t)) k i) : u k <= u i := by
 let y : Nat -> Rat := fun v => if u v <= u i then 0 else u v - u i
 have hy : ∀ v, 0 <= y v := fun v => by show 0 <= (if u v <= u i then 0 else u v - u i); split <;> grind
 have yi : y i = 0 := if_pos (by grind)
 have key : ∀ l : List WL, (∀ x ∈ l, 0 < x.w) -> EN y y l <= EN u y l := by
  intro l
  induction l with
  | nil => intro _; show (0 : Rat) <= 0; grind
  | cons x xs ih =>
   intro hw
   have ih := ih fun z hz => hw z (List.mem_cons_of_mem _ hz)
   simp only [EN]
   have hx := hw x (List.mem_cons_self ..)
   have h2 : 0 <= (u x.f - u x.t) * (y x.f - y x.t) - (y x.f - y x.t) * (y x.f - y x.t) := by
    have e : (u x.f - u x.t) * (y x.f - y x.t) - (y x.f - y x.t) * (y x.f - y x.t) = ((u x.f - y x.f) - (u x.t - y x.t)) * (y x.f - y x.t) := by grind
    rw [e]
    show 0 <= ((u x.f - (if u x.f <= u i then 0 else u x.f - u i)) - (u x.t - (if u x.t <= u i then 0 else u x.t - u i))) * ((if u x.f <= u i then 0 else u x.f - u i) - (if u x.t <= u i then 0 else u x.t - u i))
    by_cases h1 : u x.f <= u i <;> by_cases h2 : u x.t <= u i
    ·rw [if_pos h1, if_pos h2]; grind
    ·rw [if_pos h1, if_neg h2]
     have := Rat.mul_nonneg (show 0 <= u i - u x.f by grind) (show 0 <= u x.t - u i by grind)
     grind
    ·rw [if_neg h1, if_pos h2]
     have := Rat.mul_nonneg (show 0 <= u i - u x.t by grind) (show 0 <= u x.f - u i by grind)
     grind
    ·rw [if_neg h1, if_neg h2]; grind
   have h3 := Rat.mul_nonneg (show 0 <= x.w by grind) h2
   grind
 have e := h.en hl hi hj y
 have e2 := key ls hw
 have e3 := hy j
 have hz := pV hw (u := y) (by grind)
 have := yn hz hc
 rw [yi] at this;refine Classical.byContradiction fun hn => ?_
 have : y k = u k - u i := if_neg hn
 grind
end
/-! ### One link apart -/
theorem Iq {x : WL} (i : Nat) : uu id x i = dl x.f i - dl x.t i := by
 unfold uu dl
 simp only [id]
 have e1 : (if x.f = i then (1 : Rat) else 0) = if i = x.f then 1 else 0 := by by_cases h : x.f = i; rw [if_pos h, if_pos h.symm]; rw [if_neg h, if_neg (Ne.symm h)]
 have e2 : (if x.t = i then (1 : Rat) else 0) = if i = x.t then 1 else 0 := by by_cases h : x.t = i; rw [if_pos h, if_pos h.symm]; rw [if_neg h, if_neg (Ne.symm h)]
 rw [e1, e2]
section
variable {n : Nat} {ls : List WL} {k : Nat} {r : Rat}
end
end Go.Proofs.YtceacleokgoooaaGreatDoor

/- Elimination over integers: all numbers of the way are small. No condition. -/
namespace Go.Proofs.YtceacleokgoooaaGreatDoor

structure EI (n m i : Nat) (A A' t : Nat -> Nat -> Rat) : Prop where
 int : ∀ r c, r < n -> c < n -> IB m (A' r c)
 row : ∀ r c, r < n -> c < n -> A r c = A' r c + sm (min r i) (fun s => t r s * A' s c)
 low : ∀ r c, r < n -> c < r -> c < i -> A r c = 0
 nz : ∀ a, a < i -> A a a ≠ 0
section
variable {n m i : Nat} {A A' t : Nat -> Nat -> Rat}
theorem EI.bord (h : EI n m i A A' t) {r c : Nat} (hr : i <= r) (hrn : r < n) (hc : i <= c) (hcn : c < n) :
  pr i (fun a => A a a) * A r c = dt (i + 1) (fun a b => A' (if a < i then a else r) (if b < i then b else c)) := by
 have hg : ∀ b, b < i + 1 -> (if b < i then b else c) < n := fun b hb => by split <;> omega
 have e1 := Do (n := i + 1) (L := fun a k => if k < a then t (if a < i then a else r) k else if k = a then 1 else 0) (U := fun a b => A' (if a < i then a else r) (if b < i then b else c)) (fun a _ => by simp) (fun a k _ _ hk => by
  show (if k < a then _ else if k = a then (1 : Rat) else 0) = 0
  rw [if_neg (by omega), if_neg (by omega)])
 rw [<- e1]
 have e2 : dt (i + 1) (fun a b => sm (i + 1) (fun k => (if k < a then t (if a < i then a else r) k else if k = a then 1 else 0) * A' (if k < i then k else r) (if b < i then b else c))) = dt (i + 1) (fun a b => A (if a < i then a else r) (if b < i then b else c)) := aJ fun a b ha hb => by
  have hg' := hg b hb
  generalize (if b < i then b else c) = g at *
  have hra : (if a < i then a else r) < n := by split <;> omega
  rw [h.row _ g hra hg', eU (m := a + 1) (by omega) (fun k hk _ => by rw [if_neg (by omega), if_neg (by omega)]; grind), bE]
  have em : min (if a < i then a else r) i = a := by split <;> omega
  rw [em, if_neg (Nat.lt_irrefl a), if_pos rfl];rw [ar (f := fun k => (if k < a then t (if a < i then a else r) k else if k = a then 1 else 0) * A' (if k < i then k else r) g) (g := fun s => t (if a < i then a else r) s * A' s g) (fun k hk => by rw [if_pos hk, if_pos (show k < i by omega)])]
  grind
 rw [e2, nX (fun a b ha hb => by
  rw [if_pos (show b < i by omega)]
  exact h.low _ b (by split <;> omega) (by split <;> omega) (by omega)), iZ]
 rw [if_neg (Nat.lt_irrefl i), if_neg (Nat.lt_irrefl i)]
 congr 1
 exact qJ fun a ha => by rw [if_pos ha, if_pos ha]
theorem EI.lead (h : EI n m i A A' t) (hi : i <= n) : pr i (fun a => A a a) = dt i A' := by
 have e1 := Do (n := i) (L := fun a k => if k < a then t a k else if k = a then 1 else 0) (U := A') (fun a _ => by simp) (fun a k _ _ hk => by
  show (if k < a then _ else if k = a then (1 : Rat) else 0) = 0
  rw [if_neg (by omega), if_neg (by omega)])
 rw [<- e1]
 have e2 : dt i (fun a b => sm i (fun k => (if k < a then t a k else if k = a then 1 else 0) * A' k b)) = dt i A := aJ fun a b ha hb => by
  rw [h.row a b (by omega) (by omega), eU (m := a + 1) (by omega) (fun k hk _ => by rw [if_neg (by omega), if_neg (by omega)]; grind), bE]
  have em : min a i = a := by omega
  rw [em, if_neg (Nat.lt_irrefl a), if_pos rfl];rw [ar (f := fun k => (if k < a then t a k else if k = a then 1 else 0) * A' k b) (g := fun s => t a s * A' s b) (fun k hk => by rw [if_pos hk])]
  grind
 rw [e2, nX (fun a b ha hb => h.low a b (by omega) hb (by omega))]
theorem Jh (h : EI n m i A A' t) (hi : i < n) {J : Nat} (hn : n <= 16) (hJ : n * (m + 4) < 32 * J) {r c : Nat} (hr : i <= r) (hrn : r < n) (hc : i <= c) (hcn : c < n) : ql (A r c) <= J := by
 have h1 := h.bord hr hrn hc hcn
 rw [h.lead (by omega)] at h1
 have h2 : dt i A' ≠ 0 := by rw [<- h.lead (by omega)]; exact sO h.nz
 have a1 := jN (m := m) (n := i) (A := A') (by omega) (fun a b ha hb => h.int a b (by omega) (by omega))
 have a2 := jN (m := m) (n := i + 1) (A := fun a b => A' (if a < i then a else r) (if b < i then b else c)) (by omega) (fun a b ha hb => h.int _ _ (by split <;> omega) (by split <;> omega))
 have l1 : i * (m + 4) <= n * (m + 4) := Nat.mul_le_mul_right _ (by omega)
 have l2 : (i + 1) * (m + 4) <= n * (m + 4) := Nat.mul_le_mul_right _ (by omega)
 exact iF (a2.mono l2) (a1.mono l1) h2 (by rw [<- h1]; grind) hJ
theorem qe {i k s : Nat} (h : s < i) (hk : i <= k) : swp i k s = s := by unfold swp; rw [if_neg (by omega), if_neg (by omega)]
theorem EI.step (h : EI n m i A A' t) {k : Nat} (hi : i < n) (hik : i <= k) (hk : k < n) (hp : A k i ≠ 0) :
  ∃ t', EI n m (i + 1) (stp i k A) (fun r c => A' (swp i k r) c) t' := by
 have hs : ∀ r, r < n -> swp i k r < n := fun r hr => tJ hi hk hr
 have hs2 : ∀ r, i <= r -> i <= swp i k r := fun r hr => by unfold swp; (repeat' split) <;> omega
 have e0 : swp i k i = k := by unfold swp; rw [if_pos rfl]
 have rowS : ∀ r c, r < n -> c < n -> A (swp i k r) c = A' (swp i k r) c + sm (min r i) (fun s => t (swp i k r) s * A' (swp i k s) c) := fun r c hr hc => by
  rw [h.row _ c (hs r hr) hc]
  congr 1
  by_cases hri : r < i
  ·rw [qe hri hik]
   exact ar fun s hs => by rw [qe (show s < i by omega) hik]
  ·have := hs2 r (by omega)
   rw [Nat.min_eq_right (by omega), Nat.min_eq_right (by omega)]
   exact ar fun s hs => by rw [qe hs hik]
 refine ⟨fun r s => if i < r then (if s < i then t (swp i k r) s - A (swp i k r) i / A k i * t k s else - (A (swp i k r) i / A k i)) else t (swp i k r) s, fun r c hr hc => h.int _ c (hs r hr) hc, fun r c hr hc => ?_, fun r c hr hcr hci => ?_, fun a ha => ?_⟩
 ·show stp i k A r c = A' (swp i k r) c + _
  by_cases hri : i < r
  ·rw [Nat.min_eq_right (by omega), bE];simp only [if_pos hri, if_neg (Nat.lt_irrefl i)];rw [ar (f := fun s => (if s < i then t (swp i k r) s - A (swp i k r) i / A k i * t k s else -(A (swp i k r) i / A k i)) * A' (swp i k s) c) (g := fun s => 1 * (t (swp i k r) s * A' (swp i k s) c) + (-(A (swp i k r) i / A k i)) * (t k s * A' (swp i k s) c)) (fun s hs => by rw [if_pos hs]; grind), kO, e0]
   have h1 := rowS r c hr hc
   have h2 := rowS i c hi hc
   rw [Nat.min_eq_right (by omega)] at h1;rw [Nat.min_self, e0] at h2
   have h3 : stp i k A r c = A (swp i k r) c - A (swp i k r) i / A k i * A k c := by
    simp only [stp]
    by_cases hc' : i <= c
    ·rw [if_pos ⟨hri, hc'⟩]
    ·rw [if_neg (by omega)]
     have z := h.low k c hk (by omega) (by omega)
     rw [z]; grind
   rw [h3, h1, h2]; grind
  ·rw [show min r (i + 1) = min r i by omega];simp only [if_neg hri, stp];rw [if_neg (by omega)];exact rowS r c hr hc
 ·by_cases hri : i < r
  ·by_cases e : c = i
   ·subst e; simp only [stp]; rw [if_pos ⟨hri, Nat.le_refl _⟩]; grind
   ·simp only [stp]; rw [if_neg (by omega)]
    have : r >= i := by omega
    exact h.low _ c (hs r hr) (by have := hs2 r this; omega) (by omega)
  ·simp only [stp]; rw [if_neg (by omega)]
   by_cases e : r = i
   ·subst e; rw [e0]; exact h.low k c hk (by omega) (by omega)
   ·rw [qe (by omega) hik]; exact h.low r c hr hcr (by omega)
 ·simp only [stp]; rw [if_neg (by omega)]
  by_cases e : a = i
  ·subst e; rw [e0]; exact hp
  ·rw [qe (by omega) hik]; exact h.nz a (by omega)
theorem Da {J : Nat} (hn : n <= 16) (hJ : n * (m + 4) < 32 * J) (hJ2 : J <= 65536) : ∀ (d i : Nat) {A A' t : Nat -> Nat -> Rat}, i + d = n -> EI n m i A A' t -> elB n d i A
 | 0, _, _, _, _, _, _ => trivial
 | d + 1, i, A, A', t, hd, h => by
  refine ⟨fun r c h1 h2 h3 h4 => Nat.le_trans (Jh h (by omega) hn hJ h1 h2 h3 h4) hJ2, fun hk => ?_⟩
  rcases qK (fun r => A r i) n (d + 1) i hd with ⟨h1, h2, h3⟩ | ⟨h1, _⟩
  ·generalize piv (fun r => A r i) n (d + 1) i = k at *
   obtain ⟨t', ht⟩ := h.step (by omega) h2 h1 h3
   exact Da hn hJ hJ2 d (i + 1) (by omega) ht
  ·omega
end
theorem FE {n m J : Nat} {A : Nat -> Nat -> Rat} (hA : ∀ r c, r < n -> c < n -> IB m (A r c)) (hn : n <= 16) (hJ : n * (m + 4) < 32 * J) (hJ2 : J <= 65536) : elB n n 0 A :=
 Da hn hJ hJ2 n 0 (A' := A) (t := fun _ _ => 0) (by omega) ⟨hA, fun r c _ _ => by rw [Nat.min_eq_right (Nat.zero_le _)]; simp only [sm]; grind, fun _ _ _ _ h => by omega, fun _ h => by omega⟩
end Go.Proofs.YtceacleokgoooaaGreatDoor

/- Labels of components; solutions over a part. No condition. -/
namespace Go.Proofs.YtceacleokgoooaaGreatDoor

def r5 (r : List Nat) (n v : Nat) : Nat := (num r n).1.getD v 0
theorem nv (r : List Nat) : ∀ {m v : Nat}, v < m -> (num r m).1.getD v 0 = if fd r v = v then (num r v).2 else (num r v).1.getD (fd r v) 0
 | 0, v, h => by omega
 | m + 1, v, h => by
  have hl := eA r m
  by_cases e : v = m
  ·subst e
   simp only [num]
   by_cases hf : fd r v = v
   ·rw [if_pos hf, if_pos hf]
    simp only
    rw [List.getD_eq_getElem?_getD, List.getElem?_append_right (by omega), hl, Nat.sub_self]; rfl
   ·rw [if_neg hf, if_neg hf]
    simp only
    rw [List.getD_eq_getElem?_getD, List.getElem?_append_right (by omega), hl, Nat.sub_self]; rfl
  ·rw [<- nv r (m := m) (v := v) (by omega)];simp only [num]
   split <;> (simp only; rw [List.getD_eq_getElem?_getD, List.getElem?_append_left (by omega), <- List.getD_eq_getElem?_getD])
theorem ww (r : List Nat) {m k v : Nat} (h : v < m) (hmk : m <= k) : (num r k).1.getD v 0 = (num r m).1.getD v 0 := by rw [nv r h, nv r (show v < k by omega)]
theorem Ct (r : List Nat) {m k : Nat} (h : m <= k) : (num r m).2 <= (num r k).2 := by
 induction k with
 | zero => rw [show m = 0 by omega]; exact Nat.le_refl _
 | succ k ih =>
  by_cases e : m = k + 1
  ·rw [e]; exact Nat.le_refl _
  ·have := ih (by omega)
   simp only [num]; split
   ·simp only; omega
   ·exact this
section
variable {r : List Nat} (h : RG r)
include h
theorem wJ {n v : Nat} (hv : v < n) : r5 r n v = r5 r n (fd r v) := by
 have h1 := nP h v
 by_cases e : fd r v = v
 ·rw [e]
 ·unfold r5
  rw [nv r hv, if_neg e, ww r (m := v) (k := n) (v := fd r v) (by omega) (by omega)]
theorem CJ {n v : Nat} (hv : v < n) (hf : fd r v = v) : r5 r n v = (num r v).2 := by
 unfold r5; rw [nv r hv, if_pos hf]
theorem wu {v : Nat} (hf : fd r v = v) {k : Nat} (hk : v < k) : (num r v).2 < (num r k).2 := by
 have h1 : (num r (v + 1)).2 = (num r v).2 + 1 := by simp only [num]; rw [if_pos hf]
 have := Ct r (m := v + 1) (k := k) hk
 omega
theorem Fh {n u v : Nat} (hu : u < n) (hv : v < n) : r5 r n u = r5 r n v ↔ fd r u = fd r v := by
 have fu := nP h u
 have fv := nP h v
 have iu := uM h u
 have iv := uM h v
 rw [wJ h hu, wJ h hv, CJ h (by omega) iu, CJ h (by omega) iv]
 constructor
 ·intro e
  rcases Nat.lt_trichotomy (fd r u) (fd r v) with hlt | he | hlt
  ·have := wu h iu hlt; omega
  ·exact he
  ·have := wu h iv hlt; omega
 ·intro e; rw [e]
end
/-! ### The grounded part -/
def vL (n : Nat) (S : Nat -> Bool) (a : Nat) : Nat := ((List.range n).filter S).getD a 0
def kN (n : Nat) (S : Nat -> Bool) : Nat := ((List.range n).filter S).length
theorem I0 {n j : Nat} {S : Nat -> Bool} (hj : j < n) (hS : S j = false) : kN n S < n := by
 induction n with
 | zero => omega
 | succ n ih =>
  unfold kN
  rw [List.range_succ, List.filter_append, List.length_append]
  have hle : ((List.range n).filter S).length <= n := by have := List.length_filter_le S (List.range n); rwa [List.length_range] at this
  by_cases e : j = n
  ·subst e
   have : List.filter S [j] = [] := by simp [hS]
   rw [this]; simp; omega
  ·have := ih (by omega)
   unfold kN at this
   have h2 : (List.filter S [n]).length <= 1 := List.length_filter_le S [n]
   omega
theorem GJ {n : Nat} {S : Nat -> Bool} {a b : Nat} (ha : a < kN n S) (hb : b < kN n S) (h : vL n S a = vL n S b) : a = b := by
 have h1 := (nt S ha).2.2
 have h2 := (nt S hb).2.2
 unfold vL at h
 rw [h] at h1
 omega
theorem vq {S : Nat -> Bool} {v : Nat} : ∀ {n : Nat}, v < n -> S v = true -> kN v S < kN n S /\ vL n S (kN v S) = v
 | 0, h, _ => by omega
 | n + 1, h, hS => by
  have e0 : (List.range (n + 1)).filter S = (List.range n).filter S ++ List.filter S [n] := by rw [List.range_succ, List.filter_append]
  by_cases e : v = n
  ·subst e
   have e1 : List.filter S [v] = [v] := by simp [hS]
   unfold kN vL
   rw [e0, e1, List.length_append];refine ⟨by simp, ?_⟩;rw [List.getD_eq_getElem?_getD, List.getElem?_append_right (Nat.le_refl _), Nat.sub_self]; rfl
  ·obtain ⟨h1, h2⟩ := vq (n := n) (v := v) (by omega) hS
   unfold kN vL at *
   rw [e0, List.length_append];refine ⟨by omega, ?_⟩;rw [List.getD_eq_getElem?_getD, List.getElem?_append_left h1, <- List.getD_eq_getElem?_getD]; exact h2
section
variable {n j : Nat} {ls : List WL} {S : Nat -> Bool} {B : Nat -> Nat -> Rat}
theorem Au (hw : ∀ x ∈ ls, 0 < x.w) (hl : ∀ x ∈ ls, x.f < n /\ x.t < n) (hj : S j = false) (hc : ∀ v, v < n -> S v = true -> Cnn (ls.map fun x => (x.f, x.t)) v j)
  (hB : ∀ a b, a < kN n S -> b < kN n S -> B a b = lpl id ls (vL n S a) (vL n S b)) :
  (∀ a b, a < kN n S -> b < kN n S -> B a b = B b a) /\ ∀ k, k < kN n S -> 0 < DD B k := by
 have hs : ∀ a b, a < kN n S -> b < kN n S -> B a b = B b a := fun a b ha hb => by rw [hB a b ha hb, hB b a hb ha, qT]
 refine ⟨hs, uj hs fun z hz => ?_⟩
 have h1 := HM hw hl hj hc hz
 have e : fm (kN n S) B z = fm (kN n S) (fun a b => lpl id ls (vL n S a) (vL n S b)) z := by
  unfold fm
  refine ar fun a ha => ?_
  congr 1
  exact ar fun b hb => by rw [hB a b ha hb]
 rw [e]; exact h1
theorem Av {x : Nat -> Rat} {i : Nat} (hl : ∀ x ∈ ls, x.f < n /\ x.t < n) (hi : i < n) (hjn : j < n) (hiS : S i = true) (hj : S j = false)
  (hB : ∀ a b, a < kN n S -> b < kN n S -> B a b = lpl id ls (vL n S a) (vL n S b))
  (hx : ∀ a, a < kN n S -> sm (kN n S) (fun b => B a b * x b) = if vL n S a = i then 1 else 0)
  (hS : ∀ y ∈ ls, (S y.f = true \/ y.f = j) ↔ (S y.t = true \/ y.t = j)) :
  ∃ u, UF n ls i j u /\ u i - u j = x (kN i S) := by
 obtain ⟨u, u1, u2⟩ := we S n x
 obtain ⟨a1, a2⟩ := vq hi hiS
 have ui : u i = x (kN i S) := by
  have := u1 _ a1
  rw [show ((List.range n).filter S).getD (kN i S) 0 = i from a2] at this;exact this
 refine ⟨u, ?_, by rw [ui, u2 j hj]; grind⟩
 -- rows of the part
 have rowS : ∀ v, v < n -> S v = true -> LU u ls v = dl i v := fun v hv hvS => by
  obtain ⟨b1, b2⟩ := vq hv hvS
  have hxa := hx _ b1
  rw [b2] at hxa;rw [<- xu v hl]
  have e1 : sm n (fun w => lpl id ls v w * u w) = sm n (fun w => if S w = true then lpl id ls v w * u w else 0) := ar fun w _ => by
   by_cases hw : S w = true
   ·rw [if_pos hw]
   ·rw [if_neg hw, u2 w (by simpa using hw)]; grind
  rw [e1, <- pJ S (fun w => lpl id ls v w * u w) n]
  show sm (kN n S) _ = _
  rw [ar (g := fun b => B (kN v S) b * x b) (fun b hb => by
   rw [hB _ _ b1 hb, b2]
   show lpl id ls v (vL n S b) * u (vL n S b) = _
   rw [show u (vL n S b) = x b from u1 b hb]), hxa]
  unfold dl; rfl
 have out : ∀ v, v ≠ j -> S v = false -> LU u ls v = 0 := fun v hvj hvS => by
  have hv0 : ∀ w, ¬ (S w = true \/ w = j) -> u w = 0 := fun w hw => u2 w (by
   cases h : S w with
   | false => rfl
   | true => exact absurd (Or.inl h) hw)
  have : ∀ l : List WL, (∀ y ∈ l, y ∈ ls) -> LU u l v = 0 := by
   intro l
   induction l with
   | nil => intro _; rfl
   | cons y ys ih =>
    intro hsub
    simp only [LU];rw [ih fun z hz => hsub z (List.mem_cons_of_mem _ hz)]
    have hy := hS y (hsub y (List.mem_cons_self ..))
    have hvn : ¬ (S v = true \/ v = j) := fun e => by
     rcases e with e | e
     ·rw [hvS] at e; cases e
     ·exact hvj e
    rw [Iq]
    by_cases e1 : v = y.f
    ·have hf : ¬ (S y.f = true \/ y.f = j) := by rw [<- e1]; exact hvn
     have ht : ¬ (S y.t = true \/ y.t = j) := fun e => hf (hy.2 e)
     rw [hv0 _ hf, hv0 _ ht]; grind
    ·by_cases e2 : v = y.t
     ·have ht : ¬ (S y.t = true \/ y.t = j) := by rw [<- e2]; exact hvn
      have hf : ¬ (S y.f = true \/ y.f = j) := fun e => ht (hy.1 e)
      rw [hv0 _ hf, hv0 _ ht]; grind
     ·unfold dl; rw [if_neg e1, if_neg e2]; grind
  exact this ls fun _ h => h
 intro v hv
 by_cases hvS : S v = true
 ·rw [rowS v hv hvS]
  have : v ≠ j := fun e => by rw [e, hj] at hvS; cases hvS
  unfold dl; rw [if_neg this]; grind
 ·have hvS : S v = false := by simpa using hvS
  by_cases e : v = j
  ·subst e
   have h0 := yL (n := n) (u := u) (v := fun _ => 1) hl
   have h1 : EN u (fun _ => 1) ls = 0 := by
    have : ∀ l : List WL, EN u (fun _ => 1) l = 0 := by
     intro l
     induction l with
     | nil => rfl
     | cons y ys ih => simp only [EN]; rw [ih]; grind
    exact this ls
   rw [h1] at h0
   have h2 : sm n (fun k => 1 * LU u ls k) = sm n (fun k => (if k = v then LU u ls v else 0) + dl i k) := ar fun k hk => by
    by_cases ek : k = v
    ·rw [if_pos ek, ek]
     have : v ≠ i := fun e' => by rw [<- e', hj] at hiS; cases hiS
     unfold dl; rw [if_neg this]; grind
    ·rw [if_neg ek]
     by_cases hkS : S k = true
     ·rw [rowS k hk hkS]; grind
     ·have hkS : S k = false := by simpa using hkS
      rw [out k ek hkS]
      have : k ≠ i := fun e' => by rw [e', hiS] at hkS; cases hkS
      unfold dl; rw [if_neg this]; grind
   rw [h2, gY, dD (j := v) _ hv (fun k _ hne => if_neg hne), if_pos rfl] at h0
   have h3 := Bt (n := n) (i := i) (fun _ => 1) hi
   rw [ar (g := fun v => dl i v) (fun _ _ => by grind)] at h3;rw [h3] at h0
   have : v ≠ i := fun e' => by rw [<- e', hj] at hiS; cases hiS
   unfold dl; rw [if_neg this, if_pos rfl]; grind
  ·rw [out v e hvS]
   have : v ≠ i := fun e' => by rw [e', hiS] at hvS; cases hvS
   unfold dl; rw [if_neg this, if_neg e]; grind
end
theorem x9 {B : Nat -> Nat -> Rat} {b : Nat -> Rat} {n J c : Nat} (hL : ∀ i j, i < n -> j < i -> ql (LL B i j) <= J) (hb : ∀ i, i < n -> ql (b i) <= c) : ∀ i, i < n -> ql (fwv (LL B) b i) + (J + 1) <= (c + J + 1) * 2 ^ i := by
 intro i
 induction i using Nat.strongRecOn with
 | ind i ih =>
  intro hi
  rw [ya]
  have key : ∀ k, k <= i -> ql (b i - sm k (fun j => LL B i j * fwv (LL B) b j)) + (J + 1) <= (c + J + 1) * 2 ^ k := by
   intro k
   induction k with
   | zero =>
    intro _
    have e : b i - sm 0 (fun j => LL B i j * fwv (LL B) b j) = b i := by simp only [sm]; grind
    rw [e, Nat.pow_zero, Nat.mul_one]
    have := hb i hi
    omega
   | succ k ihk =>
    intro hk
    have h1 := ihk (by omega)
    have h2 := ih k (by omega) (by omega)
    have h3 := hL i k hi (by omega)
    have e : b i - sm (k + 1) (fun j => LL B i j * fwv (LL B) b j) = (b i - sm k (fun j => LL B i j * fwv (LL B) b j)) - LL B i k * fwv (LL B) b k := by rw [bE]; grind
    rw [e]
    have h4 := B2 (b i - sm k (fun j => LL B i j * fwv (LL B) b j)) (LL B i k * fwv (LL B) b k)
    have h5 := B5 (LL B i k) (fwv (LL B) b k)
    rw [Nat.pow_succ, <- Nat.mul_assoc]
    omega
  exact key i (Nat.le_refl _)
end Go.Proofs.YtceacleokgoooaaGreatDoor

/- The graph's resistances, plainly. No condition. -/
namespace Go.Proofs.YtceacleokgoooaaGreatDoor
attribute [local irreducible] aA

def wlk (l : LK) : WL := ⟨l.f.toNat, l.t.toNat, ((l.w : Int) : Rat)⟩
def wls (ls : List LK) : List WL := ls.map wlk
theorem wF (p : Nat -> Nat) (x : WL) (i j : Nat) : ∀ xs : List WL, lpl p (xs ++ [x]) i j = lpl p xs i j + x.w * (uu p x i * uu p x j)
 | [] => by simp only [List.nil_append, lpl]
 | y :: ys => by simp only [List.cons_append, lpl]; rw [wF p x i j ys]; grind
theorem Ff {f t : Nat} {w : Int} (h : f ≠ t) (i j : Nat) : ((lapD f t w i j : Int) : Rat) = (w : Rat) * (uu id ⟨f, t, (w : Rat)⟩ i * uu id ⟨f, t, (w : Rat)⟩ j) := by
 unfold lapD uu
 simp only [id]
 repeat' split
 all_goals first
  | (exfalso; omega)
  | (try simp only [Rat.intCast_neg, Rat.intCast_zero]
     grind)
theorem uC {n : Nat} {ls : List LK} (h : ∀ l ∈ ls, LV n l) (i j : Nat) : ((lapM ls i j : Int) : Rat) = lpl id (wls ls) i j := by
 have : ∀ k, k <= ls.length -> ((lapM (ls.take k) i j : Int) : Rat) = lpl id (wls (ls.take k)) i j := by
  intro k
  induction k with
  | zero => intro _; rfl
  | succ k ih =>
   intro hk
   have lv := h ls[k] (List.getElem_mem (by omega))
   have hne : ls[k].f.toNat ≠ ls[k].t.toNat := by have := lv.f; have := lv.t; have := lv.ne; omega
   have e : wls (ls.take (k + 1)) = wls (ls.take k) ++ [wlk ls[k]] := by rw [wls, List.take_succ_eq_append_getElem (by omega), List.map_append]; rfl
   rw [lM (by omega), pO hne, e, wF, Rat.intCast_add, ih (by omega), Ff hne]
   rfl
 have h := this ls.length (Nat.le_refl _)
 rwa [List.take_length] at h
section
variable {g : GR} (gv : GV g)
include gv
theorem gLV : ∀ l ∈ g.links, LV g.nodes.length l := fun l hl => gD.1 (gv.lk l hl)
theorem AZ : ∀ x ∈ wls g.links, 0 < x.w := fun x hx => by
 obtain ⟨l, hl, rfl⟩ := List.mem_map.1 hx
 have := (gLV gv l hl).w
 show (0 : Rat) < ((l.w : Int) : Rat)
 have h : (0 : Int) < l.w := by omega
 exact_mod_cast h
theorem mS : ∀ x ∈ wls g.links, x.f < g.nodes.length /\ x.t < g.nodes.length := fun x hx => by
 obtain ⟨l, hl, rfl⟩ := List.mem_map.1 hx
 have h1 := (gLV gv l hl).f
 have h2 := (gLV gv l hl).t
 exact ⟨by show l.f.toNat < _; omega, by show l.t.toNat < _; omega⟩
end
theorem pH (ls : List LK) : (wls ls).map (fun x => (x.f, x.t)) = prs ls := by rw [wls, List.map_map]; rfl
def lab (g : GR) (v : Nat) : Nat := (b7 g).1.getD v 0
def yR (g : GR) (v : Nat) : Nat := fd (dO g) v
section
variable {g : GR} (gv : GV g)
include gv
theorem qV (v : Nat) : lab g v = r5 (dO g) g.nodes.length v := by
 unfold lab r5; rw [b7, if_pos (bO.2 gv)]
theorem Hp : ∀ p ∈ prs g.links, p.1 < g.nodes.length /\ p.2 < g.nodes.length := fun p hp => by
 rw [<- pH] at hp
 obtain ⟨x, hx, rfl⟩ := List.mem_map.1 hp
 exact mS gv x hx
theorem qW {u v : Nat} (hu : u < g.nodes.length) (hv : v < g.nodes.length) : lab g u = lab g v ↔ yR g u = yR g v := by
 rw [qV gv, qV gv]; exact Fh (jA _ _).1 hu hv
theorem nJ {u v : Nat} (hu : u < g.nodes.length) (hv : v < g.nodes.length) : lab g u = lab g v ↔ Cnn (prs g.links) u v := by
 rw [qW gv hu hv]
 unfold yR dO
 rw [v7];exact Bb _ _ (Hp gv) u v hu hv
theorem j4 : (b7 g).1.length = g.nodes.length := by rw [b7, if_pos (bO.2 gv)]; exact eA _ _
theorem nI {x : WL} (hx : x ∈ wls g.links) : lab g x.f = lab g x.t := by
 obtain ⟨h1, h2⟩ := mS gv x hx
 rw [nJ gv h1 h2, <- pH];exact .one (Or.inl (List.mem_map.2 ⟨x, hx, rfl⟩))
end
def grS (g : GR) (j v : Nat) : Bool := decide (lab g v = lab g j) && decide (v ≠ j)
def grL (g : GR) (j k : Nat) : List Nat := (List.range k).filter (grS g j)
def d8 (g : GR) (j v : Nat) : List RW := (grL g j g.nodes.length).map fun w => qzW ((lapM g.links v w : Int) : Rat)
def gx (g : GR) (j : Nat) : List (List RW) := (grL g j g.nodes.length).map (d8 g j)
def de (g : GR) (j : Nat) : Nat := kN g.nodes.length (grS g j)
def resA (g : GR) (i j : Nat) : Nat := kN i (grS g j)
def jy (g : GR) (i j : Nat) : List RW := cf (de g j) fun t => if t = resA g i j then qzW 1 else qzW 0
def mq (g : GR) (i j : Nat) : Rat := if i = j then 0 else slv (bc (gx g j)) (gN (jy g i j)) (de g j) (resA g i j)
theorem pQ {g : GR} {j v : Nat} : grS g j v = true ↔ lab g v = lab g j /\ v ≠ j := by simp [grS]
theorem eF (g : GR) (j : Nat) : (gx g j).length = de g j := by simp [gx, de, grL, kN]
theorem IS {α β : Type} {l : List α} {f : α -> β} {a : Nat} {x : α} {d : β} (h : a < l.length) : (l.map f).getD a d = f (l.getD a x) := by simp [h]
theorem yU {g : GR} {j a b : Nat} (ha : a < de g j) (hb : b < de g j) : mtv (gx g j) a b = qzW ((lapM g.links (vL g.nodes.length (grS g j) a) (vL g.nodes.length (grS g j) b) : Int) : Rat) := by
 have hl : (grL g j g.nodes.length).length = de g j := rfl
 unfold mtv gx
 rw [IS (x := 0) (by omega)]
 unfold d8
 rw [IS (x := 0) (by omega)]
 rfl
theorem tW {g : GR} {i j a : Nat} (ha : a < de g j) : gN (jy g i j) a = if a = resA g i j then 1 else 0 := by
 unfold gN jy cf
 have : ((List.range (de g j)).map fun t => if t = resA g i j then qzW 1 else qzW 0).getD a eO = if a = resA g i j then qzW 1 else qzW 0 := by simp [ha]
 rw [this]
 split
 ·exact bg 1
 ·exact bg 0
structure RES (g : GR) (i j : Nat) : Prop where
 val : cp (gx g j) = true
 ok : okM 65536 (gx g j)
 fac : yc (bc (gx g j)) (de g j)
 pos : l6 (bc (gx g j)) (de g j) = true
 sol : xr (bc (gx g j)) (gN (jy g i j)) (de g j)
 at_ : resA g i j < de g j
 res : IsR g.nodes.length (wls g.links) i j (mq g i j)
 bnd : ql (mq g i j) <= 65536
theorem tU {g : GR} {i j : Nat} (gv : GV g) (hi : i < g.nodes.length) (hj : j < g.nodes.length) (hij : i ≠ j) (hl : lab g i = lab g j) : RES g i j := by
 have n16 := gv.n2
 have hSj : grS g j j = false := by simp [grS]
 have hSi : grS g j i = true := pQ.2 ⟨hl, hij⟩
 have O : de g j < g.nodes.length := I0 hj hSj
 obtain ⟨a1, a2⟩ := vq hi hSi
 have hK16 : de g j <= 16 := by omega
 have hM : ∀ a b, -50331648 <= lapM g.links a b /\ lapM g.links a b <= 50331648 := fun a b => by
  have h1 := lN g.links (gLV gv) a b
  have h2 := gv.l
  omega
 have hB : ∀ a b, a < de g j -> b < de g j -> bc (gx g j) a b = lpl id (wls g.links) (vL g.nodes.length (grS g j) a) (vL g.nodes.length (grS g j) b) := fun a b ha hb => by
  unfold bc; rw [yU ha hb, bg, uC (gLV gv)]
 have hIB : ∀ a b, a < de g j -> b < de g j -> IB 26 (bc (gx g j) a b) := fun a b ha hb => by
  unfold bc; rw [yU ha hb, bg]
  have := hM (vL g.nodes.length (grS g j) a) (vL g.nodes.length (grS g j) b)
  exact ⟨_, rfl, by
   have e : (2 : Nat) ^ 26 = 67108864 := by decide
   rw [e]; omega⟩
 have hIb : ∀ a, a < de g j -> IB 26 (gN (jy g i j) a) := fun a ha => by
  rw [tW ha]; split
  ·exact rT.mono (by omega)
  ·exact zM 26
 have hc : ∀ v, v < g.nodes.length -> grS g j v = true -> Cnn ((wls g.links).map fun x => (x.f, x.t)) v j := fun v hv hS => by
  rw [pH]; exact (nJ gv hv hj).1 (pQ.1 hS).1
 obtain ⟨hs', hD0⟩ := Au (AZ gv) (mS gv) hSj hc hB
 have hs : ∀ a b, a < de g j -> b < de g j -> bc (gx g j) a b = bc (gx g j) b a := hs'
 have hD : ∀ k, k < de g j -> 0 < DD (bc (gx g j)) k := hD0
 have hJ : de g j * (26 + 4) < 32 * 15 := by omega
 have hD' : ∀ k, k < de g j -> DD (bc (gx g j)) k ≠ 0 := fun k hk => by have := hD k hk; grind
 have qD : ∀ k, k < de g j -> ql (DD (bc (gx g j)) k) <= 15 := fun k hk => GB hs hIB hK16 hJ hk fun k' hk' => hD' k' (by omega)
 have qL : ∀ a b, a < de g j -> b < a -> ql (LL (bc (gx g j)) a b) <= 15 := fun a b ha hb => DP hs hIB hK16 hJ ha hb fun k' hk' => hD' k' (by omega)
 have qb : ∀ a, a < de g j -> ql (gN (jy g i j) a) <= 1 := fun a ha => by
  rw [tW ha]; split <;> decide
 have qS : ∀ a, a < de g j -> ql (slv (bc (gx g j)) (gN (jy g i j)) (de g j) a) <= 15 := fun a ha => Bv hs hIB hIb hK16 hJ hD' ha
 have eQQ : mq g i j = slv (bc (gx g j)) (gN (jy g i j)) (de g j) (resA g i j) := if_neg hij
 refine ⟨?_, ?_, ?_, decide_eq_true hD, ⟨?_, fun a ha => Nat.le_trans (qS a ha) (by decide)⟩, a1, ?_, ?_⟩
 ·refine decide_eq_true ⟨by rw [eF]; omega, fun r hr => ?_, fun a ha b hb => ?_⟩
  ·obtain ⟨v, _, rfl⟩ := List.mem_map.1 hr
   rw [eF]
   simp [d8, de, grL, kN]
  ·rw [eF] at ha;exact hs a b ha (by omega)
 ·intro r hr x hx
  obtain ⟨v, _, rfl⟩ := List.mem_map.1 hr
  obtain ⟨w, _, rfl⟩ := List.mem_map.1 hx
  have := hM v w
  exact (aY (dN ⟨by omega, by omega⟩)).mono rfl
 ·intro a ha _
  exact ⟨Nat.le_trans (qD a ha) (by decide), fun b hb => Nat.le_trans (qL a b ha hb) (by decide)⟩
 ·intro a ha
  have h1 := x9 qL qb a ha
  have h2 : 2 ^ a <= 2 ^ 14 := Nat.pow_le_pow_right (by decide) (by omega)
  have h3 : (1 + 15 + 1) * 2 ^ a <= 17 * 2 ^ 14 := Nat.mul_le_mul_left _ h2
  have h4 : 17 * 2 ^ 14 = 278528 := by decide
  omega
 ·rw [eQQ]
  obtain ⟨u, u1, u2⟩ := Av (x := slv (bc (gx g j)) (gN (jy g i j)) (de g j)) (mS gv) hi hj hSi hSj hB (fun a ha => by
   have := qt (n := de g j) (b := gN (jy g i j)) hs hD' ha
   show sm (de g j) _ = _
   rw [this, tW ha]
   by_cases e : a = resA g i j
   ·rw [if_pos e, if_pos (by rw [e]; exact a2)]
   ·rw [if_neg e, if_neg (fun e' => e (GJ ha a1 (e'.trans a2.symm)))]) (fun y hy => by
   have := nI gv hy
   have p : ∀ v, (grS g j v = true \/ v = j) ↔ lab g v = lab g j := fun v => by
    rw [pQ]
    by_cases e : v = j
    ·subst e; simp
    ·simp [e]
   rw [p, p, this])
  exact ⟨u, u1, u2⟩
 ·rw [eQQ]; exact Nat.le_trans (qS _ a1) (by decide)
end Go.Proofs.YtceacleokgoooaaGreatDoor

/- Least squares on a graph, plainly: one coordinate. No condition. -/
namespace Go.Proofs.YtceacleokgoooaaGreatDoor
attribute [local irreducible] aA

def rb (d : LK -> Rat) (v : Nat) : List LK -> Rat
 | [] => 0
 | l :: ls => rb d v ls + ((l.w : Int) : Rat) * ((dl l.t.toNat v - dl l.f.toNat v) * d l)
/-! ### Connected along links -/
end Go.Proofs.YtceacleokgoooaaGreatDoor

/- The reference's normal equations. No condition. -/
namespace Go.Proofs.YtceacleokgoooaaGreatDoor
attribute [local irreducible] aA

def cfN (i : Nat) (l : LK) : Int := if l.f = (i : Int) then -l.w else if l.t = (i : Int) then l.w else 0
theorem EX (x a : Rat) (w : Int) : x + a * (w : Rat) = x + (w : Rat) * a := by rw [Rat.mul_comm]
theorem HA {g : GR} {n : Nat} (p : (Nat -> Rat) × (Nat -> Rat)) {l : LK} (lv : LV n l) (i : Nat) :
  (nrS g p l).1 i = p.1 i + ((cfN i l : Int) : Rat) * alX (frN g l) l /\ (nrS g p l).2 i = p.2 i + ((cfN i l : Int) : Rat) * alY (frN g l) l := by
 have h1 := lv.f
 have h2 := lv.t
 have h3 := lv.fn.1
 simp only [nrS, mm, cfN]
 by_cases hf : l.f = (i : Int)
 ·have hi : i = l.f.toNat := by omega
  rw [if_pos hf, if_pos hi, if_neg (by omega), if_pos hi, if_neg (by omega), hi];exact ⟨EX _ _ _, EX _ _ _⟩
 ·by_cases ht : l.t = (i : Int)
  ·have hi : i = l.t.toNat := by omega
   rw [if_neg hf, if_pos ht, if_neg (by omega), if_pos hi, if_neg (by omega), if_pos hi, hi];exact ⟨EX _ _ _, EX _ _ _⟩
  ·rw [if_neg hf, if_neg ht, if_neg (by omega), if_neg (by omega), if_neg (by omega), if_neg (by omega)]
   constructor <;> grind
end Go.Proofs.YtceacleokgoooaaGreatDoor

/- The spots with the least cost, plainly. No condition. -/
namespace Go.Proofs.YtceacleokgoooaaGreatDoor
attribute [local irreducible] aA

theorem qo (f : Nat -> Rat) : ∀ n : Nat, sm (n + 1) f = f 0 + sm n (fun i => f (i + 1))
 | 0 => by show (0 : Rat) + f 0 = f 0 + 0; grind
 | n + 1 => by rw [bE, qo f n, bE]; grind
section
variable {g : GR} (gv : GV g)
include gv
theorem Gp : g.nodes.length = (g.nodes.length - 1) + 1 := by have := gv.n1; omega
end
def nmM (g : GR) : List (List RW) := nrM g.nodes.length (lapM g.links) (g.nodes.length - 1)
def nmX (g : GR) : List RW := nrX (nrL g g.links).1 (g.nodes.length - 1)
def nmY (g : GR) : List RW := nrX (nrL g g.links).2 (g.nodes.length - 1)
theorem j9 (g : GR) : (nmM g).length = g.nodes.length - 1 := by simp [nmM, nrM]
theorem uq {g : GR} {a b : Nat} (ha : a < g.nodes.length - 1) (hb : b < g.nodes.length - 1) : mtv (nmM g) a b = qzW ((lapM g.links (a + 1) (b + 1) : Int) : Rat) := by
 have e : (nmM g).getD a [] = ((List.range g.nodes.length).map fun j => qzW ((lapM g.links (a + 1) j : Int) : Rat)).drop 1 := by simp [nmM, nrM, rZ, ha]
 unfold mtv
 rw [e, List.getD_eq_getElem?_getD, List.getElem?_drop, List.getElem?_map, List.getElem?_range (by omega)]
 show qzW ((lapM g.links (a + 1) (1 + b) : Int) : Rat) = _
 rw [Nat.add_comm 1 b]
theorem Cv {X : Nat -> Rat} {k i : Nat} (h : i < k) : gN (nrX X k) i = X (i + 1) := by
 unfold gN nrX
 rw [List.getD_eq_getElem?_getD, List.getElem?_map, List.getElem?_range h];exact bg _
def cnB (g : GR) : Bool := decide (∀ v, v < g.nodes.length -> lab g v = lab g 0)
def slX (g : GR) (b : List RW) (v : Nat) : Rat := if v = 0 then 0 else slv (bc (nmM g)) (gN b) (g.nodes.length - 1) (v - 1)
section
variable {g : GR} (gv : GV g)
include gv
theorem un {a b : Nat} (ha : a < g.nodes.length - 1) (hb : b < g.nodes.length - 1) : bc (nmM g) a b = lpl id (wls g.links) (a + 1) (b + 1) := by
 unfold bc; rw [uq ha hb, bg, uC (gLV gv)]
theorem j8 {a b : Nat} (ha : a < g.nodes.length - 1) (hb : b < g.nodes.length - 1) : bc (nmM g) a b = bc (nmM g) b a := by
 rw [un gv ha hb, un gv hb ha, qT]
theorem Cw {y : Nat -> Rat} (h0 : y 0 = 0) {a : Nat} (ha : a < g.nodes.length - 1) : sm (g.nodes.length - 1) (fun j => bc (nmM g) a j * y (j + 1)) = LU y (wls g.links) (a + 1) := by
 rw [<- xu (n := g.nodes.length) (a + 1) (mS gv), Gp gv, qo, h0];rw [ar fun j hj => by rw [un gv ha hj]]; grind
theorem y5 {y : Nat -> Rat} (h0 : y 0 = 0) : fm (g.nodes.length - 1) (bc (nmM g)) (fun i => y (i + 1)) = EN y y (wls g.links) := by
 unfold fm
 rw [ar fun i hi => by rw [Cw gv h0 hi], <- yL (n := g.nodes.length) (u := y) (v := y) (mS gv), Gp gv, qo, h0];simp only [Nat.add_sub_cancel]; grind
theorem xM : l6 (bc (nmM g)) (g.nodes.length - 1) = cnB g := by
 have hn := gv.n1
 rw [Bool.eq_iff_iff]
 constructor
 ·intro h
  have hd := of_decide_eq_true h
  refine decide_eq_true fun v hv => Classical.byContradiction fun hne => ?_
  have hv0 : v ≠ 0 := fun e => hne (by rw [e])
  have p := Ci (B := bc (nmM g)) (n := g.nodes.length - 1) (fun i j hi hj => j8 gv hi hj) hd (x := fun i => (fun u => if lab g u = lab g v then (1 : Rat) else 0) (i + 1)) ⟨v - 1, by omega, by
   show (if lab g (v - 1 + 1) = lab g v then (1 : Rat) else 0) ≠ 0
   rw [show v - 1 + 1 = v by omega, if_pos rfl]; grind⟩
  rw [y5 gv (y := fun u => if lab g u = lab g v then (1 : Rat) else 0) (if_neg fun e => hne e.symm)] at p
  have z : ∀ ls : List WL, (∀ x ∈ ls, lab g x.f = lab g x.t) -> EN (fun u => if lab g u = lab g v then (1 : Rat) else 0) (fun u => if lab g u = lab g v then (1 : Rat) else 0) ls = 0 := by
   intro ls
   induction ls with
   | nil => intro _; rfl
   | cons x xs ih =>
    intro h
    simp only [EN];rw [ih fun y hy => h y (List.mem_cons_of_mem _ hy), h x List.mem_cons_self]; grind
  rw [z _ fun x hx => nI gv hx] at p;exact absurd p (by decide)
 ·intro h
  have hc := of_decide_eq_true h
  refine decide_eq_true (uj (fun i j hi hj => j8 gv hi hj) fun x hx => ?_)
  obtain ⟨i, hi, hx⟩ := hx
  have e : fm (g.nodes.length - 1) (bc (nmM g)) x = EN (fun v => if v = 0 then 0 else x (v - 1)) (fun v => if v = 0 then 0 else x (v - 1)) (wls g.links) := y5 gv (y := fun v => if v = 0 then 0 else x (v - 1)) rfl
  rw [e]
  have nn := zP (u := fun v => if v = 0 then 0 else x (v - 1)) (AZ gv)
  refine Classical.byContradiction fun hz => hx ?_
  have f := pV (u := fun v => if v = 0 then 0 else x (v - 1)) (AZ gv) (by grind)
  have c := (nJ gv (u := i + 1) (v := 0) (by omega) (by omega)).1 (hc (i + 1) (by omega))
  rw [<- pH] at c;exact yn (y := fun v => if v = 0 then 0 else x (v - 1)) f c
end
def mnX (g : GR) : Nat -> Rat := slX g (nmX g)
def mnY (g : GR) : Nat -> Rat := slX g (nmY g)
section
variable {g : GR} (gv : GV g)
include gv
end
/-! ### Words -/
structure SM (g : GR) : Prop where
 n6 : g.nodes.length <= 6
 l16 : g.links.length <= 16
 ok : ∀ r ∈ g.nodes, r.OK 2
theorem EY {g : GR} (gv : GV g) (ok : ∀ r ∈ g.nodes, r.OK 2) (k : Nat) (hk : k <= g.links.length) (i : Nat) : ql ((nrL g (g.links.take k)).1 i) <= 1 + k * 18 /\ ql ((nrL g (g.links.take k)).2 i) <= 1 + k * 18 := by
 induction k generalizing i with
 | zero => exact ⟨iY, iY⟩
 | succ k ih =>
  have ih := ih (by omega)
  have hm : g.links[k] ∈ g.links := List.getElem_mem (by omega)
  have lv := gLV gv _ hm
  have o := yv (ok _ (uK lv)) rfl lv.ix lv.iy (m := 15) rfl
  have o1 := o.qx rfl
  have o2 := o.qy rfl
  rw [alS, jS] at o1;rw [alS, jQ] at o2
  have lw := lv.w
  have w1 : ql ((cfN i g.links[k] : Int) : Rat) <= 2 := dN (by unfold cfN; (repeat' split) <;> exact ⟨by omega, by omega⟩)
  rw [qN g (by omega)]
  obtain ⟨a1, a2⟩ := HA (g := g) (nrL g (g.links.take k)) lv i
  rw [a1, a2];exact ⟨Nat.le_trans (dz (ih i).1 (aR w1 o1)) (by omega), Nat.le_trans (dz (ih i).2 (aR w1 o2)) (by omega)⟩
theorem vT {f : Nat -> Rat} {M : Nat} : ∀ {k : Nat}, (∀ t, t < k -> ql (f t) <= M) -> ql (sm k f) <= 1 + k * (M + 1)
 | 0, _ => by show ql (0 : Rat) <= _; exact Nat.le_trans iY (by omega)
 | k + 1, h => by
  have ih := vT (k := k) fun t ht => h t (by omega)
  rw [bE];exact Nat.le_trans (dz ih (h k (by omega))) (by rw [Nat.succ_mul]; omega)
theorem Es {B : Nat -> Nat -> Rat} {n m J c : Nat} (hs : ∀ i j, i < n -> j < n -> B i j = B j i) (hB : ∀ i j, i < n -> j < n -> IB m (B i j)) {b : Nat -> Rat} (hb : ∀ i, i < n -> ql (b i) <= c) (hn : n <= 16) (hJ : n * (m + 4) < 32 * J) (hd : ∀ k, k < n -> 0 < DD B k) {i : Nat} (hi : i < n) : ql (slv B b n i) <= 1 + n * (J + c + 1) := by
 have hd' : ∀ k, k < n -> DD B k ≠ 0 := fun k hk => by have := hd k hk; grind
 have e : sm n (fun j => slv B (fun r => if r = j then 1 else 0) n i * b j) = slv B b n i := by
  refine Bu (x := fun i => sm n (fun j => slv B (fun r => if r = j then 1 else 0) n i * b j)) hs hd (fun r hr => ?_) hi;rw [ar (g := fun k => sm n (fun j => B r k * slv B (fun r => if r = j then 1 else 0) n k * b j)) (fun k _ => by rw [<- ez]; exact ar fun j _ => by grind), jU]
  rw [ar (g := fun j => (if r = j then 1 else 0) * b j) (fun j hj => by
   have := qt (B := B) (n := n) (b := fun r => if r = j then 1 else 0) hs hd' hr
   rw [<- this, <- jw])]
  rw [dD (j := r) _ hr fun j _ hne => by rw [if_neg (fun e => hne e.symm)]; grind, if_pos rfl]; grind
 rw [<- e];refine vT fun j hj => aR (Bv (m := m) (J := J) hs hB (fun a _ => ?_) hn hJ hd' hi) (hb j hj)
 show IB m (if a = j then 1 else 0)
 split
 ·exact rT.mono (Nat.zero_le _)
 ·exact zM m
structure NRM (g : GR) : Prop where
 len : (nmM g).length = g.nodes.length - 1
 rows : ∀ r ∈ nmM g, r.length = g.nodes.length - 1
 val : cp (nmM g) = true
 ok : okM 65536 (nmM g)
 fac : yc (bc (nmM g)) (g.nodes.length - 1)
 sol : l6 (bc (nmM g)) (g.nodes.length - 1) = true -> xr (bc (nmM g)) (gN (nmX g)) (g.nodes.length - 1) /\ xr (bc (nmM g)) (gN (nmY g)) (g.nodes.length - 1)
 bx : ∀ x ∈ nmX g, x.OK 305
 bY : ∀ x ∈ nmY g, x.OK 305
 qx : cnB g = true -> ∀ v, v < g.nodes.length -> ql (mnX g v) <= 1600 /\ ql (mnY g v) <= 1600
theorem EW {g : GR} (gv : GV g) (sm' : SM g) : NRM g := by
 have n6 := sm'.n6
 have n1 := gv.n1
 have hM : ∀ a b, -50331648 <= lapM g.links a b /\ lapM g.links a b <= 50331648 := fun a b => by
  have h1 := lN g.links (gLV gv) a b
  have h2 := gv.l
  omega
 have hIB : ∀ a b, a < g.nodes.length - 1 -> b < g.nodes.length - 1 -> IB 26 (bc (nmM g) a b) := fun a b ha hb => by
  unfold bc; rw [uq ha hb, bg]
  have := hM (a + 1) (b + 1)
  exact ⟨_, rfl, by
   have e : (2 : Nat) ^ 26 = 67108864 := by decide
   rw [e]; omega⟩
 have hs : ∀ a b, a < g.nodes.length - 1 -> b < g.nodes.length - 1 -> bc (nmM g) a b = bc (nmM g) b a := fun a b ha hb => j8 gv ha hb
 have hJ : (g.nodes.length - 1) * (26 + 4) < 32 * 5 := by omega
 have hn16 : g.nodes.length - 1 <= 16 := by omega
 have qr : ∀ v, ql ((nrL g g.links).1 v) <= 305 /\ ql ((nrL g g.links).2 v) <= 305 := fun v => by
  have h := EY gv sm'.ok g.links.length (Nat.le_refl _) v
  rw [List.take_length] at h
  have := sm'.l16
  exact ⟨by omega, by omega⟩
 have qbx : ∀ i, i < g.nodes.length - 1 -> ql (gN (nmX g) i) <= 305 := fun i hi => by rw [nmX, Cv hi]; exact (qr _).1
 have qby : ∀ i, i < g.nodes.length - 1 -> ql (gN (nmY g) i) <= 305 := fun i hi => by rw [nmY, Cv hi]; exact (qr _).2
 have hrows : ∀ r ∈ nmM g, r.length = g.nodes.length - 1 := fun r hr => by
  obtain ⟨a, _, rfl⟩ := List.mem_map.1 hr
  simp [rZ]
 have sol : ∀ b : Nat -> Rat, (∀ i, i < g.nodes.length - 1 -> ql (b i) <= 305) -> l6 (bc (nmM g)) (g.nodes.length - 1) = true -> xr (bc (nmM g)) b (g.nodes.length - 1) /\ ∀ i, i < g.nodes.length - 1 -> ql (slv (bc (nmM g)) b (g.nodes.length - 1) i) <= 1600 := fun b hb hp => by
  have hd := of_decide_eq_true hp
  have hd' : ∀ k, k < g.nodes.length - 1 -> DD (bc (nmM g)) k ≠ 0 := fun k hk => by have := hd k hk; grind
  have qL : ∀ a b, a < g.nodes.length - 1 -> b < a -> ql (LL (bc (nmM g)) a b) <= 5 := fun a b ha hb => DP hs hIB hn16 hJ ha hb fun k' hk' => hd' k' (by omega)
  have q2 : ∀ i, i < g.nodes.length - 1 -> ql (slv (bc (nmM g)) b (g.nodes.length - 1) i) <= 1600 := fun i hi => by
   have := Es hs hIB hb hn16 hJ hd hi
   have h5 : (g.nodes.length - 1) * (5 + 305 + 1) <= 5 * (5 + 305 + 1) := Nat.mul_le_mul_right _ (by omega)
   omega
  refine ⟨⟨fun a ha => ?_, fun a ha => Nat.le_trans (q2 a ha) (by decide)⟩, q2⟩
  have h1 := x9 qL hb a ha
  have h2 : 2 ^ a <= 2 ^ 5 := Nat.pow_le_pow_right (by decide) (by omega)
  have h3 : (305 + 5 + 1) * 2 ^ a <= 311 * 2 ^ 5 := Nat.mul_le_mul_left _ h2
  have h4 : 311 * 2 ^ 5 = 9952 := by decide
  omega
 refine ⟨j9 g, hrows, ?_, ?_, ?_, fun hp => ⟨(sol _ qbx hp).1, (sol _ qby hp).1⟩, ?_, ?_, ?_⟩
 ·refine decide_eq_true ⟨by rw [j9]; omega, fun r hr => by rw [j9]; exact hrows r hr, fun a ha b hb => ?_⟩;rw [j9] at ha;exact hs a b ha (by omega)
 ·intro r hr x hx
  obtain ⟨a, _, rfl⟩ := List.mem_map.1 hr
  obtain ⟨w, _, rfl⟩ := List.mem_map.1 (List.mem_of_mem_drop hx)
  have := hM (a + 1) w
  exact (aY (dN ⟨by omega, by omega⟩)).mono rfl
 ·intro a ha hd
  have hd' : ∀ k, k < a -> DD (bc (nmM g)) k ≠ 0 := fun k hk => by have := hd k hk; grind
  exact ⟨Nat.le_trans (GB hs hIB hn16 hJ ha hd') (by decide), fun b hb => Nat.le_trans (DP hs hIB hn16 hJ ha hb fun k' hk' => hd' k' (by omega)) (by decide)⟩
 ·intro x hx
  obtain ⟨a, _, rfl⟩ := List.mem_map.1 hx
  exact aY (qr _).1
 ·intro x hx
  obtain ⟨a, _, rfl⟩ := List.mem_map.1 hx
  exact aY (qr _).2
 ·intro hc v hv
  rw [<- xM gv] at hc
  unfold mnX mnY slX
  by_cases e : v = 0
  ·rw [if_pos e, if_pos e]; exact ⟨by decide, by decide⟩
  ·rw [if_neg e, if_neg e];exact ⟨(sol _ qbx hc).2 _ (by omega), (sol _ qby hc).2 _ (by omega)⟩
end Go.Proofs.YtceacleokgoooaaGreatDoor

/- Costs and gradients by coordinates. No condition. -/
namespace Go.Proofs.YtceacleokgoooaaGreatDoor
attribute [local irreducible] aA

def xs (s : List SP) (v : Nat) : Rat := (s.getD v sp0).vx
def ys (s : List SP) (v : Nat) : Rat := (s.getD v sp0).vy
/-! ### Words of costs -/
end Go.Proofs.YtceacleokgoooaaGreatDoor

/- Graphs with the same costs have the same minimum. No condition. -/
namespace Go.Proofs.YtceacleokgoooaaGreatDoor
attribute [local irreducible] aA

/-! ### A link parted -/
end Go.Proofs.YtceacleokgoooaaGreatDoor

/- A function that hands back the address of a variable of its own that holds data. No condition. -/
namespace Go.Proofs.YtceacleokgoooaaGreatDoor
open Go.RowKit

section
variable {P : Program} {T : Tab} {w0 : Base} {X : Nat -> Prop} {μ : Nat -> Nat} {a : Act} {w : World} {st : St}
end
end Go.Proofs.YtceacleokgoooaaGreatDoor

/- Addresses of data compared with nil, and looked at. No condition. -/
namespace Go.Proofs.YtceacleokgoooaaGreatDoor
open Go.RowKit

section
variable {P : Program} {w0 : Base} {X : Nat -> Prop} {ops : List Oper} {K : St -> Prop} {k n : Nat} {E : List (Nat × SV)} {S : List (Nat × Option OO)} {rb : List Nat}
end
end Go.Proofs.YtceacleokgoooaaGreatDoor

/- adjust: Minimum, Least, Gradient, Worst. No condition. -/
namespace Go.Proofs.YtceacleokgoooaaGreatDoor
attribute [local irreducible] aA
open Go.RowKit

end Go.Proofs.YtceacleokgoooaaGreatDoor

/- adjust: Worst, New, Graph; the law's small functions. No condition. -/
namespace Go.Proofs.YtceacleokgoooaaGreatDoor
attribute [local irreducible] aA
open Go.RowKit

theorem Gw {T : Tab} {t : TypeId} (a b : Nat) : aK T .gtr t (dI a) (dI b) = .set (dB (decide (b < a))) := by
 show aT (.bool (decide ((a : Int) > (b : Int)))) = _
 have : (decide ((a : Int) > (b : Int))) = decide (b < a) := by
  rw [Bool.eq_iff_iff, decide_eq_true_eq, decide_eq_true_eq]; omega
 rw [this]; rfl
theorem Gv {T : Tab} {t : TypeId} (a b : Nat) : aK T .leq t (dI a) (dI b) = .set (dB (decide (a <= b))) := by
 show aT (.bool (decide ((a : Int) <= (b : Int)))) = _
 have : (decide ((a : Int) <= (b : Int))) = decide (a <= b) := by
  rw [Bool.eq_iff_iff, decide_eq_true_eq, decide_eq_true_eq]; omega
 rw [this]; rfl
theorem gn {T : Tab} {t : TypeId} {a b : Int} {c : Bool} (h : (a != b) = c) : aK T .neq t (dI a) (dI b) = .set (dB c) := by subst h; rfl
theorem pp {T : Tab} {t : TypeId} {a b : Int} {c : Bool} (h : (a == b) = c) : aK T .eql t (dI a) (dI b) = .set (dB c) := by subst h; rfl

/-! ### Small inputs -/
def w1 (r : RW) : Bool := decide (r.wp.length <= 1 /\ r.wq.length <= 1)
/-! ### New and Graph -/
end Go.Proofs.YtceacleokgoooaaGreatDoor

/- Powers, orders and marks of rotations; transforms. No condition. -/
namespace Go.Proofs.YtceacleokgoooaaGreatDoor
attribute [local irreducible] aA

end Go.Proofs.YtceacleokgoooaaGreatDoor

/- Rigid transforms. No condition. -/
namespace Go.Proofs.YtceacleokgoooaaGreatDoor
attribute [local irreducible] aA

structure TR.OK (k : Nat) (t : TR) : Prop where
 r : t.r.OK k
 x : t.x.OK k
 y : t.y.OK k
theorem TR.OK.mono {t : TR} {k m : Nat} (h : t.OK k) (hk : Nat.ble k m = true) : t.OK m := ⟨h.r.mono hk, h.x.mono hk, h.y.mono hk⟩
end Go.Proofs.YtceacleokgoooaaGreatDoor

/- Small numbers as text. No condition. -/
namespace Go.Proofs.YtceacleokgoooaaGreatDoor
attribute [local irreducible] aA

theorem sr {d : Nat} (h : d ≠ 0) : eC [d] = [d] := by
 unfold eC; simp [h]
def Ic : List UInt8 := [48, 49, 50, 51, 52, 53, 54, 55, 56, 57, 97, 98, 99, 100, 101, 102, 103, 104, 105, 106, 107, 108, 109, 110, 111, 112, 113, 114, 115, 116, 117, 118, 119, 120, 121, 122]
def xt : List UInt8 := [48, 48, 48, 49, 48, 50, 48, 51, 48, 52, 48, 53, 48, 54, 48, 55, 48, 56, 48, 57, 49, 48, 49, 49, 49, 50, 49, 51, 49, 52, 49, 53, 49, 54, 49, 55, 49, 56, 49, 57, 50, 48, 50, 49, 50, 50, 50, 51, 50, 52] ++ [50, 53, 50, 54, 50, 55, 50, 56, 50, 57, 51, 48, 51, 49, 51, 50, 51, 51, 51, 52, 51, 53, 51, 54, 51, 55, 51, 56, 51, 57, 52, 48, 52, 49, 52, 50, 52, 51, 52, 52, 52, 53, 52, 54, 52, 55, 52, 56, 52, 57] ++ [53, 48, 53, 49, 53, 50, 53, 51, 53, 52, 53, 53, 53, 54, 53, 55, 53, 56, 53, 57, 54, 48, 54, 49, 54, 50, 54, 51, 54, 52, 54, 53, 54, 54, 54, 55, 54, 56, 54, 57, 55, 48, 55, 49, 55, 50, 55, 51, 55, 52] ++ [55, 53, 55, 54, 55, 55, 55, 56, 55, 57, 56, 48, 56, 49, 56, 50, 56, 51, 56, 52, 56, 53, 56, 54, 56, 55, 56, 56, 56, 57, 57, 48, 57, 49, 57, 50, 57, 51, 57, 52, 57, 53, 57, 54, 57, 55, 57, 56, 57, 57]
def txL (d : Nat) : List UInt8 := if d < 10 then (Ic.drop d).take 1 else (xt.drop (2 * d)).take 2
abbrev sB (l : List UInt8) : DC := .lit (.string ⟨l.toArray⟩)
theorem Dc {T : Tab} {t : TypeId} {ti : TI} {s : ByteArray} {l : List UInt8} {i j : Int} {a b : Nat} (h1 : T t = some ti) (h2 : ti.und = .string) (hs : s = ⟨l.toArray⟩) (hi : i = (a : Int)) (hj : j = (b : Int)) (hab : a <= b) (hb : b <= l.length) :
  ci T t (V1 (.lit (.string s))) i j = .set (V1 (sB ((l.drop a).take (b - a)))) := by
 subst hs hi hj
 have e : (ByteArray.mk l.toArray).size = l.length := by simp [ByteArray.size]
 simp only [ci, h1, h2, yH];rw [if_pos ⟨by omega, by omega, by rw [e]; omega⟩]
 show aT (.string ((ByteArray.mk l.toArray).extract ((a : Int)).toNat ((b : Int)).toNat)) = _
 rw [show ((a : Int)).toNat = a from rfl, show ((b : Int)).toNat = b from rfl, Go.ByteArray.extract_mk]
 rfl

theorem Er (d : Nat) (hd : d < 100) : Con Tryz.prog 158 [dI d] { v := V1 (sB (txL d)) } := by
 have l1 : Ic.length = 36 := rfl
 have l2 : xt.length = 200 := rfl
 refine Z3 Tryz.func158 ?_
 intro w0 X
 rw [ap _ _ [(0, dI d)] rfl rfl];refine gQ fun _ O=>?_;refine Z8 ?_;refine eQ O ?_;clear O;refine ab ?_;refine gQ fun _ O=>?_;refine Z9 ?_;refine Z6 ?_;refine eQ O ?_;clear O;refine aj rfl (fun hc => ?_) (fun hc => ?_)
 ·have hc : d < 10 := by have := of_decide_eq_true hc; omega
  refine gQ fun _ O=>?_;refine Z9 ?_;refine Z9 ?_;refine ai rfl (aF (c := ((d + 1 : Nat) : Int)) (by omega) (by omega)) rfl ?_;refine jX rfl rfl rfl (Dc (l := Ic) (a := d) (b := d + 1) rfl rfl rfl rfl rfl (by omega) (by omega)) rfl ?_;refine Z8 ?_;refine eQ O ?_;clear O;exact al (eh (h3 := by unfold txL; rw [if_pos hc, Nat.add_sub_cancel_left]; rfl))
 ·have hc : ¬ d < 10 := by have := of_decide_eq_false hc; omega
  refine ag ?_;show AWP _ _ _ _ _ _;refine gQ fun _ O=>?_;refine Z9 ?_;refine ai rfl (zr (c := ((2 * d : Nat) : Int)) (by omega) (by omega)) rfl ?_;refine Z9 ?_;refine ai rfl (zr (c := ((2 * d : Nat) : Int)) (by omega) (by omega)) rfl ?_;refine ai rfl (aF (c := ((2 * d + 2 : Nat) : Int)) (by omega) (by omega)) rfl ?_;refine jX rfl rfl rfl (Dc (l := xt) (a := 2 * d) (b := 2 * d + 2) rfl rfl rfl rfl rfl (by omega) (by omega)) rfl ?_;refine Z8 ?_;refine eQ O ?_;clear O;exact al (eh (h3 := by unfold txL; rw [if_neg hc, Nat.add_sub_cancel_left]; rfl))

theorem HU (d : Nat) (hd : d < 100) : Con Tryz.prog 138 [dL d, dI 10] { v := V1 (sB (txL d)) } := by
 refine Z3 Tryz.func138 ?_
 intro w0 X
 rw [ap _ _ [(0, dL d), (1, dI 10)] rfl rfl];refine gQ fun _ O=>?_;refine Z8 ?_;refine eQ O ?_;clear O;refine ab ?_;refine gQ fun _ O=>?_;refine Z9 ?_;refine Z6 ?_;refine eQ O ?_;clear O;refine aj rfl (fun _ => ?_) (fun hc => by cases hc);refine ab ?_;refine gQ fun _ O=>?_;refine Z9 ?_;refine Z6 ?_;refine eQ O ?_;clear O;refine aj rfl (fun _ => ?_) (fun hc => by have := of_decide_eq_false hc; omega);refine gQ fun _ O=>?_;refine Z9 ?_;refine aZ rfl (bb rfl rfl rfl (by show IntKind.i64.wrap (d : Int) = (d : Int); exact IntWalk.i64_in _ (by omega))) rfl ?_;refine ac rfl rfl (Er d hd) rfl rfl rfl rfl ?_;refine Z8 ?_;refine eQ O ?_;clear O;exact al aP
theorem Gs (d : Nat) (hd : d < 100) : Con Tryz.prog 107 [dL d, dI 10] { v := V1 (sB (txL d)) } := by
 show Con _ _ _ _
 refine Z3 Tryz.func107 ?_
 intro w0 X
 rw [ap _ _ [(0, dL d), (1, dI 10)] rfl rfl];refine gQ fun _ O=>?_;refine Z8 ?_;refine eQ O ?_;clear O;refine gQ fun _ O=>?_;refine Z9 ?_;refine Z9 ?_;refine ac rfl rfl (HU d hd) rfl rfl rfl rfl ?_;refine Z8 ?_;refine eQ O ?_;clear O;exact al aP

theorem Hc (s : DC) : Con Tryz.prog 109 [V1 (.sl [[s]])] { v := .tup [] } := by
 refine Z3 Tryz.func109 ?_
 intro w0 X
 rw [ap _ _ [(0, V1 (.sl [[s]]))] rfl rfl];refine gQ fun _ O=>?_;refine Z9 ?_;refine az rfl (jD (n := 1) rfl rfl rfl) rfl ?_;refine Z6 ?_;refine Z8 ?_;refine Z8 ?_;refine eQ O ?_;clear O;refine ae (aG (α := Unit) (fun _ => mk 28 [(2, dI 0), (3, dI 0)] [] []) (fun _ => True) (fun _ => 0) () ?_ trivial ?_)
 ·exact Wk.mk' ⟨rfl, rfl, trivial⟩ trivial
 rintro - -
 refine ab ?_;refine gQ fun _ O=>?_;refine Z9 ?_;refine Z9 ?_;refine Z6 ?_;refine eQ O ?_;clear O;refine aj rfl (fun hc => by cases hc) (fun _ => ?_);refine ax ?_;exact (yb (by rfl) (by rfl) (by rfl) : Fin tab Tryz.f109 _ _)
theorem Fp (s sep : ByteArray) : Con Tryz.prog 110 [V1 (.sl [[.lit (.string s)]]), V1 (.lit (.string sep))] { v := V1 (.lit (.string s)) } := by
 refine Z3 Tryz.func110 ?_
 intro w0 X
 rw [ap _ _ [(0, V1 (.sl [[.lit (.string s)]])), (1, V1 (.lit (.string sep)))] rfl rfl];refine gQ fun _ O=>?_;refine Z8 ?_;refine eQ O ?_;clear O;refine ab ?_;refine gQ fun _ O=>?_;refine Z9 ?_;refine az rfl (jD (n := 1) rfl rfl rfl) rfl ?_;refine eQ O ?_;clear O;refine ae ?_;refine gQ fun _ O=>?_;refine Z6 ?_;refine Z8 ?_;refine eQ O ?_;clear O;refine aj rfl (fun hc => by cases hc) (fun _ => ?_);refine gQ fun _ O=>?_;refine Z6 ?_;refine Z8 ?_;refine eQ O ?_;clear O;refine aj rfl (fun _ => ?_) (fun hc => by cases hc);refine gQ fun _ O=>?_;refine Z9 ?_;refine aa rfl (x_d (i := 0) rfl rfl rfl rfl rfl rfl) rfl ?_;refine Z7 ?_;refine Z8 ?_;refine eQ O ?_;clear O;exact al aP

theorem Hj (x : Int) (hx : zl x <= 536870912) : Con Tryz.prog 93 [AG (ZC x)] { v := dB (decide (x = 1)) } := by
 have c1 := uH x 1 hx (by decide)
 refine Z3 Tryz.func93 ?_
 intro w0 X
 rw [ap _ _ [(0, AG (ZC x))] rfl rfl];refine gQ fun _ O=>?_;refine aS rfl rfl rfl rfl rfl rfl ?_;refine Z8 ?_;refine eQ O ?_;clear O;refine aL tok mixed (A := [[], [], [], [0, 1], []]) (an := [{}, {}, {}, {}, {}]) rfl (by kernel_rfl) rfl fun _ O=>?_;refine Z7 ?_;refine ac rfl rfl (pc 1 (by unfold I64; omega)) rfl rfl rfl rfl ?_;refine ac rfl rfl (c1) rfl rfl rfl rfl ?_;refine Z6 ?_;refine Z8 ?_;refine eQ O ?_;clear O;exact al (eh (h3 := by rw [<- tH]; rfl))

def Jw : Tab := { tab with dat := fun _ => true }
theorem c7 : TOK Tryz.prog Jw := ⟨tok.ty, tok.clo, tok.eqs⟩
theorem Fq (d : Nat) (hd : d < 100) : Con Tryz.prog 58 [AG (ZC d)] { v := V1 (sB (txL d)) } := by
 refine jK (fn := Tryz.f58) c7 Tryz.func58 (by kernel_rfl) rfl ?_
 intro w0 X
 rw [ap _ _ [(0, AG (ZC d))] rfl rfl]
 rcases Nat.eq_zero_or_pos d with h0 | h0
 ·subst h0
  refine au c7 fun _ O=>?_;refine aS rfl rfl rfl rfl rfl rfl ?_;refine Z8 ?_;refine eQ O ?_;clear O;refine au c7 fun _ O=>?_;refine Z5 ?_;refine Z7 ?_;refine ac rfl rfl (db [] wOK.nil (by decide)) rfl rfl rfl rfl ?_;refine ac rfl rfl (lZ [] (by decide)) rfl rfl rfl rfl ?_;refine Z8 ?_;refine eQ O ?_;clear O;refine ab ?_;refine au c7 fun _ O=>?_;refine Z9 ?_;refine az rfl (bA rfl rfl rfl) rfl ?_;refine Z6 ?_;refine eQ O ?_;clear O;refine aj rfl (fun _ => ?_) (fun hc => by cases hc);refine au c7 fun _ O=>?_;refine Z8 ?_;refine eQ O ?_;clear O;exact al aP
 have hw : wof d = [d] := by
  have e : wv [d] = d := by simp [wv]
  rw [<- e, <- kJ (wOK.one (by omega))];exact sr (by omega)
 have hz : ZC (d : Int) = IC false [d] := by unfold ZC; rw [Int.natAbs_natCast, hw, decide_eq_false (by omega)]
 have hok : wOK [d] := wOK.one (by omega)
 have hv : wv [d] = d := by simp [wv]
 have cs := tR [d] 1000000000 hok (by decide) (by decide) (by simp)
 rw [hv, Nat.div_eq_of_lt (show d < 1000000000 by omega), Nat.mod_eq_of_lt (show d < 1000000000 by omega)] at cs
 have ct := db (bz [d].length 0) (ce _ _) (by simp [bz])
 rw [cY, Nat.zero_mod] at ct
 have c0 := db [d] hok (by simp)
 rw [hv, hw] at c0;rw [hz];refine au c7 fun _ O=>?_;refine aS rfl rfl rfl rfl rfl rfl ?_;refine Z8 ?_;refine eQ O ?_;clear O;refine au c7 fun _ O=>?_;refine Z5 ?_;refine Z7 ?_;refine ac rfl rfl (c0) rfl rfl rfl rfl ?_;refine ac rfl rfl (lZ [d] (by simp)) rfl rfl rfl rfl ?_;refine Z8 ?_;refine eQ O ?_;clear O;refine ab ?_;refine au c7 fun _ O=>?_;refine Z9 ?_;refine az rfl (bA rfl rfl rfl) rfl ?_;refine Z6 ?_;refine eQ O ?_;clear O;refine aj rfl (fun hc => by cases hc) (fun _ => ?_);refine ag ?_;show AWP _ _ _ _ _ _;refine au c7 fun _ O=>?_;refine Z8 ?_;refine eQ O ?_;clear O;refine ab ?_;refine ae (aG (α := Nat) (fun i => mk 49 [(1, .ptr 1 0), (3, V1 (dW ([d].drop i))), (4, bU 4 1 i)] [(1, some (.box (IC false [d]))), (4, ca 1 [[sB (txL d)]] i)] []) (fun i => i <= 1) (fun i => 1 - i) 0 ?_ (Nat.zero_le _) ?_)
 ·exact Wk.mk' ⟨rfl, rfl, rfl, trivial⟩ ⟨rfl, rfl, trivial⟩
 intro i hi
 refine ab ?_
 rcases i with _ | i
 ·refine au c7 fun _ O=>?_;refine Z9 ?_;refine az rfl (bA rfl rfl rfl) rfl ?_;refine Z6 ?_;refine eQ O ?_;clear O;refine aj rfl (fun _ => ?_) (fun hc => by cases hc);refine ag ?_;show AWP _ _ _ _ _ _;refine ae ?_;refine au c7 fun _ O=>?_;refine Z8 ?_;refine eQ O ?_;clear O;refine au c7 fun _ O=>?_;refine Z9 ?_;refine ac rfl rfl (cs) rfl rfl rfl rfl ?_;refine Z9 ?_;refine aq rfl rfl rfl ?_;refine aq rfl rfl rfl ?_;refine Z8 ?_;refine Z8 ?_;refine eQ O ?_;clear O;refine au c7 fun _ O=>?_;refine Z9 ?_;refine ac rfl rfl (ct) rfl rfl rfl rfl ?_;refine Z8 ?_;refine eQ O ?_;clear O;refine au c7 fun _ O=>?_;refine Z9 ?_;refine aZ rfl (bb rfl rfl rfl (by show IntKind.u64.wrap (d : Int) = (d : Int); rw [vm]; omega)) rfl ?_;refine ac rfl rfl (Gs d hd) rfl rfl rfl rfl ?_;refine Z8 ?_;refine eQ O ?_;clear O;refine ab ?_;refine au c7 fun _ O=>?_;refine Z9 ?_;refine az rfl (bA rfl rfl rfl) rfl ?_;refine Z6 ?_;refine eQ O ?_;clear O;refine aj rfl (fun hc => by cases hc) (fun _ => ?_);refine ag ?_;show AWP _ _ _ _ _ _;refine gj c7 fun _ O=>?_;refine Z9 ?_;refine Z9 ?_;refine je rfl rfl rfl rfl ?_;refine aO rfl (dS rfl rfl rfl rfl rfl (by decide) (Nat.le_of_ble_eq_true rfl) rfl (by simp) rfl (by simp) (by simp)) rfl rfl rfl ?_;refine Z8 ?_;refine eQ O ?_;clear O;refine ⟨1, by omega, by omega, Wk.rn [1, 3, 4] [1, 39] 39 4 rfl rfl rfl ⟨rfl, rfl, rfl, trivial⟩ ⟨rfl, rfl, trivial⟩⟩
 ·obtain rfl : i = 0 := by omega
  refine au c7 fun _ O=>?_;refine Z9 ?_;refine az rfl (bA rfl rfl rfl) rfl ?_;refine Z6 ?_;refine eQ O ?_;clear O;refine aj rfl (fun hc => by cases hc) (fun _ => ?_);refine ax ?_;show AWP _ _ _ _ _ _;refine ab ?_;refine au c7 fun _ O=>?_;refine Z5 ?_;refine Z7 ?_;refine eQ O ?_;clear O;refine aj rfl (fun hc => by cases hc) (fun _ => ?_);refine ag ?_;show AWP _ _ _ _ _ _;refine d3 [4] [4] 4 [(4, V1 (.sl [[sB (txL d)]]))] [] rfl ?_ trivial ?_
  ·exact ⟨bG rfl rfl, trivial⟩
  refine au c7 fun _ O=>?_;refine Z9 ?_;refine ac rfl rfl (Hc (sB (txL d))) rfl rfl rfl rfl ?_;refine eQ O ?_;clear O;refine au c7 fun _ O=>?_;refine Z9 ?_;refine ac rfl rfl (Fp _ _) rfl rfl rfl rfl ?_;refine Z8 ?_;refine eQ O ?_;clear O;exact al aP
end Go.Proofs.YtceacleokgoooaaGreatDoor

/- A call that turns an own array of two strings round. No condition. -/
namespace Go.Proofs.YtceacleokgoooaaGreatDoor
open Go.RowKit

def Jn (P : Program) (f : FuncId) : Prop :=
 (∃ fn, P.funcs[f]? = some fn /\ (fn.name == "runtime.NumGoroutine") = false /\ fn.body.isSome = true) /\
  ∀ (w : World) (b cap : Nat) (x y : ByteArray) (cs : Array Value) (E : TypeId), w.heap[b]? = some (.cells cs E (0, 0)) -> cs[0]? = some (.string x) -> cs[1]? = some (.string y) ->
   Calls P f #[.slice (some ⟨b, 0, none⟩) 2 cap] w (fun e w' => e = .returned (.tuple #[]) /\ ∃ w1, Below w.heap.size w w1 /\ w1.heap[b]? = w.heap[b]? /\ w' = setRow w1 b ((cs.setIfInBounds 0 (.string y)).setIfInBounds 1 (.string x)))

section
variable {P : Program} {w0 : Base} {X : Nat -> Prop} {ops : List Oper} {K : St -> Prop} {k n : Nat} {E : List (Nat × SV)} {S : List (Nat × Option OO)} {rb : List Nat}
theorem Io {f : FuncId} {d t id : Nat} {x y : ByteArray} {ts : Array TypeId} {ty : TypeId} {ps : String} {af : Array Edge} (hf : Jn P f) (ho : ops[k]? = some ⟨some d, .call ⟨.value (.func f), #[.tmp t], ts⟩, ty, ps, af, none⟩)
  (ht : rd n E (.tmp t) = .val (.one (.own id 1 0 2))) (hS : so S id = some (.arr 1 [[.lit (.string x)], [.lit (.string y)]]))
  (h : eP P w0 X ops (k + 1) K (mk n ((d, .tup []) :: E) ((id, some (.arr 1 [[.lit (.string y)], [.lit (.string x)]])) :: S) rb)) : eP P w0 X ops k K (mk n E S rb) := by
 intro μ a w Q hQ hs
 have hk : k < ops.length := by
  rcases Nat.lt_or_ge k ops.length with h' | h'
  ·exact h'
  ·rw [List.getElem?_eq_none h'] at ho; cases ho
 rw [List.drop_eq_getElem_cons (by simpa using hk), List.getElem_range, wpOps_cons]
 have ho' : ops.toArray[k]? = some ⟨some d, .call ⟨.value (.func f), #[.tmp t], ts⟩, ty, ps, af, none⟩ := by simpa using ho
 unfold wpOp
 rw [ho']
 simp only
 rw [if_pos (by rfl)];refine Or.inl ?_
 unfold Oper.wp
 simp only [execOp]
 obtain ⟨⟨fn, h1, h2, h3⟩, hcall⟩ := hf
 have hsl := hs.slots t
 rw [dE, ht] at hsl
 obtain ⟨cap, cs, E1, fr, hv, hle, hh, hcap⟩ := hsl
 obtain ⟨hid, cs2, E2, hh2, hrel⟩ := hs.objs id _ (show (mk n E S rb).σ id = _ from hS)
 rw [hh] at hh2
 obtain ⟨rfl, rfl, rfl⟩ : cs = cs2 /\ E1 = E2 /\ fr = (0, 0) := by cases hh2; exact ⟨rfl, rfl, rfl⟩
 obtain ⟨hr0, hr1, hr2⟩ := hrel
 have g0 : cs[0]? = some (.string x) := by
  obtain ⟨u, e1, e2⟩ := hr2 0 0 (.lit (.string x)) rfl
  have : u = .string x := by cases e2; rfl
  rw [this] at e1; simpa using e1
 have g1 : cs[1]? = some (.string y) := by
  obtain ⟨u, e1, e2⟩ := hr2 1 0 (.lit (.string y)) rfl
  have : u = .string y := by cases e2; rfl
  rw [this] at e1; simpa using e1
 refine oc (c := ⟨.value (.func f), #[.tmp t], ts⟩) rfl h1 h2 h3 ?_
 have ea : (#[Operand.tmp t] : Array Operand).map a.eval = #[.slice (some ⟨μ id, 0, none⟩) 2 cap] := by
  rw [<- hv, List.map_toArray, List.map_cons, List.map_nil]; rfl
 show Calls P f ((#[Operand.tmp t] : Array Operand).map a.eval) w _
 rw [ea];refine (hcall w (μ id) cap x y cs E1 hh g0 g1).mono fun e w' ⟨he, w1, hb, hw1, hw'⟩ => ⟨_, he, ?_⟩
 subst hw'
 have hs1 := hs.below hb
 have hh1 : w1.heap[μ id]? = some (.cells cs E1 (0, 0)) := by rw [hw1]; exact hh
 have hs2 := hs1.upd (id := id) (o' := .arr 1 [[.lit (.string y)], [.lit (.string x)]]) (show (mk n E S rb).σ id = _ from hS) hh1 (cs' := (cs.setIfInBounds 0 (.string y)).setIfInBounds 1 (.string x)) (by simp) ?_ (rb' := rb) (fun k h => h) (fun l hl => by cases hl)
 ·have e : (⟨(mk n E S rb).ρ, aX (mk n E S rb).σ id (.arr 1 [[.lit (.string y)], [.lit (.string x)]]), rb⟩ : St) = mk n E ((id, some (.arr 1 [[.lit (.string y)], [.lit (.string x)]])) :: S) rb := by
   show (⟨_, aX (so S) id _, rb⟩ : St) = _
   rw [iT]; rfl
  rw [e] at hs2
  have hs3 := hs2.put (dst := some d) (u := .tuple #[]) (v := .tup []) ⟨[], rfl, rfl, fun i x hx => by simp at hx⟩
  rw [g6] at hs3;exact h μ _ _ Q hQ hs3
 ·have z0 : 0 < cs.size := (Array.getElem?_eq_some_iff.1 g0).1
  have z1 : 1 < cs.size := (Array.getElem?_eq_some_iff.1 g1).1
  refine ⟨by simpa using hr0, fun i e he => ?_, fun i j dd hd => ?_⟩
  ·match i, he with
   | 0, he => cases he; rfl
   | 1, he => cases he; rfl
   | i + 2, he => cases he
  ·match i, j, hd with
   | 0, 0, hd => cases hd; exact ⟨.string y, by simp [z0], RdC.lit rfl⟩
   | 1, 0, hd => cases hd; exact ⟨.string x, by simp [z1], RdC.lit rfl⟩
   | 0, j + 1, hd => simp [at2] at hd
   | 1, j + 1, hd => simp [at2] at hd
   | i + 2, j, hd => simp [at2] at hd
end
end Go.Proofs.YtceacleokgoooaaGreatDoor

/- The library functions Join and Reverse at this program: what the kit proves of them over any program. No condition. -/
namespace Go.Proofs.YtceacleokgoooaaGreatDoor
open Go.Shelf
def sh_lays156_ren : Go.Shelf.Ren := ⟨fun | 156 => 110 | 165 => 141 | 166 => 142 | 169 => 144 | 240 => 165 | 241 => 166 | 276 => 178 | 277 => 179 | n => n, fun | 31 => 160 | 9 => 9 | 3 => 3 | 4 => 4 | 0 => 0 | 20 => 20 | 72 => 192 | 76 => 196 | 70 => 189 | 37 => 190 | 75 => 195 | 127 => 214 | 164 => 223 | 5 => 5 | 80 => 199 | n => n, fun | n => n⟩
theorem sh_lays156 : Go.Proofs.Lays.n156 Tryz.prog sh_lays156_ren := {
 mixed := by kernel_rfl
 f156 := Tryz.func110.trans (congrArg some (by kernel_rfl))
 f165 := Tryz.func141.trans (congrArg some (by kernel_rfl))
 f166 := Tryz.func142.trans (congrArg some (by kernel_rfl))
 f169 := Tryz.func144.trans (congrArg some (by kernel_rfl))
 f240 := Tryz.func165.trans (congrArg some (by kernel_rfl))
 f241 := Tryz.func166.trans (congrArg some (by kernel_rfl))
 f276 := Tryz.func178.trans (congrArg some (by kernel_rfl))
 f277 := Tryz.func179.trans (congrArg some (by kernel_rfl))
 t0 := Tryz.underlying0
 a0 := Tryz.isAgg0
 z0 := Tryz.sizeOf0
 v0 := Tryz.zeroValue0
 t3 := Tryz.underlying3
 a3 := Tryz.isAgg3
 z3 := Tryz.sizeOf3
 v3 := Tryz.zeroValue3
 t4 := Tryz.underlying4
 a4 := Tryz.isAgg4
 z4 := Tryz.sizeOf4
 v4 := Tryz.zeroValue4
 t9 := Tryz.underlying9
 a9 := Tryz.isAgg9
 z9 := Tryz.sizeOf9
 v9 := Tryz.zeroValue9
 t20 := Tryz.underlying20
 a20 := Tryz.isAgg20
 z20 := Tryz.sizeOf20
 v20 := Tryz.zeroValue20
 t31 := Tryz.underlying160
 a31 := Tryz.isAgg160
 z31 := Tryz.sizeOf160
 v31 := Tryz.zeroValue160
 t37 := Tryz.underlying190
 a37 := Tryz.isAgg190
 z37 := Tryz.sizeOf190
 v37 := Tryz.zeroValue190
 t70 := Tryz.underlying189
 a70 := Tryz.isAgg189
 z70 := Tryz.sizeOf189
 v70 := Tryz.zeroValue189
 t72 := Tryz.underlying192
 a72 := Tryz.isAgg192
 z72 := Tryz.sizeOf192
 v72 := Tryz.zeroValue192
 t75 := Tryz.underlying195
 a75 := Tryz.isAgg195
 z75 := Tryz.sizeOf195
 v75 := Tryz.zeroValue195
 t76 := Tryz.underlying196
 a76 := Tryz.isAgg196
 z76 := Tryz.sizeOf196
 v76 := Tryz.zeroValue196
 t127 := Tryz.underlying214
 a127 := Tryz.isAgg214
 z127 := Tryz.sizeOf214
 v127 := Tryz.zeroValue214
 t164 := Tryz.underlying223
 a164 := Tryz.isAgg223
 z164 := Tryz.sizeOf223
 v164 := Tryz.zeroValue223 }
theorem sh_Builder_Extra_156 : Builder.Extra Tryz.prog sh_lays156_ren := {
 sizeBuilder := by kernel_rfl
 liesBuilder := by kernel_rfl
 t5 := Tryz.underlying5
 a5 := Tryz.isAgg5
 z5 := Tryz.sizeOf5
 v5 := Tryz.zeroValue5
 infoByte := by kernel_rfl
 cellsByte := by kernel_rfl
 sizeByte := by kernel_rfl
 neB5 := by decide }
open Go.RowKit in
theorem sh_strings_Join (bk o c : Nat) (xs : List ByteArray) (sep : ByteArray) (w : World) (hcells : ∀ (j : Nat) x, xs[j]? = some x -> w.cell? ⟨bk, o + j, none⟩ = some (.string x)) (hbk : bk < w.heap.size) (hN : xs.length <= 140737488355328) (hcap : xs.length <= c) (hlen : (Lib.join (xs.map (·.data.toList)) sep.data.toList).length <= 140737488355328) :
  Calls Tryz.prog 110 #[.slice (some ⟨bk, o, none⟩) xs.length c, .string sep] w fun e w' => e = .returned (.string ⟨(Lib.join (xs.map (·.data.toList)) sep.data.toList).toArray⟩) /\ Below w.heap.size w w' := Any.strings_Join sh_lays156 sh_Builder_Extra_156 bk o c xs sep w hcells hbk hN hcap hlen
def sh_laysNm217_ren : Go.Shelf.Ren := ⟨fun | 17 => 109 | n => n, fun | 24 => 160 | 9 => 9 | 3 => 3 | 4 => 4 | 0 => 0 | n => n, fun | n => n⟩
theorem sh_laysNm217 : Go.Proofs.Lays2.n17 Tryz.prog sh_laysNm217_ren := {
 mixed := by kernel_rfl
 f17 := Tryz.func109.trans (congrArg some (by kernel_rfl))
 t0 := Tryz.underlying0
 a0 := Tryz.isAgg0
 z0 := Tryz.sizeOf0
 v0 := Tryz.zeroValue0
 t3 := Tryz.underlying3
 a3 := Tryz.isAgg3
 z3 := Tryz.sizeOf3
 v3 := Tryz.zeroValue3
 t4 := Tryz.underlying4
 a4 := Tryz.isAgg4
 z4 := Tryz.sizeOf4
 v4 := Tryz.zeroValue4
 t9 := Tryz.underlying9
 a9 := Tryz.isAgg9
 z9 := Tryz.sizeOf9
 v9 := Tryz.zeroValue9
 t24 := Tryz.underlying160
 a24 := Tryz.isAgg160
 z24 := Tryz.sizeOf160
 v24 := Tryz.zeroValue160 }
open Go.RowKit Go.Lib Go.Sort in
theorem sh_slices_Reverse_string_cells (b off n c : Nat) (Sx : Nat -> ByteArray) (w : World) (hbig : n <= 9223372036854775807) (hc : ∀ i, i < n -> w.cell? ⟨b, off + i, none⟩ = some (.string (Sx i))) (hf : ∀ j, j < n -> w.frozen? ⟨b, off + j, none⟩ = false) :
  Calls Tryz.prog 109 #[.slice (some ⟨b, off, none⟩) n c] w fun e w' => e = .returned (.tuple #[]) /\ ∃ q, w' = (w.drewN q).setCells b off ((Lib.strsOf Sx n).reverse.map encStr) := Any.slices_Reverse_string_cells sh_laysNm217 b off n c Sx w hbig hc hf
end Go.Proofs.YtceacleokgoooaaGreatDoor

/- Numbers as text: negative ones, fractions. No condition. -/
namespace Go.Proofs.YtceacleokgoooaaGreatDoor
attribute [local irreducible] aA
open Go.RowKit

theorem zH (y : ByteArray) : (⟨y.data.toList.toArray⟩ : ByteArray) = y := by cases y; simp
theorem oO {w : World} {b : Nat} {cs : Array Value} {E : TypeId} {fr : Nat × Nat} (h : w.heap[b]? = some (.cells cs E fr)) (i : Nat) : w.cell? ⟨b, i, none⟩ = cs[i]? := by
 simp [World.cell?, h]
theorem Hb : Jn Tryz.prog 109 := by
 refine ⟨⟨Tryz.f109, Tryz.func109, by kernel_rfl, rfl⟩, fun w b cap x y cs E hh h0 h1 => ?_⟩;refine (sh_slices_Reverse_string_cells b 0 2 cap (fun i => if i = 0 then x else y) w (by decide) (fun i hi => ?_) (fun j _ => kX hh _)).mono fun e w' ⟨he, q, hw⟩ => ⟨he, w.drewN q, ⟨rfl, rfl, rfl, Nat.le_refl _, fun _ _ => rfl⟩, rfl, ?_⟩
 ·rw [oO hh]
  match i, hi with
  | 0, _ => exact h0
  | 1, _ => exact h1
 ·rw [hw]
  have hh' : (w.drewN q).heap[b]? = some (.cells cs E (0, 0)) := hh
  show ((w.drewN q).setCell ⟨b, 0, none⟩ (.string ⟨y.data.toList.toArray⟩)).setCell ⟨b, 1, none⟩ (.string ⟨x.data.toList.toArray⟩) = _
  rw [zH, zH, kQ hh', kQ (cZ hh' _), jd hh']
theorem Fo (x y : List UInt8) (hx : x.length <= 1000) (hy : y.length <= 1000) : Con Tryz.prog 110 [V1 (.sl [[sB x], [sB y]]), V1 (sB [])] { v := V1 (sB (x ++ y)) } := by
 refine ⟨⟨Tryz.f110, Tryz.func110, by kernel_rfl, rfl⟩, fun w X μ vs _ hX hl ha => ?_⟩
 obtain ⟨v0, e0, r0⟩ := ha 0 _ rfl
 obtain ⟨v1, e1, r1⟩ := ha 1 _ rfl
 obtain ⟨u0, u1, rfl⟩ : ∃ u0 u1, vs = [u0, u1] := by
  match vs, hl with
  | [u0, u1], _ => exact ⟨u0, u1, rfl⟩
 have r0 : RdC w X u0 (.sl [[sB x], [sB y]]) := by cases e0; exact r0
 have r1 : RdC w X u1 (sB []) := by cases e1; exact r1
 obtain rfl : u1 = .string ⟨#[]⟩ := by cases r1; rfl
 cases r0 with
 | sl gs hh hxx hlen hcap hs hv hr =>
  rename_i b off len cap sz cs E fr
  subst hlen
  have hsz : 1 = sz := hs 0 [sB x] rfl
  subst hsz
  have key : ∀ v s, RdC w X v (.lit (.string s)) -> v = .string s := fun v s h => by cases h; rfl
  have g0 : gs 0 0 = .string ⟨x.toArray⟩ := key _ _ (hr 0 0 (sB x) rfl)
  have g1 : gs 1 0 = .string ⟨y.toArray⟩ := key _ _ (hr 1 0 (sB y) rfl)
  have v0 := hv 0 0 (sB x) rfl
  have v1 := hv 1 0 (sB y) rfl
  rw [g0] at v0;rw [g1] at v1
  have hj : Lib.join ([(⟨x.toArray⟩ : ByteArray), ⟨y.toArray⟩].map (·.data.toList)) (⟨#[]⟩ : ByteArray).data.toList = x ++ y := by
   simp [Lib.join, List.intercalate]
  have := sh_strings_Join b off cap [⟨x.toArray⟩, ⟨y.toArray⟩] ⟨#[]⟩ w (fun j z hz => by
   rw [oO hh]
   match j, hz with
   | 0, hz => cases hz; simpa using v0
   | 1, hz => cases hz; simpa using v1
   | j + 2, hz => cases hz) (bt hh) (by simp) hcap (by rw [hj, List.length_append]; omega)
  rw [hj] at this;exact this.mono fun e w' ⟨he, hb⟩ => ⟨_, he, hb, 0, fun _ _ h => (by cases h), RdC.lit rfl⟩
theorem CT (d : Nat) (h0 : 0 < d) (hd : d < 100) : Con Tryz.prog 58 [AG (ZC (-(d : Int)))] { v := V1 (sB (45 :: txL d)) } := by
 have ltx : (txL d).length <= 2 := by unfold txL; split <;> simp <;> omega
 refine jK (fn := Tryz.f58) c7 Tryz.func58 (by kernel_rfl) rfl ?_
 intro w0 X
 rw [ap _ _ [(0, AG (ZC (-(d : Int))))] rfl rfl]
 have hw : wof d = [d] := by
  have e : wv [d] = d := by simp [wv]
  rw [<- e, <- kJ (wOK.one (by omega))];exact sr (by omega)
 have hz : ZC (-(d : Int)) = IC true [d] := by unfold ZC; rw [Int.natAbs_neg, Int.natAbs_natCast, hw, decide_eq_true (by omega)]
 have hok : wOK [d] := wOK.one (by omega)
 have hv : wv [d] = d := by simp [wv]
 have cs := tR [d] 1000000000 hok (by decide) (by decide) (by simp)
 rw [hv, Nat.div_eq_of_lt (show d < 1000000000 by omega), Nat.mod_eq_of_lt (show d < 1000000000 by omega)] at cs
 have ct := db (bz [d].length 0) (ce _ _) (by simp [bz])
 rw [cY, Nat.zero_mod] at ct
 have c0 := db [d] hok (by simp)
 rw [hv, hw] at c0
 have cj := Fo [45] (txL d) (by simp) (by omega)
 rw [hz];refine au c7 fun _ O=>?_;refine aS rfl rfl rfl rfl rfl rfl ?_;refine Z8 ?_;refine eQ O ?_;clear O;refine au c7 fun _ O=>?_;refine Z5 ?_;refine Z7 ?_;refine ac rfl rfl (c0) rfl rfl rfl rfl ?_;refine ac rfl rfl (lZ [d] (by simp)) rfl rfl rfl rfl ?_;refine Z8 ?_;refine eQ O ?_;clear O;refine ab ?_;refine au c7 fun _ O=>?_;refine Z9 ?_;refine az rfl (bA rfl rfl rfl) rfl ?_;refine Z6 ?_;refine eQ O ?_;clear O;refine aj rfl (fun hc => by cases hc) (fun _ => ?_);refine ag ?_;show AWP _ _ _ _ _ _;refine au c7 fun _ O=>?_;refine Z8 ?_;refine eQ O ?_;clear O;refine ab ?_;refine ae (aG (α := Nat) (fun i => mk 49 [(1, .ptr 1 0), (3, V1 (dW ([d].drop i))), (4, bU 4 1 i)] [(1, some (.box (IC true [d]))), (4, ca 1 [[sB (txL d)]] i)] []) (fun i => i <= 1) (fun i => 1 - i) 0 ?_ (Nat.zero_le _) ?_)
 ·exact Wk.mk' ⟨rfl, rfl, rfl, trivial⟩ ⟨rfl, rfl, trivial⟩
 intro i hi
 refine ab ?_
 rcases i with _ | i
 ·refine au c7 fun _ O=>?_;refine Z9 ?_;refine az rfl (bA rfl rfl rfl) rfl ?_;refine Z6 ?_;refine eQ O ?_;clear O;refine aj rfl (fun _ => ?_) (fun hc => by cases hc);refine ag ?_;show AWP _ _ _ _ _ _;refine ae ?_;refine au c7 fun _ O=>?_;refine Z8 ?_;refine eQ O ?_;clear O;refine au c7 fun _ O=>?_;refine Z9 ?_;refine ac rfl rfl (cs) rfl rfl rfl rfl ?_;refine Z9 ?_;refine aq rfl rfl rfl ?_;refine aq rfl rfl rfl ?_;refine Z8 ?_;refine Z8 ?_;refine eQ O ?_;clear O;refine au c7 fun _ O=>?_;refine Z9 ?_;refine ac rfl rfl (ct) rfl rfl rfl rfl ?_;refine Z8 ?_;refine eQ O ?_;clear O;refine au c7 fun _ O=>?_;refine Z9 ?_;refine aZ rfl (bb rfl rfl rfl (by show IntKind.u64.wrap (d : Int) = (d : Int); rw [vm]; omega)) rfl ?_;refine ac rfl rfl (Gs d hd) rfl rfl rfl rfl ?_;refine Z8 ?_;refine eQ O ?_;clear O;refine ab ?_;refine au c7 fun _ O=>?_;refine Z9 ?_;refine az rfl (bA rfl rfl rfl) rfl ?_;refine Z6 ?_;refine eQ O ?_;clear O;refine aj rfl (fun hc => by cases hc) (fun _ => ?_);refine ag ?_;show AWP _ _ _ _ _ _;refine gj c7 fun _ O=>?_;refine Z9 ?_;refine Z9 ?_;refine je rfl rfl rfl rfl ?_;refine aO rfl (dS rfl rfl rfl rfl rfl (by decide) (Nat.le_of_ble_eq_true rfl) rfl (by simp) rfl (by simp) (by simp)) rfl rfl rfl ?_;refine Z8 ?_;refine eQ O ?_;clear O;refine ⟨1, by omega, by omega, Wk.rn [1, 3, 4] [1, 39] 39 4 rfl rfl rfl ⟨rfl, rfl, rfl, trivial⟩ ⟨rfl, rfl, trivial⟩⟩
 ·obtain rfl : i = 0 := by omega
  refine au c7 fun _ O=>?_;refine Z9 ?_;refine az rfl (bA rfl rfl rfl) rfl ?_;refine Z6 ?_;refine eQ O ?_;clear O;refine aj rfl (fun hc => by cases hc) (fun _ => ?_);refine ax ?_;show AWP _ _ _ _ _ _;refine bD (α := Unit) (fun _ => mk 49 [(4, .val (.one (.own 4 1 0 2)))] [(4, some (.arr 1 [[sB (txL d)], [sB [45]]]))] []) (fun _ => True) ?_ ?_
  ·refine au c7 fun _ O=>?_;refine Z5 ?_;refine Z7 ?_;refine eQ O ?_;clear O;refine aj rfl (fun _ => ?_) (fun hc => by cases hc);refine gj c7 fun _ O=>?_;refine Z9 ?_;refine je rfl rfl rfl rfl ?_;refine aO rfl (jn rfl rfl rfl rfl rfl rfl (by decide) (Nat.le_of_ble_eq_true rfl) rfl (by simp) rfl rfl rfl (by simp)) rfl rfl rfl ?_;refine Z8 ?_;refine eQ O ?_;clear O;exact ⟨(), trivial, Wk.rn [4] [44] 44 4 rfl rfl rfl ⟨rfl, trivial⟩ ⟨rfl, trivial⟩⟩
  rintro - -
  refine d4 fun _ O=>?_;refine ah c7 rfl ?_;refine Z9 ?_;refine am ?_;refine Io (x := ⟨(txL d).toArray⟩) (y := ⟨[45].toArray⟩) Hb rfl rfl rfl ?_;refine aN rfl (O _ ?_); clear O;refine d3 [4] [4] 4 [(4, V1 (.sl [[sB [45]], [sB (txL d)]]))] [] rfl ?_ trivial ?_
  ·exact ⟨bG rfl rfl, trivial⟩
  refine au c7 fun _ O=>?_;refine Z9 ?_;refine ac rfl rfl (cj) rfl rfl rfl rfl ?_;refine Z8 ?_;refine eQ O ?_;clear O;exact al aP

def ztx (z : Int) : List UInt8 := if z < 0 then 45 :: txL z.natAbs else txL z.natAbs
theorem q6 (z : Int) (h : -100 < z /\ z < 100) : Con Tryz.prog 58 [AG (ZC z)] { v := V1 (sB (ztx z)) } := by
 unfold ztx
 split
 ·have e : z = -((z.natAbs : Nat) : Int) := by omega
  have := CT z.natAbs (by omega) (by omega)
  rw [<- e] at this; exact this
 ·have e : z = ((z.natAbs : Nat) : Int) := by omega
  have := Fq z.natAbs (by omega)
  rw [<- e] at this; exact this
def qtx (q : Rat) : List UInt8 := if q.den = 1 then ztx q.num else ztx q.num ++ [47] ++ ztx q.den
theorem yC (z : Int) : (ztx z).length <= 3 := by
 have h : ∀ d, (txL d).length <= 2 := fun d => by unfold txL; split <;> simp <;> omega
 unfold ztx; split
 ·have := h z.natAbs; simp; omega
 ·have := h z.natAbs; omega
theorem Dk {T : Tab} {t : TypeId} (a b : List UInt8) (h : a.length + b.length <= 1000) : aK T .add t (V1 (sB a)) (V1 (sB b)) = .set (V1 (sB (a ++ b))) := by
 have hb : iO .add (.string ⟨a.toArray⟩) (.string ⟨b.toArray⟩) = some (.string ⟨(a ++ b).toArray⟩) := by
  have e1 : (ByteArray.mk a.toArray).size = a.length := by simp [ByteArray.size]
  have e2 : (ByteArray.mk b.toArray).size = b.length := by simp [ByteArray.size]
  simp only [iO];rw [if_pos (by rw [e1, e2]; omega)]
  congr 2
 simp only [aK, dn, hb]; rfl
theorem EH (a : RW) (ok : a.OK 16777216) (hn : -100 < a.v.num /\ a.v.num < 100) (hd : (a.v.den : Int) < 100) : Con Tryz.prog 44 [AG a.cs] { v := V1 (sB (qtx a.v)) } := by
 have c1 := ik a ok
 have h1 := ok.ql rfl
 generalize a.v = x at *
 have c2 := Hj (x.den : Int) (br (bW h1) rfl)
 have c3 := q6 x.num hn
 have c4 := q6 (x.den : Int) (by omega)
 have l1 := yC x.num
 have l2 := yC (x.den : Int)
 refine jK (fn := Tryz.f44) c7 Tryz.func44 (by kernel_rfl) rfl ?_
 intro w0 X
 rw [ap _ _ [(0, AG a.cs)] rfl rfl];refine au c7 fun _ O=>?_;refine aS rfl rfl rfl rfl rfl rfl ?_;refine Z8 ?_;refine eQ O ?_;clear O;refine au c7 fun _ O=>?_;refine Z7 ?_;refine ac rfl rfl (c1) rfl rfl rfl rfl ?_;refine ak rfl rfl rfl rfl rfl ?_;refine eQ O ?_;clear O;refine ab ?_;refine au c7 fun _ O=>?_;refine Z5 ?_;refine Z7 ?_;refine ac rfl rfl (c2) rfl rfl rfl rfl ?_;refine eQ O ?_;clear O;refine aj rfl (fun hc => ?_) (fun hc => ?_)
 ·have hc : x.den = 1 := by have := of_decide_eq_true hc; omega
  refine au c7 fun _ O=>?_;refine Z5 ?_;refine Z7 ?_;refine ac rfl rfl (c3) rfl rfl rfl rfl ?_;refine Z8 ?_;refine eQ O ?_;clear O;exact al (eh (h3 := by unfold qtx; rw [if_pos hc]; rfl))
 ·have hc : ¬ x.den = 1 := by have := of_decide_eq_false hc; omega
  refine ag ?_;show AWP _ _ _ _ _ _;refine aL c7 mixed (A := [[], [], [0], [0, 1], [], [], [0, 1, 4], [0, 1, 2, 4, 5], []]) (an := [{}, {}, {}, {}, { c := [13] }, { c := [13] }, {}, {}, {}]) rfl (by kernel_rfl) rfl fun _ O=>?_;refine Z5 ?_;refine Z7 ?_;refine ac rfl rfl (c3) rfl rfl rfl rfl ?_;refine ai rfl (Dk _ [47] (by simp; omega)) rfl ?_;refine Z5 ?_;refine Z7 ?_;refine ac rfl rfl (c4) rfl rfl rfl rfl ?_;refine ai rfl (Dk _ _ (by simp; omega)) rfl ?_;refine Z8 ?_;refine eQ O ?_;clear O;exact al (eh (h3 := by unfold qtx; rw [if_neg hc]; rfl))
end Go.Proofs.YtceacleokgoooaaGreatDoor

/- adjust: Worst, Graph; awake. No condition. -/
namespace Go.Proofs.YtceacleokgoooaaGreatDoor
attribute [local irreducible] aA
open Go.RowKit

/-! ### Worst -/
theorem vV (x y : Rat) : rW x y <= 0 ↔ x <= y := by
 have z : ∀ x y : Int, l3 x y <= 0 ↔ x <= y := fun x y => by unfold l3; (repeat' split) <;> omega
 unfold rW
 rw [z, Rat.le_iff]
theorem Hf (x y : Rat) : rW x y = 0 ↔ x = y := by
 have a := vV x y
 have b := vV y x
 have e : rW y x = - rW x y := by
  unfold rW l3; (repeat' split) <;> omega
 rw [e] at b
 constructor
 ·intro h
  exact Rat.le_antisymm (a.1 (by omega)) (b.1 (by omega))
 ·intro h
  have h1 := a.2 (by rw [h]; exact Rat.le_refl)
  have h2 := b.2 (by rw [h]; exact Rat.le_refl)
  omega
end Go.Proofs.YtceacleokgoooaaGreatDoor

/- Slices as arguments, with their lengths; bytes. No condition. -/
namespace Go.Proofs.YtceacleokgoooaaGreatDoor
open Go.RowKit

section
variable {P : Program} {T : Tab} {w : World} {t : TypeId} {ti : TI} {H : Type} {enc : TypeId × Value -> H} {sp : Nat -> Bool} {v : Value} {d : DataW H} {ps : List MemPlace} {base : Nat}
end
section
variable {w : World} {H : Type} {enc : TypeId × Value -> H} {sp : Nat -> Bool} {v : Value} {d : DataW H} {ps : List MemPlace} {base : Nat}
end
end Go.Proofs.YtceacleokgoooaaGreatDoor

/- law31: awake; alike; Least. No condition. -/
namespace Go.Proofs.YtceacleokgoooaaGreatDoor
attribute [local irreducible] aA
open Go.RowKit

/-! ### alike -/
/-! ### Least -/
end Go.Proofs.YtceacleokgoooaaGreatDoor

/- law31: Gradient. No condition. -/
namespace Go.Proofs.YtceacleokgoooaaGreatDoor
attribute [local irreducible] aA
open Go.RowKit

end Go.Proofs.YtceacleokgoooaaGreatDoor

/- law31: Order, Merges. No condition. -/
namespace Go.Proofs.YtceacleokgoooaaGreatDoor
attribute [local irreducible] aA
open Go.RowKit

section
variable {T : Tab} {t e : TypeId} {ti ei : TI}
end
end Go.Proofs.YtceacleokgoooaaGreatDoor

/- law31: Merges. No condition. -/
namespace Go.Proofs.YtceacleokgoooaaGreatDoor
attribute [local irreducible] aA
open Go.RowKit

end Go.Proofs.YtceacleokgoooaaGreatDoor

/- solve: dot, Times, Form. law31: Form. No condition. -/
namespace Go.Proofs.YtceacleokgoooaaGreatDoor
attribute [local irreducible] aA
open Go.RowKit

/-! ### dot -/
/-! ### Times and Form -/
end Go.Proofs.YtceacleokgoooaaGreatDoor

/- ref02's quotient; ref27: Valid, Order, none, Identity. No condition. -/
namespace Go.Proofs.YtceacleokgoooaaGreatDoor
attribute [local irreducible] aA

/-! ### Orders -/
def Hv (n : Nat) (l : List Int) : Prop := l.length = n /\ ∀ i (h : i < l.length), 0 <= l[i] /\ l[i] < n /\ l[i] ∉ l.take i
instance (n : Nat) (l : List Int) : Decidable (Hv n l) := by unfold Hv; infer_instance
def l8 (n : Nat) (l : List Int) : Bool := decide (Hv n l)
section
variable {T : Tab} {t e : TypeId} {ti ei : TI}
end

def nmI (n : Nat) (e : Nat -> Nat) : List Int := (List.range n).map fun i => (e i : Int)
theorem y6 (n : Nat) (e : Nat -> Nat) : DC.sl (nmD n e) = dIs (nmI n e) := by
 unfold nmD nmI dIs
 rw [List.map_map]; rfl
end Go.Proofs.YtceacleokgoooaaGreatDoor

/- ref27: Factor. No condition. -/
namespace Go.Proofs.YtceacleokgoooaaGreatDoor
attribute [local irreducible] aA

def AB (B : Nat -> Nat -> Rat) (n : Nat) : List (List RW) × List RW × Int := if l6 B n then (kj B n, kY B n, 0) else ([], [], 10)
end Go.Proofs.YtceacleokgoooaaGreatDoor

/- ref27: Solve. No condition. -/
namespace Go.Proofs.YtceacleokgoooaaGreatDoor
attribute [local irreducible] aA

section
variable (B : Nat -> Nat -> Rat) (b : Nat -> Rat)
end

end Go.Proofs.YtceacleokgoooaaGreatDoor

/- Words of factors, solutions and eliminations of rational matrices with a common denominator. No condition. -/
namespace Go.Proofs.YtceacleokgoooaaGreatDoor

def pwC (c : Rat) (n : Nat) : Rat := pr n fun _ => c
theorem vX (c : Rat) (n : Nat) : pwC c (n + 1) = pwC c n * c := iZ _ _
theorem xK {c : Rat} (h : c ≠ 0) (n : Nat) : pwC c n ≠ 0 := sO fun _ _ => h
theorem uT (c : Rat) : ∀ (n : Nat) (A : Nat -> Nat -> Rat), dt n (fun i j => c * A i j) = pwC c n * dt n A
 | 0, _ => (Rat.mul_one 1).symm
 | n + 1, A => by
  show sm (n + 1) (fun i => sgD i * (c * A i 0) * dt n (fun r k => c * A (sk i r) (k + 1))) = pwC c (n + 1) * sm (n + 1) (fun i => sgD i * A i 0 * dt n (fun r k => A (sk i r) (k + 1)))
  rw [<- ez];refine ar fun i _ => ?_;rw [uT c n (fun r k => A (sk i r) (k + 1)), vX]
  grind

section
variable {B : Nat -> Nat -> Rat} {n m e J : Nat} {c : Rat}
theorem w8 {b : Nat -> Rat} {n j : Nat} : dt n (fun r k => if k = j then c * b r else c * B r k) = pwC c n * dt n (fun r k => if k = j then b r else B r k) := by
 rw [<- uT]
 exact aJ fun i k _ _ => by
  by_cases h : k = j
  ·rw [if_pos h, if_pos h]
  ·rw [if_neg h, if_neg h]
theorem u9 (hB : ∀ i j, i < n -> j < n -> IB m (c * B i j)) (hn : n <= 16) {i : Nat} (hi : i <= n) : IB (n * (m + 4)) (pwC c i * dt i B) := by
 rw [<- uT]
 have a := jN (m := m) (n := i) (A := fun a b => c * B a b) (by omega) (fun a b ha hb => hB a b (by omega) (by omega))
 exact a.mono (Nat.mul_le_mul_right _ (by omega))
theorem zK (hB : ∀ i j, i < n -> j < n -> IB m (c * B i j)) {b : Nat -> Rat} (hb : ∀ i, i < n -> IB m (c * b i)) (hn : n <= 16) {i j : Nat} (hi : i <= n) : IB (n * (m + 4)) (pwC c i * dt i (fun r k => if k = j then b r else B r k)) := by
 rw [<- w8]
 have a := jN (m := m) (n := i) (A := fun r k => if k = j then c * b r else c * B r k) (by omega) (fun x y hx hy => by
  show IB m (if y = j then c * b x else c * B x y)
  split
  ·exact hb _ (by omega)
  ·exact hB _ _ (by omega) (by omega))
 exact a.mono (Nat.mul_le_mul_right _ (by omega))
theorem Ij (h0 : c ≠ 0) (hc : IB e c) (hs : ∀ i j, i < n -> j < n -> B i j = B j i) (hB : ∀ i j, i < n -> j < n -> IB m (c * B i j)) (hn : n <= 16) (hJ : n * (m + 4) + e < 32 * J) {i : Nat} (hi : i < n) (hd : ∀ k, k < i -> DD B k ≠ 0) : ql (DD B i) <= J := by
 obtain ⟨h1, h2⟩ := zQ hs hi hd
 have a1 := (u9 hB hn (i := i) (by omega)).mul hc
 have a2 := u9 hB hn (i := i + 1) (by omega)
 have hp := xK h0 i
 refine iF (a2.mono (Nat.le_add_right _ e)) a1 (fun z => ?_) ?_ hJ
 ·rcases Rat.mul_eq_zero.1 z with z | z
  ·rcases Rat.mul_eq_zero.1 z with z | z
   ·exact hp z
   ·exact h2 z
  ·exact h0 z
 ·rw [vX, <- h1]; grind
theorem DO (h0 : c ≠ 0) (hs : ∀ i j, i < n -> j < n -> B i j = B j i) (hB : ∀ i j, i < n -> j < n -> IB m (c * B i j)) (hn : n <= 16) (hJ : n * (m + 4) + e < 32 * J) {i j : Nat} (hi : i < n) (hj : j < i) (hd : ∀ k, k <= j -> DD B k ≠ 0) : ql (LL B i j) <= J := by
 have h1 := Gy hs hi hj hd
 have h2 := (zQ hs (i := j + 1) (by omega) (fun k hk => hd k (by omega))).2
 have a1 := u9 hB hn (i := j + 1) (by omega)
 have a2 := zK (j := j) hB (b := fun r => B i r) (fun r hr => hB _ _ hi hr) hn (i := j + 1) (by omega)
 have hp := xK h0 (j + 1)
 refine iF a2 a1 (fun z => ?_) ?_ (show n * (m + 4) < 32 * J by omega)
 ·rcases Rat.mul_eq_zero.1 z with z | z
  ·exact hp z
  ·exact h2 z
 ·rw [<- h1]; grind
theorem Et (h0 : c ≠ 0) (hs : ∀ i j, i < n -> j < n -> B i j = B j i) (hB : ∀ i j, i < n -> j < n -> IB m (c * B i j)) {b : Nat -> Rat} (hb : ∀ i, i < n -> IB m (c * b i)) (hn : n <= 16) (hJ : n * (m + 4) + e < 32 * J) (hd : ∀ k, k < n -> DD B k ≠ 0) {i : Nat} (hi : i < n) : ql (slv B b n i) <= J := by
 have h1 := uW (A := B) (x := slv B b n) (b := b) hi (fun r hr => qt hs hd hr)
 have h2 : dt n B ≠ 0 := by
  rw [mI hs (fun k hk => hd k (by omega))]; exact sO hd
 have a1 := u9 hB hn (i := n) (Nat.le_refl _)
 have a2 := zK (j := i) hB hb hn (i := n) (Nat.le_refl _)
 have hp := xK h0 n
 refine iF a2 a1 (fun z => ?_) ?_ (show n * (m + 4) < 32 * J by omega)
 ·rcases Rat.mul_eq_zero.1 z with z | z
  ·exact hp z
  ·exact h2 z
 ·rw [<- h1]; grind
end
theorem Gi {x : Nat} (h : wl x <= 2) : x <= 2 ^ 64 := by
 have h1 := qQ x
 have h2 : 4294967296 ^ wl x <= 4294967296 ^ 2 := Nat.pow_le_pow_right (by decide) h
 have e : (4294967296 : Nat) ^ 2 = 2 ^ 64 := by decide
 omega
theorem Jj : ∀ l : List Rat, (∀ q ∈ l, ql q <= 2) -> ∃ c : Rat, c ≠ 0 /\ IB (64 * l.length) c /\ ∀ q ∈ l, IB (64 * l.length + 64) (c * q)
 | [], _ => ⟨1, by decide, rT, fun _ h => nomatch h⟩
 | q :: l, h => by
  obtain ⟨c, h0, h1, h2⟩ := Jj l fun x hx => h x (List.mem_cons_of_mem _ hx)
  have hq := h q (List.mem_cons_self ..)
  have b1 : IB 64 (q.den : Rat) := ⟨q.den, by rw [Rat.intCast_natCast], Gi (Nat.le_trans (Nat.le_max_right _ _) hq)⟩
  have b2 : IB 64 (q.num : Rat) := ⟨q.num, rfl, Gi (Nat.le_trans (gz q) hq)⟩
  have d0 : (q.den : Rat) ≠ 0 := fun y => q.den_nz (Rat.natCast_eq_zero_iff.1 y)
  have e : (q.den : Rat) * q = (q.num : Rat) := by
   have h1 := Rat.num_divInt_den q
   rw [Rat.divInt_eq_div, Rat.intCast_natCast] at h1;rw [<- h1]; grind
  refine ⟨c * q.den, fun y => ?_, (h1.mul b1).mono (by simp only [List.length_cons]; omega), fun x hx => ?_⟩
  ·rcases Rat.mul_eq_zero.1 y with y | y
   ·exact h0 y
   ·exact d0 y
  ·rcases List.mem_cons.1 hx with rfl | hx
   ·rw [Rat.mul_assoc, e];exact (h1.mul b2).mono (by simp only [List.length_cons]; omega)
   ·rw [show c * (q.den : Rat) * x = c * x * q.den by grind];exact ((h2 x hx).mul b1).mono (by simp only [List.length_cons]; omega)
end Go.Proofs.YtceacleokgoooaaGreatDoor

/- Matrices and lists of small integers as arguments, with their lengths. No condition. -/
namespace Go.Proofs.YtceacleokgoooaaGreatDoor
open Go.RowKit

section
variable {P : Program} {T : Tab} {w : World} {t e : TypeId} {ti ei : TI}
theorem tZ {Q : List DC -> Prop} (h : P.underlying t = some (.slice e)) (hz : 0 < P.cellsOf e) (he : Reads P w e Q) :
  Reads P w t (fun ds => ∃ es : List (List DC), ds = [.sl es] /\ (∀ x ∈ es, Q x) /\ es.length <= 9223372036854775807) := by
 intro H enc sp fuel cs x hr
 obtain ⟨ds, ⟨es, rfl, hq⟩, hl, hc⟩ := o3 h hz he H enc sp fuel cs x hr
 refine ⟨_, ⟨es, rfl, hq, ?_⟩, hl, hc⟩
 obtain ⟨v, hv, hrd⟩ := hc 0 _ rfl
 cases fuel with
 | zero => cases hr
 | succ fuel =>
  unfold DataW.trod at hr
  rw [h] at hr
  match cs, hr with
  | [.slice none 0 0], _ =>
   cases hv
   cases hrd
   exact Nat.zero_le _
  | [.slice (some a) len cap], hr =>
   simp only at hr
   split at hr
   ·rename_i hc'
    have hm : maxLen = 9223372036854775807 := by decide
    rw [hm] at hc'
    cases hv
    cases hrd with
    | nil => exact Nat.zero_le _
    | sl vs hh hx hlen hcap hs hv' hr' => omega
   ·cases hr
theorem sL {α : Type} (f : α -> List DC) (Q : α -> Prop) (hT : TOK P T) (h : T t = some ti) (hu : ti.und = .slice e) (h' : T e = some ei) (hs : Nat.ble 1 ei.size = true) (he : Reads P w e (fun ds => ∃ x, Q x /\ ds = f x)) :
  Reads P w t (fun ds => ∃ l : List α, ((∀ x ∈ l, Q x) /\ l.length <= 9223372036854775807) /\ ds = [.sl (l.map f)]) := by
 refine (tZ (sn hT h hu) (by rw [mX (hT.ty e ei h')]; exact Nat.le_of_ble_eq_true hs) he).mono fun ds ⟨es, h1, h2, h3⟩ => ?_
 subst h1
 have : ∀ es : List (List DC), (∀ x ∈ es, ∃ y, Q y /\ x = f y) -> ∃ l : List α, (∀ x ∈ l, Q x) /\ es = l.map f := by
  intro es
  induction es with
  | nil => intro _; exact ⟨[], (fun _ hx => by cases hx), rfl⟩
  | cons e es ih =>
   intro h
   obtain ⟨y, hy, rfl⟩ := h e (List.mem_cons_self ..)
   obtain ⟨l, hl, rfl⟩ := ih fun x hx => h x (List.mem_cons_of_mem _ hx)
   refine ⟨y :: l, fun x hx => ?_, rfl⟩
   rcases List.mem_cons.1 hx with hx | hx
   ·subst hx; exact hy
   ·exact hl x hx
 obtain ⟨l, hl, rfl⟩ := this es h2
 exact ⟨l, ⟨hl, by rwa [List.length_map] at h3⟩, rfl⟩
end
def I8 (n : Int) : Prop := -128 <= n /\ n <= 127
def L8 (l : List Int) : Prop := (∀ x ∈ l, I8 x) /\ l.length <= 9223372036854775807
section
variable {w : World} {H : Type} {enc : TypeId × Value -> H} {sp : Nat -> Bool} {v : Value} {d : DataW H} {ps : List MemPlace} {base : Nat}
end
end Go.Proofs.YtceacleokgoooaaGreatDoor
