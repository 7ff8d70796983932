/- Part of a proof that a Go function answers true for every input. No condition. -/
import Derived.Test.YtomlkgcfagnngaaGreatDoorC3
import Derived.OpenShut
import Derived.LaidMore
import Derived.MakeChecks
import Derived.LaidSub
set_option linter.unusedVariables false
set_option linter.unusedSimpArgs false
set_option linter.unusedSectionVars false
/- The factors of a matrix. No condition. -/
namespace Go.Proofs.YtomlkgcfagnngaaGreatDoor
attribute [local irreducible] au

theorem p7 {b : Rat} {f : Nat -> Rat} {M K : Nat} (hb : ql b <= K) : ∀ k, (∀ t, t < k -> ql (f t) <= M) -> ql (b - sm k f) <= K + k * (M + 1)
 | 0, _ => by
  have : b - sm 0 f = b := by simp only [sm]; grind
  rw [this]; omega
 | k + 1, h => by
  have ih := p7 hb k fun t ht => h t (by omega)
  have e : b - sm (k + 1) f = (b - sm k f) - f k := by rw [bz]; grind
  rw [e, Nat.succ_mul];exact Nat.le_trans (tH ih (h k (by omega))) (by omega)
theorem lH (b : Rat) (f : Nat -> Rat) (k : Nat) {x : Rat} (h : f k = x) : (b - sm k f) - x = b - sm (k + 1) f := by rw [bz, h]; grind
theorem oV (b : Rat) (f : Nat -> Rat) : b - sm 0 f = b := by simp only [sm]; grind
section
variable {T : Tab} {t : TypeId} {ti : TI}
theorem o8 {S : bF} {id i n : Nat} {G : Nat -> RW} {x : RW} (h1 : T t = some ti) (h4 : ti.size = 4) (h5 : ti.agg = true) (hS : S id = some (.arr 4 (a8 n G))) (hi : i < n) (he : G i = x) :
  aW T ⟨[], S, []⟩ t (.pe id 4 i 0) = .set (AG x.cs) := he ▸ l_q h1 h4 h5 hS hi
end
def dY (F : Nat -> Nat -> RW) (e : Nat -> Nat) (i j : Nat) : Rat := (F (e i) (e j)).v
def iP (B : Nat -> Nat -> Rat) (n : Nat) : Bool := decide (∀ k, k < n -> 0 < DD B k)
def ij (B : Nat -> Nat -> Rat) (n : Nat) : List (List RW) := bH n n fun r c => qzW (LL B r c)
def mV (B : Nat -> Nat -> Rat) (n : Nat) : List RW := cv n fun r => qzW (DD B r)
def ii (B : Nat -> Nat -> Rat) (n : Nat) : List (List RW) × List RW × Bool := if iP B n then (ij B n, mV B n, true) else ([], [], false)
def qG (B : Nat -> Nat -> Rat) (n : Nat) : Prop := ∀ i, i < n -> (∀ k, k < i -> 0 < DD B k) -> ql (DD B i) <= 65536 /\ ∀ j, j < i -> ql (LL B i j) <= 65536
def zG (s t : Nat) : RW := if t < s then qzW 0 else gP
def rG (B : Nat -> Nat -> Rat) (i j t : Nat) : RW := if t < j then qzW (LL B i t) else if t = i then qzW 1 else qzW 0
theorem xy (n : Nat) : List.replicate n gP.dc = a8 n (zG 0) := by rw [nP]; exact aX fun i _ => by simp [zG]
theorem xx (n s : Nat) : a8 n (gN (zG s) s (qzW 0)) = a8 n (zG (s + 1)) := aX fun i _ => by
 simp only [gN, zG]
 by_cases h : i = s
 ·rw [if_pos h, if_pos (by omega)]
 ·rw [if_neg h]
  by_cases h2 : i < s
  ·rw [if_pos h2, if_pos (by omega)]
  ·rw [if_neg h2, if_neg (by omega)]
theorem xB (B : Nat -> Nat -> Rat) (n i : Nat) : a8 n (gN (zG n) i (qzW 1)) = a8 n (rG B i 0) := aX fun t ht => by
 simp only [gN, zG, rG];rw [if_neg (show ¬ t < 0 by omega), if_pos ht]
theorem xz (B : Nat -> Nat -> Rat) (n i j : Nat) : a8 n (gN (rG B i j) j (qzW (LL B i j))) = a8 n (rG B i (j + 1)) := aX fun t _ => by
 simp only [gN, rG]
 by_cases h : t = j
 ·rw [if_pos h, if_pos (by omega), h]
 ·rw [if_neg h]
  by_cases h2 : t < j
  ·rw [if_pos h2, if_pos (by omega)]
  ·rw [if_neg h2, if_neg (show ¬ t < j + 1 by omega)]
theorem xA (B : Nat -> Nat -> Rat) (n i : Nat) : a8 n (rG B i i) = a8 n (fun c => qzW (LL B i c)) := aX fun t _ => by
 simp only [rG]
 by_cases h : t < i
 ·rw [if_pos h]
 ·rw [if_neg h]
  by_cases h2 : t = i
  ·rw [if_pos h2, h2, cG]
  ·rw [if_neg h2, ir B (by omega)]
theorem vQ {n m j : Nat} {F : Nat -> Nat -> RW} (h : j < n) : ((bH n m F).map cM)[j]? = some (cM (cv m (F j))) := by simp [bH, h]
theorem jE (n m : Nat) (F : Nat -> Nat -> RW) : ((bH n m F).map cM).length = n := by simp [bH]

set_option maxHeartbeats 1000000 in
theorem kc (n : Nat) (F : Nat -> Nat -> RW) (e : Nat -> Nat) (hn : n <= 16) (he : ∀ i, i < n -> e i < n) (ok : ∀ i j, i < n -> j < n -> (F i j).OK 65536) (hS : qG (dY F e) n) :
  Con Tryz.prog 31 [V1 (dMs (bH n n F)), V1 (.sl (nmD n e))] { v := .tup [.one (.d (dMs (ii (dY F e) n).1)), .one (.d (dRs (ii (dY F e) n).2.1)), .one (.d (.lit (.bool (ii (dY F e) n).2.2)))] } := by
 obtain ⟨B, hB⟩ : ∃ B, B = dY F e := ⟨_, rfl⟩
 rw [<- hB] at hS ⊢
 have hBv : ∀ i j, B i j = (F (e i) (e j)).v := fun i j => by rw [hB]; rfl
 clear hB;refine Z3 Tryz.func31 ?_
 intro w0 X
 rw [ak _ _ [(0, V1 (dMs (bH n n F))), (1, V1 (.sl (nmD n e)))] rfl rfl];refine gQ fun _ Z=>?_;refine Z8 ?_;refine Z8 ?_;refine Z8 ?_;refine eQ Z ?_;clear Z;refine gQ fun _ Z=>?_;refine Z8 ?_;refine eQ Z ?_;clear Z;refine gQ fun _ Z=>?_;refine Z8 ?_;refine eQ Z ?_;clear Z;refine ab ?_;refine gQ fun _ Z=>?_;refine Z9 ?_;refine az rfl (qo rfl rfl) rfl ?_;refine Z9 ?_;refine eQ Z ?_;clear Z;refine ac (aG (α := Nat) (fun i => mk 121 [(0, V1 (dMs (bH n n F))), (1, V1 (.sl (nmD n e))), (7, cr 200 1 i), (8, cr 201 4 i), (17, V1 (.sl (nmD n e))), (18, dI n), (19, dI i)] [(200, cx 1 ((bH i n fun r c => qzW (LL B r c)).map cM) i), (201, cx 4 (a8 i fun r => qzW (DD B r)) i)] []) (fun i => i <= n /\ ∀ k, k < i -> 0 < DD B k) (fun i => n - i) 0 ?_ ⟨Nat.zero_le _, fun _ h => by omega⟩ ?_)
 ·exact Wk.mk' ⟨rfl, rfl, rfl, rfl, rfl, rfl, rfl, trivial⟩ ⟨rfl, rfl, trivial⟩
 rintro i ⟨hi, hI⟩
 refine gQ fun _ Z=>?_;refine Z6 ?_;refine eQ Z ?_;clear Z;refine ab ?_;refine ai rfl (fun hg => ?_) (fun hg => ?_)
 ·have hg : i < n := by simp at hg; omega
  have ei := he i hg
  obtain ⟨qD, qL⟩ := hS i hg hI
  have n1 := tT i n (fun r c => qzW (LL B r c))
  have n2 := tC i (fun r => qzW (DD B r))
  have z1 := jE i n (fun r c => qzW (LL B r c))
  have z2 := cL i (fun r => qzW (DD B r))
  have g1 : ∀ j, j < i -> ((bH i n fun r c => qzW (LL B r c)).map cM)[j]? = some (cM (cv n fun c => qzW (LL B j c))) := fun j hj => vQ hj
  generalize (bH i n fun r c => qzW (LL B r c)).map cM = es at n1 z1 g1 ⊢;refine ag ?_;show AWP _ _ _ _ _ _;refine ab ?_;refine ac ?_;refine gQ fun _ Z=>?_;refine Z9 ?_;refine aa rfl (x_n rfl rfl rfl rfl rfl hg) rfl ?_;refine Z7 ?_;refine Z8 ?_;refine Z8 ?_;refine eQ Z ?_;clear Z;refine gQ fun _ Z=>?_;refine Z9 ?_;refine az rfl (qo rfl rfl) rfl ?_;refine bn (sz := _) (es := _) (f := _) (v := _) rfl (vP (l := n) rfl rfl rfl rfl rfl (Nat.le_of_ble_eq_true rfl) (by decide) rfl rfl (by omega)) (by rcases i with _|i <;> rfl) rfl ?_;refine Z8 ?_;refine eQ Z ?_;clear Z;refine ab ?_;refine gQ fun _ Z=>?_;refine Z9 ?_;refine az rfl rfl rfl ?_;refine Z9 ?_;refine eQ Z ?_;clear Z;refine ac (aG (α := Nat) (fun s => mk 121 [(0, V1 (dMs (bH n n F))), (1, V1 (.sl (nmD n e))), (7, cr 200 1 i), (8, cr 201 4 i), (9, dI i), (10, dI (e i)), (11, .val (.one (.own 26 4 0 n))), (17, V1 (.sl (nmD n e))), (18, dI n), (19, dI i), (28, dI n), (29, dI s)] [(26, some (.arr 4 (a8 n (zG s)))), (200, cx 1 es i), (201, cx 4 (a8 i fun r => qzW (DD B r)) i)] []) (fun s => s <= n) (fun s => n - s) 0 ?_ (Nat.zero_le _) ?_)
  ·exact Wk.mk' ⟨rfl, rfl, rfl, rfl, rfl, rfl, rfl, rfl, rfl, rfl, rfl, rfl, trivial⟩ ⟨congrArg (fun x => some (OO.arr 4 x)) (xy n), rfl, rfl, trivial⟩
  intro s hs
  refine gQ fun _ Z=>?_;refine Z6 ?_;refine eQ Z ?_;clear Z;refine ab ?_;refine ai rfl (fun hf => ?_) (fun hf => ?_)
  ·have hf : s < n := by simp at hf; omega
   refine ag ?_;show AWP _ _ _ _ _ _;refine ab ?_;refine ac ?_;refine gQ fun _ Z=>?_;refine Z9 ?_;refine Z8 ?_;refine eQ Z ?_;clear Z;refine gR fun _ Z=>?_;refine Z9 ?_;refine Z9 ?_;refine ae rfl rfl (xv) rfl rfl rfl rfl ?_;refine aa rfl (x_o (i := s) (j := s) rfl rfl rfl rfl rfl hf (Nat.zero_add _)) rfl ?_;refine am rfl (ra (qzW 0) rfl rfl rfl hf) rfl rfl rfl ?_;refine eQ Z ?_;clear Z;rw [xx];show AWP _ _ _ _ _ _;refine gR fun _ Z=>?_;refine ah rfl (aC (c := ((s + 1 : Nat) : Int)) (by omega) (by omega)) rfl ?_;refine Z9 ?_;refine eQ Z ?_;clear Z;exact ⟨s + 1, by omega, hf, Wk.mk' ⟨rfl, rfl, rfl, rfl, rfl, rfl, rfl, rfl, rfl, rfl, rfl, rfl, trivial⟩ ⟨rfl, rfl, rfl, trivial⟩⟩
  have hf : s = n := by simp at hf; omega
  subst hf
  refine aw ?_;show AWP _ _ _ _ _ _;refine gQ fun _ Z=>?_;refine Z9 ?_;refine Z9 ?_;refine ae rfl rfl (zb) rfl rfl rfl rfl ?_;refine aa rfl (x_o (i := i) (j := i) rfl rfl rfl rfl rfl hg (Nat.zero_add _)) rfl ?_;refine am rfl (ra (qzW 1) rfl rfl rfl hg) rfl rfl rfl ?_;refine eQ Z ?_;clear Z;rw [xB B]
  have cN1 := gy (F (e i) (e i)) ((ok _ _ ei ei).mono rfl)
  rw [<- hBv] at cN1;refine gQ fun _ Z=>?_;refine Z9 ?_;refine Z9 ?_;refine aa rfl (pC rfl rfl rfl rfl rfl ei) rfl ?_;refine Z7 ?_;refine Z9 ?_;refine aa rfl (x_v rfl rfl rfl rfl rfl ei) rfl ?_;refine Z7 ?_;refine ae rfl rfl (cN1) rfl rfl rfl rfl ?_;refine aI rfl rfl rfl rfl rfl (by rcases i with _|i <;> rfl) ?_;refine am rfl rfl rfl rfl rfl ?_;refine eQ Z ?_;clear Z;refine ab ?_;refine gQ fun _ Z=>?_;refine Z9 ?_;refine Z9 ?_;refine eQ Z ?_;clear Z;refine ac (aG (α := Nat) (fun j => mk 121 [(0, V1 (dMs (bH s s F))), (1, V1 (.sl (nmD s e))), (7, cr 200 1 i), (8, cr 201 4 i), (10, dI (e i)), (11, .val (.one (.own 26 4 0 s))), (13, .ptr 13 0), (17, V1 (.sl (nmD s e))), (18, dI s), (19, dI i), (49, dI i), (50, dI j)] [(13, some (.box (qzW (B i i - sm j fun t => LL B i t * LL B i t * DD B t)).cs)), (26, some (.arr 4 (a8 s (rG B i j)))), (200, cx 1 es i), (201, cx 4 (a8 i fun r => qzW (DD B r)) i)] []) (fun j => j <= i) (fun j => i - j) 0 ?_ (Nat.zero_le _) ?_)
  ·refine Wk.mk' ⟨rfl, rfl, rfl, rfl, rfl, rfl, rfl, rfl, rfl, rfl, rfl, rfl, trivial⟩ ⟨?_, rfl, rfl, rfl, trivial⟩;rw [oV]; rfl
  intro j hj
  have tr : ∀ t, t < i -> ql (LL B i t * LL B i t * DD B t) <= 196608 := fun t ht =>
   Nat.le_trans (b7 (b7 (qL t ht) (qL t ht)) (hS t (by omega) fun k hk => hI k (by omega)).1) (by decide)
  have qb : ∀ a b, a < s -> b < s -> ql (B a b) <= 65536 := fun a b ha hb => by rw [hBv]; exact (ok _ _ (he a ha) (he b hb)).ql rfl
  refine gQ fun _ Z=>?_;refine Z6 ?_;refine eQ Z ?_;clear Z;refine ab ?_;refine ai rfl (fun hf => ?_) (fun hf => ?_)
  ·have hf : j < i := by simp at hf; omega
   obtain ⟨i0, hi0⟩ : ∃ i0, i = i0 + 1 := ⟨i - 1, by omega⟩
   have hjs : j < s := by omega
   have ej := he j hjs
   have dj := hI j hf
   obtain ⟨qDj, qLj⟩ := hS j hjs fun k hk => hI k (by omega)
   have cN2 := gy (F (e i) (e j)) ((ok _ _ ei ej).mono rfl)
   rw [<- hBv] at cN2
   have tx : ∀ t, t < j -> ql (LL B i t * LL B j t * DD B t) <= 196608 := fun t ht =>
    Nat.le_trans (b7 (b7 (qL t (by omega)) (qLj t ht)) (hS t (by omega) fun k hk => hI k (by omega)).1) (by decide)
   have hbx : ∀ k, k <= j -> ql (B i j - sm k fun t => LL B i t * LL B j t * DD B t) <= 4194304 := fun k hk =>
    Nat.le_trans (p7 (qb i j hg hjs) k fun t ht => tx t (by omega)) (by
     have := Nat.mul_le_mul_right (196608 + 1) (show k <= 16 by omega)
     omega)
   have hbr : ql (B i i - sm j fun t => LL B i t * LL B i t * DD B t) <= 4194304 :=
    Nat.le_trans (p7 (qb i i hg hg) j fun t ht => tr t (by omega)) (by
     have := Nat.mul_le_mul_right (196608 + 1) (show j <= 16 by omega)
     omega)
   have hlx : (B i j - sm j fun t => LL B i t * LL B j t * DD B t) = LL B i j * DD B j := (qW B hf (by grind)).symm
   have hr0 := lH (B i i) (fun t => LL B i t * LL B i t * DD B t) j (x := LL B i j * DD B j * LL B i j) (by grind)
   refine ag ?_;show AWP _ _ _ _ _ _;refine ab ?_;refine ac ?_
   subst hi0
   refine gQ fun _ Z=>?_;refine Z9 ?_;refine Z8 ?_;refine eQ Z ?_;clear Z;refine aQ tok mixed (A := [[], [], [], [0, 1], [], [], [], [4, 5], [0, 1, 2, 4, 5, 6], [0, 1, 2, 3, 4, 5, 6, 7], [0, 1, 2, 3, 4, 5, 6, 7, 8], [], []]) (an := [{}, {}, {}, {}, {}, {}, {}, {}, {}, {}, {}, { c := [63] }, {}]) rfl (by kernel_rfl) rfl fun _ Z=>?_;refine Z9 ?_;refine Z9 ?_;refine aa rfl (pC rfl rfl rfl rfl rfl ei) rfl ?_;refine Z7 ?_;refine Z9 ?_;refine Z9 ?_;refine aa rfl (x_n rfl rfl rfl rfl rfl hjs) rfl ?_;refine Z7 ?_;refine aa rfl (x_v rfl rfl rfl rfl rfl ej) rfl ?_;refine Z7 ?_;refine ae rfl rfl (cN2) rfl rfl rfl rfl ?_;refine aI rfl rfl rfl rfl rfl rfl ?_;refine am rfl rfl rfl rfl rfl ?_;refine eQ Z ?_;clear Z;refine ab ?_;refine gQ fun _ Z=>?_;refine Z9 ?_;refine Z9 ?_;refine eQ Z ?_;clear Z;refine ac (aG (α := Nat) (fun k => mk 121 [(0, V1 (dMs (bH s s F))), (1, V1 (.sl (nmD s e))), (7, cr 200 1 (i0 + 1)), (8, cr 201 4 (i0 + 1)), (10, dI (e (i0 + 1))), (11, .val (.one (.own 26 4 0 s))), (13, .ptr 13 0), (14, dI j), (15, .ptr 15 0), (17, V1 (.sl (nmD s e))), (18, dI s), (19, dI (i0 + 1 : Nat)), (49, dI (i0 + 1 : Nat)), (50, dI j), (64, dI j), (65, dI k)] [(13, some (.box (qzW (B (i0 + 1) (i0 + 1) - sm j fun t => LL B (i0 + 1) t * LL B (i0 + 1) t * DD B t)).cs)), (15, some (.box (qzW (B (i0 + 1) j - sm k fun t => LL B (i0 + 1) t * LL B j t * DD B t)).cs)), (26, some (.arr 4 (a8 s (rG B (i0 + 1) j)))), (200, cx 1 es (i0 + 1)), (201, cx 4 (a8 (i0 + 1) fun r => qzW (DD B r)) (i0 + 1))] []) (fun k => k <= j) (fun k => j - k) 0 ?_ (Nat.zero_le _) ?_)
   ·refine Wk.mk' ⟨rfl, rfl, rfl, rfl, rfl, rfl, rfl, rfl, rfl, rfl, rfl, rfl, rfl, rfl, rfl, rfl, trivial⟩ ⟨rfl, ?_, rfl, rfl, rfl, trivial⟩;rw [oV]; rfl
   intro k hk
   refine gQ fun _ Z=>?_;refine Z6 ?_;refine eQ Z ?_;clear Z;refine ab ?_;refine ai rfl (fun hc => ?_) (fun hc => ?_)
   ·have hc : k < j := by simp at hc; omega
    have qk := (hS k (by omega) fun k' hk' => hI k' (by omega)).1
    have cm := rp (qzW (LL B (i0 + 1) k)) (qzW (LL B j k)) (LL B (i0 + 1) k * LL B j k) ((bg (qL k (by omega))).mono rfl) ((bg (qLj k hc)).mono rfl) (by rw [bp, bp])
    have cl := lF (qzW (B (i0 + 1) j - sm k fun t => LL B (i0 + 1) t * LL B j t * DD B t)) (qzW (LL B (i0 + 1) k * LL B j k)) (qzW (DD B k)) (B (i0 + 1) j - sm (k + 1) fun t => LL B (i0 + 1) t * LL B j t * DD B t) ((bg (hbx k (by omega))).mono rfl) ((bg (b7 (qL k (by omega)) (qLj k hc))).mono rfl) ((bg qk).mono rfl) (by rw [bp, bp, bp]; exact lH _ _ _ rfl)
    refine ag ?_;show AWP _ _ _ _ _ _;refine ab ?_;refine ac ?_;refine gQ fun _ Z=>?_;refine Z9 ?_;refine Z8 ?_;refine eQ Z ?_;clear Z;refine ck tok mixed (A := [[], [], [], [], [1, 2], [], [], [], [5, 6], [], [5, 6, 7], [5, 6, 7, 8, 9], [1, 2, 3, 5, 6, 7, 8, 9, 10], [], [], [], [13, 14], [1, 2, 3, 4, 5, 6, 7, 8, 9, 10, 11, 13, 14, 15], []]) (an := [{}, {}, {}, {}, {}, {}, {}, {}, {}, {}, {}, {}, {}, { c := [80] }, { c := [80] }, { c := [80] }, { c := [80] }, {}, {}]) rfl (by kernel_rfl) rfl fun _ Z=>?_;refine Z7 ?_;refine Z9 ?_;refine Z9 ?_;refine aa rfl (x_o (i := k) (j := k) rfl rfl rfl rfl rfl (show k < s by omega) (Nat.zero_add _)) rfl ?_;refine aR rfl (o8 rfl rfl rfl rfl (show k < s by omega) (if_pos hc)) rfl ?_;refine Z9 ?_;refine Z9 ?_;refine aa rfl (x_o (i := j) (j := j) rfl rfl rfl rfl rfl hf (Nat.zero_add _)) rfl ?_;refine aR rfl (l_o rfl rfl (g1 j hf) rfl rfl) rfl ?_;refine Z9 ?_;refine aa rfl (x_v rfl rfl rfl rfl rfl (show k < s by omega)) rfl ?_;refine Z7 ?_;refine ae rfl rfl (cm) rfl rfl rfl rfl ?_;refine Z9 ?_;refine Z9 ?_;refine aa rfl (x_o (i := k) (j := k) rfl rfl rfl rfl rfl (show k < i0 + 1 by omega) (Nat.zero_add _)) rfl ?_;refine aR rfl (o8 rfl rfl rfl rfl (show k < i0 + 1 by omega) rfl) rfl ?_;refine ae rfl rfl (cl) rfl rfl rfl rfl ?_;refine am rfl rfl rfl rfl rfl ?_;refine eQ Z ?_;clear Z;show AWP _ _ _ _ _ _;refine gR fun _ Z=>?_;refine ah rfl (aC (c := ((k + 1 : Nat) : Int)) (by omega) (by omega)) rfl ?_;refine Z9 ?_;refine eQ Z ?_;clear Z;exact ⟨k + 1, by omega, hc, Wk.mk' ⟨rfl, rfl, rfl, rfl, rfl, rfl, rfl, rfl, rfl, rfl, rfl, rfl, rfl, rfl, rfl, rfl, trivial⟩ ⟨rfl, rfl, rfl, rfl, rfl, trivial⟩⟩
   have hc : k = j := by simp at hc; omega
   subst hc
   refine aw ?_;show AWP _ _ _ _ _ _;rw [hlx]
   have ox := b7 (qL k hf) qDj
   have cd := vt (qzW (LL B (i0 + 1) k * DD B k)) (qzW (DD B k)) (LL B (i0 + 1) k) ((bg ox).mono rfl) ((bg qDj).mono rfl) (by rw [bp]; grind) (by rw [bp, bp]; grind)
   have cl := lF (qzW (B (i0 + 1) (i0 + 1) - sm k fun t => LL B (i0 + 1) t * LL B (i0 + 1) t * DD B t)) (qzW (LL B (i0 + 1) k * DD B k)) (qzW (LL B (i0 + 1) k)) (B (i0 + 1) (i0 + 1) - sm (k + 1) fun t => LL B (i0 + 1) t * LL B (i0 + 1) t * DD B t) ((bg hbr).mono rfl) ((bg ox).mono rfl) ((bg (qL k hf)).mono rfl) (by rw [bp, bp, bp]; exact hr0)
   refine aQ tok mixed (A := [[], [], [], [], [], [], [3, 4], [3, 4, 5], [2, 3, 4, 5, 6], [2, 3, 4, 5, 6, 7], [2, 3, 4, 5, 6, 7], [], []]) (an := [{}, {}, {}, {}, {}, {}, {}, {}, {}, {}, {}, {}, {}]) rfl (by kernel_rfl) rfl fun _ Z=>?_;refine Z9 ?_;refine Z9 ?_;refine Z7 ?_;refine Z9 ?_;refine Z9 ?_;refine aa rfl (x_o (i := k) (j := k) rfl rfl rfl rfl rfl hf (Nat.zero_add _)) rfl ?_;refine aR rfl (o8 rfl rfl rfl rfl hf rfl) rfl ?_;refine ae rfl rfl (cd) rfl rfl rfl rfl ?_;refine Z9 ?_;refine aq rfl rfl rfl ?_;refine aq rfl rfl rfl ?_;refine aa rfl (x_o (i := k) (j := k) rfl rfl rfl rfl rfl hjs (Nat.zero_add _)) rfl ?_;refine am rfl (ra (qzW (LL B (i0 + 1) k)) rfl rfl rfl hjs) rfl rfl rfl ?_;refine eQ Z ?_;clear Z;rw [xz];refine ck tok mixed (A := [[], [], [], [], [], [2, 3], [2, 3, 4], []]) (an := [{}, {}, {}, {}, {}, {}, {}, {}]) rfl (by kernel_rfl) rfl fun _ Z=>?_;refine Z7 ?_;refine Z7 ?_;refine Z9 ?_;refine Z9 ?_;refine aa rfl (x_o (i := k) (j := k) rfl rfl rfl rfl rfl hjs (Nat.zero_add _)) rfl ?_;refine aR rfl (o8 rfl rfl rfl rfl hjs (if_pos (Nat.lt_succ_self k))) rfl ?_;refine ae rfl rfl (cl) rfl rfl rfl rfl ?_;refine am rfl rfl rfl rfl rfl ?_;refine eQ Z ?_;clear Z;show AWP _ _ _ _ _ _;refine gR fun _ Z=>?_;refine ah rfl (aC (c := ((k + 1 : Nat) : Int)) (by omega) (by omega)) rfl ?_;refine Z9 ?_;refine eQ Z ?_;clear Z;exact ⟨k + 1, by omega, hf, Wk.mk' ⟨rfl, rfl, rfl, rfl, rfl, rfl, rfl, rfl, rfl, rfl, rfl, rfl, trivial⟩ ⟨rfl, rfl, rfl, rfl, trivial⟩⟩
  have hf : j = i := by simp at hf; omega
  subst hf
  refine aw ?_;show AWP _ _ _ _ _ _;rw [<- yR B j, xA]
  have cs := sC (qzW (DD B j)) ((bg qD).mono rfl)
  rw [bp] at cs;refine ab ?_;refine gQ fun _ Z=>?_;refine Z7 ?_;refine ae rfl rfl (cs) rfl rfl rfl rfl ?_;refine Z6 ?_;refine eQ Z ?_;clear Z;refine ai rfl (fun hd => ?_) (fun hd => ?_)
  ·have hd : ¬ 0 < DD B j := p8.1 (of_decide_eq_true hd)
   have ef : ii B s = ([], [], false) := by rw [ii, if_neg]; simp only [iP, decide_eq_true_eq]; exact fun h => hd (h j hg)
   rw [ef];refine gQ fun _ Z=>?_;refine Z8 ?_;refine Z8 ?_;refine Z8 ?_;refine eQ Z ?_;clear Z;exact aj a6
  ·have hd : 0 < DD B j := by
    have := of_decide_eq_false hd
    exact Classical.byContradiction fun h => this (p8.2 h)
   refine ag ?_;show AWP _ _ _ _ _ _
   rcases j with _ | j
   ·refine ew [0, 1, 7, 8, 11, 13, 17, 18, 19] [13, 26, 200, 201] 26 [(0, V1 (dMs (bH s s F))), (1, V1 (.sl (nmD s e))), (7, cr 200 1 (0)), (8, cr 201 4 (0)), (11, V1 (dRs (cv s fun c => qzW (LL B (0) c)))), (13, .ptr 13 0), (17, V1 (.sl (nmD s e))), (18, dI s), (19, dI (0 : Nat))] [(13, some (.box (qzW (DD B (0))).cs)), (200, cx 1 es (0)), (201, cx 4 (a8 (0) fun r => qzW (DD B r)) (0))] rfl ?_ ⟨rfl, rfl, rfl, trivial⟩ ?_
    ·exact ⟨rfl, rfl, rfl, rfl, bR (lV s _).symm (by simp [cv]), rfl, rfl, rfl, rfl, trivial⟩
    refine ck tok mixed (A := [[], [], [], [1], [], [], [], [0, 1, 2, 5], [4, 5, 6], []]) (an := [{}, {}, {}, {}, { c := [112, 113] }, { c := [112, 113] }, { c := [112, 113] }, {}, {}, {}]) rfl (by kernel_rfl) rfl fun _ Z=>?_;refine Z9 ?_;refine Z9 ?_;refine aH rfl rfl rfl rfl ?_;refine bu rfl (ky rfl rfl rfl rfl rfl (by decide) (Nat.le_of_ble_eq_true rfl) rfl (by simp) rfl (by simp) (by simp)) rfl rfl rfl ?_;refine Z9 ?_;refine Z7 ?_;refine aH rfl rfl rfl rfl ?_;refine bu rfl (ky rfl rfl rfl rfl rfl (by decide) (Nat.le_of_ble_eq_true rfl) rfl (by simp) rfl (by simp) (by simp)) rfl rfl rfl ?_;refine Z8 ?_;refine Z8 ?_;refine eQ Z ?_;clear Z;refine A5 [0, 1, 7, 8, 17, 18, 19] [113, 117] 113 200 [(0, V1 (dMs (bH s s F))), (1, V1 (.sl (nmD s e))), (7, cr 200 1 (0 + 1)), (8, cr 117 4 (0 + 1)), (17, V1 (.sl (nmD s e))), (18, dI s), (19, dI (0 : Nat))] [(200, cx 1 ((bH (0 + 1) s fun r c => qzW (LL B r c)).map cM) (0 + 1)), (117, cx 4 (a8 (0 + 1) fun r => qzW (DD B r)) (0 + 1))] rfl rfl rfl ⟨rfl, rfl, ?_, ?_, rfl, rfl, rfl, trivial⟩ ⟨?_, ?_, trivial⟩ ?_
    ·show SV.val (.one (.own 200 1 0 _)) = _
     first
      | rfl
      | (rw [List.length_append, z1]; rfl)
    ·show SV.val (.one (.own 117 4 0 _)) = _
     first
      | rfl
      | (rw [List.length_append, z2]; rfl)
    ·first
      | (rw [<- n1, List.length_eq_zero_iff.1 z1]; rfl)
      | (rw [<- n1]; rfl)
    ·first
      | (rw [<- n2, List.length_eq_zero_iff.1 z2]; rfl)
      | (rw [<- n2]; rfl)
    show AWP _ _ _ _ _ _;refine gR fun _ Z=>?_;refine ah rfl (aC (c := ((0 + 1 : Nat) : Int)) (by omega) (by omega)) rfl ?_;refine Z9 ?_;refine eQ Z ?_;clear Z;refine ⟨0 + 1, by omega, ⟨hg, fun k hk => ?_⟩, Wk.rn [0, 1, 7, 8, 17, 18, 19] [200, 117] 117 201 rfl rfl rfl ⟨rfl, rfl, rfl, rfl, rfl, rfl, rfl, trivial⟩ ⟨rfl, rfl, trivial⟩⟩
    by_cases e : k = 0
    ·rw [e]; exact hd
    ·exact hI k (by omega)
   ·refine ew [0, 1, 7, 8, 11, 13, 17, 18, 19] [13, 26, 200, 201] 26 [(0, V1 (dMs (bH s s F))), (1, V1 (.sl (nmD s e))), (7, cr 200 1 (j + 1)), (8, cr 201 4 (j + 1)), (11, V1 (dRs (cv s fun c => qzW (LL B (j + 1) c)))), (13, .ptr 13 0), (17, V1 (.sl (nmD s e))), (18, dI s), (19, dI (j + 1 : Nat))] [(13, some (.box (qzW (DD B (j + 1))).cs)), (200, cx 1 es (j + 1)), (201, cx 4 (a8 (j + 1) fun r => qzW (DD B r)) (j + 1))] rfl ?_ ⟨rfl, rfl, rfl, trivial⟩ ?_
    ·exact ⟨rfl, rfl, rfl, rfl, bR (lV s _).symm (by simp [cv]), rfl, rfl, rfl, rfl, trivial⟩
    refine ck tok mixed (A := [[], [], [], [1], [], [], [], [0, 1, 2, 5], [4, 5, 6], []]) (an := [{}, {}, {}, {}, { c := [112, 113] }, { c := [112, 113] }, { c := [112, 113] }, {}, {}, {}]) rfl (by kernel_rfl) rfl fun _ Z=>?_;refine Z9 ?_;refine Z9 ?_;refine aH rfl rfl rfl rfl ?_;refine bu rfl (nk rfl rfl rfl rfl rfl rfl (by decide) (Nat.le_of_ble_eq_true rfl) rfl (by simp) rfl rfl z1.symm (by simp <;> omega)) rfl rfl rfl ?_;refine Z9 ?_;refine Z7 ?_;refine aH rfl rfl rfl rfl ?_;refine bu rfl (nk rfl rfl rfl rfl rfl rfl (by decide) (Nat.le_of_ble_eq_true rfl) rfl (by simp) rfl rfl z2.symm (by simp <;> omega)) rfl rfl rfl ?_;refine Z8 ?_;refine Z8 ?_;refine eQ Z ?_;clear Z;refine A5 [0, 1, 7, 8, 17, 18, 19] [113, 117] 113 200 [(0, V1 (dMs (bH s s F))), (1, V1 (.sl (nmD s e))), (7, cr 200 1 (j + 1 + 1)), (8, cr 117 4 (j + 1 + 1)), (17, V1 (.sl (nmD s e))), (18, dI s), (19, dI (j + 1 : Nat))] [(200, cx 1 ((bH (j + 1 + 1) s fun r c => qzW (LL B r c)).map cM) (j + 1 + 1)), (117, cx 4 (a8 (j + 1 + 1) fun r => qzW (DD B r)) (j + 1 + 1))] rfl rfl rfl ⟨rfl, rfl, ?_, ?_, rfl, rfl, rfl, trivial⟩ ⟨?_, ?_, trivial⟩ ?_
    ·show SV.val (.one (.own 200 1 0 _)) = _
     first
      | rfl
      | (rw [List.length_append, z1]; rfl)
    ·show SV.val (.one (.own 117 4 0 _)) = _
     first
      | rfl
      | (rw [List.length_append, z2]; rfl)
    ·first
      | (rw [<- n1, List.length_eq_zero_iff.1 z1]; rfl)
      | (rw [<- n1]; rfl)
    ·first
      | (rw [<- n2, List.length_eq_zero_iff.1 z2]; rfl)
      | (rw [<- n2]; rfl)
    show AWP _ _ _ _ _ _;refine gR fun _ Z=>?_;refine ah rfl (aC (c := ((j + 1 + 1 : Nat) : Int)) (by omega) (by omega)) rfl ?_;refine Z9 ?_;refine eQ Z ?_;clear Z;refine ⟨j + 1 + 1, by omega, ⟨hg, fun k hk => ?_⟩, Wk.rn [0, 1, 7, 8, 17, 18, 19] [200, 117] 117 201 rfl rfl rfl ⟨rfl, rfl, rfl, rfl, rfl, rfl, rfl, trivial⟩ ⟨rfl, rfl, trivial⟩⟩
    by_cases e : k = j + 1
    ·rw [e]; exact hd
    ·exact hI k (by omega)
 have hg : i = n := by simp at hg; omega
 subst hg
 refine aw ?_;show AWP _ _ _ _ _ _
 have ef : ii B i = (ij B i, mV B i, true) := by rw [ii, if_pos]; simp only [iP, decide_eq_true_eq]; exact hI
 rw [ef]
 rcases i with _ | i
 ·refine gQ fun _ Z=>?_;refine Z9 ?_;refine Z9 ?_;refine Z8 ?_;refine Z8 ?_;refine Z8 ?_;refine eQ Z ?_;clear Z;exact aj a6
 ·refine ew [7, 8] [200, 201] 200 [(7, V1 (dMs (ij B (i + 1)))), (8, cr 201 4 (i + 1))] [(201, cx 4 (a8 (i + 1) fun r => qzW (DD B r)) (i + 1))] rfl ?_ ⟨rfl, trivial⟩ ?_
  ·exact ⟨bR rfl (jE _ _ _).symm, rfl, trivial⟩
  refine ew [7, 8] [201] 201 [(7, V1 (dMs (ij B (i + 1)))), (8, V1 (dRs (mV B (i + 1))))] [] rfl ?_ trivial ?_
  ·exact ⟨rfl, bR (lV _ _).symm (by simp [mV, cv]), trivial⟩
  refine gQ fun _ Z=>?_;refine Z9 ?_;refine Z9 ?_;refine Z8 ?_;refine Z8 ?_;refine Z8 ?_;refine eQ Z ?_;clear Z;exact aj a6
end Go.Proofs.YtomlkgcfagnngaaGreatDoor

/- Systems of equations. No condition. -/
namespace Go.Proofs.YtomlkgcfagnngaaGreatDoor
attribute [local irreducible] au

theorem yk {L : Nat -> Nat -> Rat} {b : Nat -> Rat} {n m : Nat} (hm : m < n) : bsx L b n n m = b m - sm n (fun j => if m < j then L j m * bsx L b n n j else 0) := by
 rw [io L b (m := n) (s := n - m) (by omega) (by omega)]
 obtain ⟨s, hs⟩ : ∃ s, n - m = s + 1 := ⟨n - m - 1, by omega⟩
 rw [hs];simp only [bsx]
 rw [if_pos (by omega), av (f := fun j => if m < j then L j m * bsx L b n s j else 0) (g := fun j => if m < j then L j m * bsx L b n n j else 0) (fun j hj => by
  by_cases h : m < j
  ·rw [if_pos h, if_pos h, io L b (m := n) (s := s) (i := j) (by omega) (by omega)]
  ·rw [if_neg h, if_neg h])]
theorem tI {x y : Rat} {k l : Nat} (hx : ql x <= k) (hy : ql y <= l) : ql (x / y) <= k + l := by
 by_cases h : y = 0
 ·subst h
  have : x / 0 = 0 := by rw [Rat.div_def, Rat.inv_zero, Rat.mul_zero]
  rw [this]
  have h1 := ro x
  exact Nat.le_trans sy (by omega)
 ·have h1 := (vV hy).ql (k := l) (Nat.ble_eq_true_of_le (Nat.le_trans (ro y) hy))
  rw [yI] at h1;rw [Rat.div_def];exact b7 hx h1
def mo (b : List RW) (i : Nat) : Rat := (b.getD i gP).v
def cw (m : List (List RW)) (i j : Nat) : Rat := (mtv m i j).v
def y9 (B : Nat -> Nat -> Rat) (b : Nat -> Rat) (n : Nat) : List RW := cv n fun i => qzW (slv B b n i)
def j6 (m : List (List RW)) (b : List RW) : List RW × Int :=
 if bI m = true /\ b.length = m.length then (if iP (cw m) m.length then (y9 (cw m) (mo b) m.length, 0) else ([], 10)) else ([], 1)
def uT (B : Nat -> Nat -> Rat) (b : Nat -> Rat) (n : Nat) : Prop := (∀ i, i < n -> ql (fwv (LL B) b i) <= 655360) /\ ∀ i, i < n -> ql (slv B b n i) <= 65536
theorem w6 {b : List RW} {n : Nat} (hn : b.length = n) : b = cv n fun i => b.getD i gP := by
 apply List.ext_getElem?
 intro i
 rcases Nat.lt_or_ge i n with hi | hi
 ·have : i < b.length := by omega
  simp [cv, hi, this]
 ·rw [List.getElem?_eq_none (by omega), List.getElem?_eq_none (by simp [cv]; omega)]
section
variable (B : Nat -> Nat -> Rat) (b : Nat -> Rat)
def fwG (i t : Nat) : RW := if t < i then qzW (fwv (LL B) b t) else gP
def fwR (i k t : Nat) : RW := if t < i then qzW (fwv (LL B) b t) else if t = i then qzW (b i - sm k fun j => LL B i j * fwv (LL B) b j) else gP
def dvG (i t : Nat) : RW := if t < i then qzW (fwv (LL B) b t / DD B t) else qzW (fwv (LL B) b t)
def bkG (n s t : Nat) : RW := if n <= t + s then qzW (slv B b n t) else qzW (fwv (LL B) b t / DD B t)
def bkF (n i j : Nat) : Rat := if i < j then LL B j i * slv B b n j else 0
def bkR (n i m t : Nat) : RW := if i < t then qzW (slv B b n t) else if t = i then qzW (fwv (LL B) b i / DD B i - sm m (bkF B b n i)) else qzW (fwv (LL B) b t / DD B t)
theorem fw0 (n : Nat) : List.replicate n gP.dc = a8 n (fwG B b 0) := by rw [nP]; exact aX fun i _ => by simp [fwG]
theorem fw1 (n i : Nat) : a8 n (gN (fwG B b i) i (qzW (b i))) = a8 n (fwR B b i 0) := aX fun t _ => by
 simp only [gN, fwG, fwR]
 by_cases h : t = i
 ·rw [if_pos h, if_neg (by omega), if_pos h, oV]
 ·rw [if_neg h, if_neg h]
theorem fw2 (n i k : Nat) : a8 n (gN (fwR B b i k) i (qzW (b i - sm (k + 1) fun j => LL B i j * fwv (LL B) b j))) = a8 n (fwR B b i (k + 1)) := aX fun t _ => by
 simp only [gN, fwR]
 by_cases h : t = i
 ·rw [if_pos h, if_neg (by omega), if_pos h]
 ·rw [if_neg h, if_neg h, if_neg h]
theorem fw3 (n i : Nat) : a8 n (fwR B b i i) = a8 n (fwG B b (i + 1)) := aX fun t _ => by
 simp only [fwR, fwG];rw [<- rD]
 by_cases h : t < i
 ·rw [if_pos h, if_pos (by omega)]
 ·rw [if_neg h]
  by_cases h2 : t = i
  ·rw [if_pos h2, if_pos (by omega), h2]
  ·rw [if_neg h2, if_neg (by omega)]
theorem dv0 (n : Nat) : a8 n (fwG B b n) = a8 n (dvG B b 0) := aX fun t ht => by simp [fwG, dvG, ht]
theorem dv1 (n i : Nat) : a8 n (gN (dvG B b i) i (qzW (fwv (LL B) b i / DD B i))) = a8 n (dvG B b (i + 1)) := aX fun t _ => by
 simp only [gN, dvG]
 by_cases h : t = i
 ·rw [if_pos h, if_pos (by omega), h]
 ·rw [if_neg h]
  by_cases h2 : t < i
  ·rw [if_pos h2, if_pos (by omega)]
  ·rw [if_neg h2, if_neg (by omega)]
theorem bk0 (n : Nat) : a8 n (dvG B b n) = a8 n (bkG B b n 0) := aX fun t ht => by
 simp only [dvG, bkG];rw [if_pos ht, if_neg (by omega)]
theorem wO (n i : Nat) : sm (i + 1) (bkF B b n i) = 0 := mf fun j hj => by simp only [bkF]; rw [if_neg (by omega)]
theorem bk1 {n i s : Nat} (h : n = i + s + 1) : a8 n (bkG B b n s) = a8 n (bkR B b n i (i + 1)) := aX fun t ht => by
 simp only [bkG, bkR];rw [wO]
 by_cases h1 : i < t
 ·rw [if_pos (by omega), if_pos h1]
 ·rw [if_neg (by omega), if_neg h1]
  by_cases h2 : t = i
  ·rw [if_pos h2, h2]; congr 1; grind
  ·rw [if_neg h2]
theorem bk2 (n i m : Nat) : a8 n (gN (bkR B b n i m) i (qzW (fwv (LL B) b i / DD B i - sm (m + 1) (bkF B b n i)))) = a8 n (bkR B b n i (m + 1)) := aX fun t _ => by
 simp only [gN, bkR]
 by_cases h : t = i
 ·rw [if_pos h, if_neg (by omega), if_pos h]
 ·rw [if_neg h, if_neg h, if_neg h]
theorem bk3 {n i s : Nat} (h : n = i + s + 1) : a8 n (bkR B b n i n) = a8 n (bkG B b n (s + 1)) := aX fun t ht => by
 have e : slv B b n i = fwv (LL B) b i / DD B i - sm n (bkF B b n i) := yk (L := LL B) (b := fun k => fwv (LL B) b k / DD B k) (show i < n by omega)
 simp only [bkG, bkR];rw [<- e]
 by_cases h1 : i < t
 ·rw [if_pos h1, if_pos (by omega)]
 ·rw [if_neg h1]
  by_cases h2 : t = i
  ·rw [if_pos h2, if_pos (by omega), h2]
  ·rw [if_neg h2, if_neg (by omega)]
theorem bk4 (n : Nat) : a8 n (bkG B b n n) = a8 n (fun i => qzW (slv B b n i)) := aX fun t _ => by
 simp only [bkG]; rw [if_pos (by omega)]
end

set_option maxHeartbeats 1000000 in
theorem uZ (m : List (List RW)) (b : List RW) (hl : m.length <= 9223372036854775806) (hlb : b.length <= 9223372036854775806) (hr : ∀ r ∈ m, r.length <= 9223372036854775806) (ok : okM 65536 m) (ob : ∀ x ∈ b, x.OK 65536)
  (hF : bI m = true -> b.length = m.length -> qG (cw m) m.length /\ (iP (cw m) m.length = true -> uT (cw m) (mo b) m.length)) :
  Con Tryz.prog 25 [V1 (dMs m), V1 (dRs b)] { v := .tup [.one (.d (dRs (j6 m b).1)), .one (.d (lI (j6 m b).2))] } := by
 refine Z3 Tryz.func25 ?_
 intro w0 X
 rw [ak _ _ [(0, V1 (dMs m)), (1, V1 (dRs b))] rfl rfl];refine gQ fun _ Z=>?_;refine Z8 ?_;refine Z8 ?_;refine eQ Z ?_;clear Z;refine ab ?_;refine cH (α := Bool) (fun c => mk 133 [(0, V1 (dMs m)), (1, V1 (dRs b)), (24, dB c)] [] []) (fun c => c = !(bI m && decide (b.length = m.length))) ?_ ?_
 ·refine iv fun _ Z=>?_;refine aK tok rfl ?_;refine Z9 ?_;refine bb ?_;refine aK tok rfl ?_;refine ae rfl rfl (ml m hl hr ok) rfl rfl rfl rfl ?_;refine bb ?_;refine aK tok rfl ?_;refine g7 rfl rfl rfl ?_;refine bb ?_;refine aK tok rfl ?_;refine Z9 ?_;refine bb ?_;refine sb (fun h0 => ?_) (fun h0 => ?_)
  ·refine gn rfl rfl ?_;refine gn rfl rfl ?_;refine gn rfl rfl ?_;refine gn rfl rfl ?_;refine gn rfl rfl ?_;refine aK tok rfl ?_;refine Z4 ?_;refine bb ?_;refine kC rfl (Z _ ?_); clear Z;exact ⟨_, (by simp only [Bool.not_eq_true', Bool.not_eq_false'] at h0; rw [h0]; first|rfl|(rw [Bool.eq_iff_iff]; simp only [Bool.true_and, bne_iff_ne, ne_eq, Bool.not_eq_true', decide_eq_false_iff_not]; omega)), Wk.mk' ⟨rfl, rfl, rfl, trivial⟩ trivial⟩
  ·refine aK tok rfl ?_;refine Z9 ?_;refine bb ?_;refine aK tok rfl ?_;refine az rfl (de RW.dc rfl rfl) rfl ?_;refine bb ?_;refine aK tok rfl ?_;refine Z9 ?_;refine bb ?_;refine aK tok rfl ?_;refine az rfl (de cM rfl rfl) rfl ?_;refine bb ?_;refine aK tok rfl ?_;refine Z6 ?_;refine bb ?_;refine aK tok rfl ?_;refine Z4 ?_;refine bb ?_;refine kC rfl (Z _ ?_); clear Z;exact ⟨_, (by simp only [Bool.not_eq_true', Bool.not_eq_false'] at h0; rw [h0]; first|rfl|(rw [Bool.eq_iff_iff]; simp only [Bool.true_and, bne_iff_ne, ne_eq, Bool.not_eq_true', decide_eq_false_iff_not]; omega)), Wk.mk' ⟨rfl, rfl, rfl, trivial⟩ trivial⟩
 rintro c rfl
 refine ai rfl (fun hc => ?_) (fun hc => ?_)
 ·have e : j6 m b = ([], 1) := by rw [j6, if_neg]; intro h; simp [h.1, h.2] at hc
  rw [e];refine gQ fun _ Z=>?_;refine Z8 ?_;refine Z8 ?_;refine eQ Z ?_;clear Z;exact aj a6
 have hc : bI m = true /\ b.length = m.length := by simpa using hc
 obtain ⟨hF1, hF2⟩ := hF hc.1 hc.2
 rw [j6, if_pos hc]
 have hV := of_decide_eq_true hc.1
 obtain ⟨hv1, hv2, _⟩ := hV
 obtain ⟨n, hn⟩ : ∃ n, m.length = n := ⟨_, rfl⟩
 have hm : m = bH n n (mtv m) := oZ hn (fun r hr => (hv2 r hr).trans hn)
 have hbl : b.length = n := hc.2.trans hn
 have oF : ∀ i j, i < n -> j < n -> (mtv m i j).OK 65536 := fun i j hi hj => by rw [hm] at ok; exact lL ok hi hj
 obtain ⟨G, hG⟩ : ∃ G : Nat -> RW, G = fun i => b.getD i gP := ⟨_, rfl⟩
 have hb : b = cv n G := by rw [hG]; exact w6 hbl
 have oG : ∀ i, i < n -> (G i).OK 65536 := fun i hi => by
  have hib : i < b.length := by omega
  have : G i = b[i] := by rw [hG]; simp [hib]
  rw [this]; exact ob _ (List.getElem_mem hib)
 have hbv : ∀ i, mo b i = (G i).v := fun i => by rw [hG]; rfl
 rw [hn] at hF1 hF2 hv1
 have cF := kc n (mtv m) (fun i => i) hv1 (fun i hi => hi) oF hF1
 rw [<- hm] at cF
 have eB : dY (mtv m) (fun i => i) = cw m := rfl
 rw [eB] at cF;generalize mo b = bv at hF2 hbv ⊢;generalize cw m = B at cF hF1 hF2 ⊢;refine ag ?_;show AWP _ _ _ _ _ _;rw [hn];refine gQ fun _ Z=>?_;refine Z9 ?_;refine Z9 ?_;refine az rfl (kJ (n := n) rfl rfl (by rw [List.length_map]; exact hn)) rfl ?_;refine ae rfl rfl (kF n (by omega)) rfl rfl rfl rfl ?_;refine ae rfl rfl (cF) rfl rfl rfl rfl ?_;refine Z9 ?_;refine aq rfl rfl rfl ?_;refine aq rfl rfl rfl ?_;refine aq rfl rfl rfl ?_;refine Z8 ?_;refine Z8 ?_;refine Z8 ?_;refine eQ Z ?_;clear Z
 cases hp : iP B n with
 | false =>
  have e : ii B n = ([], [], false) := by rw [ii, hp]; rfl
  rw [e];refine ab ?_;refine gQ fun _ Z=>?_;refine Z9 ?_;refine g7 rfl rfl rfl ?_;refine eQ Z ?_;clear Z;refine ai rfl (fun _ => ?_) (fun h => by cases h);refine gQ fun _ Z=>?_;refine Z8 ?_;refine Z8 ?_;refine eQ Z ?_;clear Z;exact aj a6
 | true =>
 obtain ⟨hS1, hS2⟩ := hF2 hp
 have hD := of_decide_eq_true hp
 have e : ii B n = (ij B n, mV B n, true) := by rw [ii, hp]; rfl
 have qL : ∀ i j, i < n -> j < i -> ql (LL B i j) <= 65536 := fun i j hi hj => (hF1 i hi fun k hk => hD k (by omega)).2 j hj
 have qD : ∀ i, i < n -> ql (DD B i) <= 65536 := fun i hi => (hF1 i hi fun k hk => hD k (by omega)).1
 rw [e];refine ab ?_;refine gQ fun _ Z=>?_;refine Z9 ?_;refine g7 rfl rfl rfl ?_;refine eQ Z ?_;clear Z;refine ai rfl (fun h => by cases h) (fun _ => ?_);refine ag ?_;show AWP _ _ _ _ _ _;rw [hb];refine gQ fun _ Z=>?_;refine Z9 ?_;refine az rfl (yG rfl rfl) rfl ?_;refine bn (sz := _) (es := _) (f := _) (v := _) rfl (vP (l := n) rfl rfl rfl rfl rfl (Nat.le_of_ble_eq_true rfl) (by decide) rfl rfl (by omega)) rfl rfl ?_;refine Z8 ?_;refine eQ Z ?_;clear Z;refine ab ?_;refine gQ fun _ Z=>?_;refine Z9 ?_;refine az rfl rfl rfl ?_;refine Z9 ?_;refine eQ Z ?_;clear Z;refine ac (aG (α := Nat) (fun i => mk 133 [(1, V1 (dRs (cv n G))), (6, V1 (dMs (ij B n))), (7, V1 (dRs (mV B n))), (9, .val (.one (.own 38 4 0 n))), (40, dI n), (41, dI i)] [(38, some (.arr 4 (a8 n (fwG B bv i))))] []) (fun i => i <= n) (fun i => n - i) 0 ?_ (Nat.zero_le _) ?_)
 ·exact Wk.mk' ⟨rfl, rfl, rfl, rfl, rfl, rfl, trivial⟩ ⟨congrArg (fun x => some (OO.arr 4 x)) (fw0 B bv n), trivial⟩
 intro i hi
 refine gQ fun _ Z=>?_;refine Z6 ?_;refine eQ Z ?_;clear Z;refine ab ?_;refine ai rfl (fun hg => ?_) (fun hg => ?_)
 ·have hg : i < n := by simp at hg; omega
  have c1 := gy (G i) ((oG i hg).mono rfl)
  have qb := (oG i hg).ql rfl
  rw [<- hbv] at c1 qb
  have tf : ∀ j, j < i -> ql (LL B i j * fwv (LL B) bv j) <= 720896 := fun j hj => Nat.le_trans (b7 (qL i j hg hj) (hS1 j (by omega))) (by decide)
  have qx : ∀ k, k <= i -> ql (bv i - sm k fun j => LL B i j * fwv (LL B) bv j) <= 16777215 := fun k hk => Nat.le_trans (p7 qb k fun t ht => tf t (by omega)) (by
   have := Nat.mul_le_mul_right (720896 + 1) (show k <= 16 by omega)
   omega)
  refine ag ?_;show AWP _ _ _ _ _ _;refine ab ?_;refine ac ?_;refine gQ fun _ Z=>?_;refine Z9 ?_;refine Z8 ?_;refine eQ Z ?_;clear Z;refine gQ fun _ Z=>?_;refine Z9 ?_;refine Z9 ?_;refine Z9 ?_;refine Z9 ?_;refine aa rfl (x_v rfl rfl rfl rfl rfl hg) rfl ?_;refine Z7 ?_;refine ae rfl rfl (c1) rfl rfl rfl rfl ?_;refine aa rfl (x_o (i := i) (j := i) rfl rfl rfl rfl rfl hg (Nat.zero_add _)) rfl ?_;refine am rfl (ra (qzW (bv i)) rfl rfl rfl hg) rfl rfl rfl ?_;refine eQ Z ?_;clear Z;rw [fw1];refine gQ fun _ Z=>?_;refine Z9 ?_;refine Z9 ?_;refine eQ Z ?_;clear Z;refine ac (aG (α := Nat) (fun k => mk 133 [(1, V1 (dRs (cv n G))), (6, V1 (dMs (ij B n))), (7, V1 (dRs (mV B n))), (9, .val (.one (.own 38 4 0 n))), (10, dI i), (40, dI n), (41, dI i), (52, dI i), (53, dI k)] [(38, some (.arr 4 (a8 n (fwR B bv i k))))] []) (fun k => k <= i) (fun k => i - k) 0 ?_ (Nat.zero_le _) ?_)
  ·exact Wk.mk' ⟨rfl, rfl, rfl, rfl, rfl, rfl, rfl, rfl, rfl, trivial⟩ ⟨rfl, trivial⟩
  intro k hk
  refine gQ fun _ Z=>?_;refine Z6 ?_;refine eQ Z ?_;clear Z;refine ab ?_;refine ai rfl (fun hf => ?_) (fun hf => ?_)
  ·have hf : k < i := by simp at hf; omega
   have cl := lF (qzW (bv i - sm k fun j => LL B i j * fwv (LL B) bv j)) (qzW (LL B i k)) (qzW (fwv (LL B) bv k)) (bv i - sm (k + 1) fun j => LL B i j * fwv (LL B) bv j) (bg (qx k hk)) ((bg (qL i k hg hf)).mono rfl) ((bg (hS1 k (by omega))).mono rfl) (by rw [bp, bp, bp]; exact lH _ _ _ rfl)
   refine ag ?_;show AWP _ _ _ _ _ _;refine ab ?_;refine ac ?_;refine gQ fun _ Z=>?_;refine Z9 ?_;refine Z8 ?_;refine eQ Z ?_;clear Z;refine ck tok mixed (A := [[], [], [], [], [], [2, 3], [], [], [], [6, 7], [], [6, 7, 8], [6, 7, 8, 9, 10], [], [], [], [13, 14], [2, 3, 4, 6, 7, 8, 9, 10, 11, 13, 14, 15], [], []]) (an := [{}, {}, {}, {}, {}, {}, {}, {}, {}, {}, {}, {}, {}, {}, {}, {}, {}, {}, {}, {}]) rfl (by kernel_rfl) rfl fun _ Z=>?_;refine Z9 ?_;refine Z9 ?_;refine Z9 ?_;refine Z9 ?_;refine aa rfl (x_o (i := i) (j := i) rfl rfl rfl rfl rfl hg (Nat.zero_add _)) rfl ?_;refine aR rfl (o8 (x := qzW (bv i - sm k fun j => LL B i j * fwv (LL B) bv j)) rfl rfl rfl rfl hg (by simp [fwR])) rfl ?_;refine Z9 ?_;refine Z9 ?_;refine aa rfl (pC rfl rfl rfl rfl rfl hg) rfl ?_;refine Z7 ?_;refine Z9 ?_;refine aa rfl (x_v rfl rfl rfl rfl rfl (show k < n by omega)) rfl ?_;refine Z7 ?_;refine Z9 ?_;refine Z9 ?_;refine aa rfl (x_o (i := k) (j := k) rfl rfl rfl rfl rfl (show k < n by omega) (Nat.zero_add _)) rfl ?_;refine aR rfl (o8 (x := qzW (fwv (LL B) bv k)) rfl rfl rfl rfl (show k < n by omega) (if_pos hf)) rfl ?_;refine ae rfl rfl (cl) rfl rfl rfl rfl ?_;refine aa rfl (x_o (i := i) (j := i) rfl rfl rfl rfl rfl hg (Nat.zero_add _)) rfl ?_;refine am rfl (ra (qzW (bv i - sm (k + 1) fun j => LL B i j * fwv (LL B) bv j)) rfl rfl rfl hg) rfl rfl rfl ?_;refine eQ Z ?_;clear Z;rw [fw2];show AWP _ _ _ _ _ _;refine gR fun _ Z=>?_;refine ah rfl (aC (c := ((k + 1 : Nat) : Int)) (by omega) (by omega)) rfl ?_;refine Z9 ?_;refine eQ Z ?_;clear Z;exact ⟨k + 1, by omega, hf, Wk.mk' ⟨rfl, rfl, rfl, rfl, rfl, rfl, rfl, rfl, rfl, trivial⟩ ⟨rfl, trivial⟩⟩
  have hf : k = i := by simp at hf; omega
  subst hf
  refine aw ?_;show AWP _ _ _ _ _ _;rw [fw3];refine gR fun _ Z=>?_;refine ah rfl (aC (c := ((k + 1 : Nat) : Int)) (by omega) (by omega)) rfl ?_;refine Z9 ?_;refine eQ Z ?_;clear Z;exact ⟨k + 1, by omega, hg, Wk.mk' ⟨rfl, rfl, rfl, rfl, rfl, rfl, trivial⟩ ⟨rfl, trivial⟩⟩
 have hg : i = n := by simp at hg; omega
 subst hg
 refine aw ?_;show AWP _ _ _ _ _ _;rw [dv0];refine ab ?_;refine gQ fun _ Z=>?_;refine Z9 ?_;refine az rfl rfl rfl ?_;refine Z9 ?_;refine eQ Z ?_;clear Z;refine ac (aG (α := Nat) (fun k => mk 133 [(6, V1 (dMs (ij B i))), (7, V1 (dRs (mV B i))), (9, .val (.one (.own 38 4 0 i))), (78, dI i), (79, dI k)] [(38, some (.arr 4 (a8 i (dvG B bv k))))] []) (fun k => k <= i) (fun k => i - k) 0 ?_ (Nat.zero_le _) ?_)
 ·exact Wk.mk' ⟨rfl, rfl, rfl, rfl, rfl, trivial⟩ ⟨rfl, trivial⟩
 intro k hk
 refine gQ fun _ Z=>?_;refine Z6 ?_;refine eQ Z ?_;clear Z;refine ab ?_;refine ai rfl (fun hf => ?_) (fun hf => ?_)
 ·have hf : k < i := by simp at hf; omega
  have dk := hD k hf
  have cd := vt (qzW (fwv (LL B) bv k)) (qzW (DD B k)) (fwv (LL B) bv k / DD B k) ((bg (hS1 k hf)).mono rfl) ((bg (qD k hf)).mono rfl) (by rw [bp]; grind) (by rw [bp, bp])
  refine ag ?_;show AWP _ _ _ _ _ _;refine ab ?_;refine ac ?_;refine gQ fun _ Z=>?_;refine Z9 ?_;refine Z8 ?_;refine eQ Z ?_;clear Z;refine ck tok mixed (A := [[], [], [], [], [], [2, 3], [], [], [], [6, 7], [2, 3, 4, 6, 7, 8], [2, 3, 4, 5, 6, 7, 8, 9], [2, 3, 4, 5, 6, 7, 8, 9, 10], [2, 3, 4, 5, 6, 7, 8, 9, 10], [], []]) (an := [{}, {}, {}, {}, {}, {}, {}, {}, {}, {}, {}, {}, {}, {}, {}, {}]) rfl (by kernel_rfl) rfl fun _ Z=>?_;refine Z9 ?_;refine Z9 ?_;refine Z9 ?_;refine Z9 ?_;refine aa rfl (x_o (i := k) (j := k) rfl rfl rfl rfl rfl hf (Nat.zero_add _)) rfl ?_;refine aR rfl (o8 (x := qzW (fwv (LL B) bv k)) rfl rfl rfl rfl hf (if_neg (Nat.lt_irrefl k))) rfl ?_;refine Z9 ?_;refine Z9 ?_;refine aa rfl (x_v rfl rfl rfl rfl rfl hf) rfl ?_;refine Z7 ?_;refine ae rfl rfl (cd) rfl rfl rfl rfl ?_;refine Z9 ?_;refine aq rfl rfl rfl ?_;refine aq rfl rfl rfl ?_;refine aa rfl (x_o (i := k) (j := k) rfl rfl rfl rfl rfl hf (Nat.zero_add _)) rfl ?_;refine am rfl (ra (qzW (fwv (LL B) bv k / DD B k)) rfl rfl rfl hf) rfl rfl rfl ?_;refine eQ Z ?_;clear Z;rw [dv1];show AWP _ _ _ _ _ _;refine gR fun _ Z=>?_;refine ah rfl (aC (c := ((k + 1 : Nat) : Int)) (by omega) (by omega)) rfl ?_;refine Z9 ?_;refine eQ Z ?_;clear Z;exact ⟨k + 1, by omega, hf, Wk.mk' ⟨rfl, rfl, rfl, rfl, rfl, trivial⟩ ⟨rfl, trivial⟩⟩
 have hf : k = i := by simp at hf; omega
 subst hf
 refine aw ?_;show AWP _ _ _ _ _ _;rw [bk0]
 have qc : ∀ i, i < k -> ql (fwv (LL B) bv i / DD B i) <= 720896 := fun i hi => tI (hS1 i hi) (qD i hi)
 refine ab ?_;refine gQ fun _ Z=>?_;refine Z9 ?_;refine az rfl rfl rfl ?_;refine ah rfl (bZ (c := (k : Int) - 1 - (0 : Nat)) (by omega) (by omega)) rfl ?_;refine Z8 ?_;refine eQ Z ?_;clear Z;refine ac (aG (α := Nat) (fun s => mk 133 [(6, V1 (dMs (ij B k))), (9, .val (.one (.own 38 4 0 k))), (13, dI ((k : Int) - 1 - s))] [(38, some (.arr 4 (a8 k (bkG B bv k s))))] []) (fun s => s <= k) (fun s => k - s) 0 ?_ (Nat.zero_le _) ?_)
 ·exact Wk.mk' ⟨rfl, rfl, rfl, trivial⟩ ⟨rfl, trivial⟩
 intro s hs
 refine ab ?_;refine gQ fun _ Z=>?_;refine Z9 ?_;refine Z6 ?_;refine eQ Z ?_;clear Z;refine ai rfl (fun hd => ?_) (fun hd => ?_)
 ·obtain ⟨j, hj⟩ : ∃ j, k = j + s + 1 := ⟨k - s - 1, by simp at hd; omega⟩
  have hjk : j < k := by omega
  have ej : (k : Int) - 1 - s = (j : Int) := by omega
  rw [ej, bk1 B bv hj]
  have tg : ∀ t, t < k -> ql (bkF B bv k j t) <= 131072 := fun t ht => by
   simp only [bkF]; split
   ·exact Nat.le_trans (b7 (qL t j ht (by omega)) (hS2 t ht)) (by decide)
   ·exact Nat.le_trans sy (by decide)
  have qx : ∀ p, p <= k -> ql (fwv (LL B) bv j / DD B j - sm p (bkF B bv k j)) <= 16777215 := fun p hp => Nat.le_trans (p7 (qc j hjk) p fun t ht => tg t (by omega)) (by
   have := Nat.mul_le_mul_right (131072 + 1) (show p <= 16 by omega)
   omega)
  refine ag ?_;show AWP _ _ _ _ _ _;refine ab ?_;refine ac ?_;refine gQ fun _ Z=>?_;refine Z9 ?_;refine ah rfl (aC (c := ((j + 1 : Nat) : Int)) (by omega) (by omega)) rfl ?_;refine Z8 ?_;refine eQ Z ?_;clear Z;refine ac (aG (α := Nat) (fun p => mk 133 [(6, V1 (dMs (ij B k))), (9, .val (.one (.own 38 4 0 k))), (13, dI j), (14, dI p)] [(38, some (.arr 4 (a8 k (bkR B bv k j p))))] []) (fun p => j + 1 <= p /\ p <= k) (fun p => k - p) (j + 1) ?_ ⟨Nat.le_refl _, hjk⟩ ?_)
  ·exact Wk.mk' ⟨rfl, rfl, rfl, rfl, trivial⟩ ⟨rfl, trivial⟩
  rintro p ⟨hp1, hp2⟩
  refine ab ?_;refine gQ fun _ Z=>?_;refine Z9 ?_;refine Z9 ?_;refine az rfl rfl rfl ?_;refine Z6 ?_;refine eQ Z ?_;clear Z;refine ai rfl (fun hx => ?_) (fun hx => ?_)
  ·have hx : p < k := by simp at hx; omega
   have cl := lF (qzW (fwv (LL B) bv j / DD B j - sm p (bkF B bv k j))) (qzW (LL B p j)) (qzW (slv B bv k p)) (fwv (LL B) bv j / DD B j - sm (p + 1) (bkF B bv k j)) (bg (qx p hp2)) ((bg (qL p j hx (by omega))).mono rfl) ((bg (hS2 p hx)).mono rfl) (by rw [bp, bp, bp]; exact lH _ _ _ (if_pos (by omega)))
   refine ag ?_;show AWP _ _ _ _ _ _;refine ab ?_;refine ac ?_;refine ck tok mixed (A := [[], [], [], [], [], [2, 3], [], [], [], [6, 7], [], [6, 7, 8], [6, 7, 8, 9, 10], [], [], [], [13, 14], [2, 3, 4, 6, 7, 8, 9, 10, 11, 13, 14, 15], [], []]) (an := [{}, {}, {}, {}, {}, {}, {}, {}, {}, {}, {}, {}, {}, {}, {}, {}, {}, {}, {}, {}]) rfl (by kernel_rfl) rfl fun _ Z=>?_;refine Z9 ?_;refine Z9 ?_;refine Z9 ?_;refine Z9 ?_;refine aa rfl (x_o (i := j) (j := j) rfl rfl rfl rfl rfl hjk (Nat.zero_add _)) rfl ?_;refine aR rfl (o8 (x := qzW (fwv (LL B) bv j / DD B j - sm p (bkF B bv k j))) rfl rfl rfl rfl hjk (by simp [bkR])) rfl ?_;refine Z9 ?_;refine Z9 ?_;refine aa rfl (pC rfl rfl rfl rfl rfl hx) rfl ?_;refine Z7 ?_;refine Z9 ?_;refine aa rfl (x_v rfl rfl rfl rfl rfl hjk) rfl ?_;refine Z7 ?_;refine Z9 ?_;refine Z9 ?_;refine aa rfl (x_o (i := p) (j := p) rfl rfl rfl rfl rfl hx (Nat.zero_add _)) rfl ?_;refine aR rfl (o8 (x := qzW (slv B bv k p)) rfl rfl rfl rfl hx (if_pos (by omega))) rfl ?_;refine ae rfl rfl (cl) rfl rfl rfl rfl ?_;refine aa rfl (x_o (i := j) (j := j) rfl rfl rfl rfl rfl hjk (Nat.zero_add _)) rfl ?_;refine am rfl (ra (qzW (fwv (LL B) bv j / DD B j - sm (p + 1) (bkF B bv k j))) rfl rfl rfl hjk) rfl rfl rfl ?_;refine eQ Z ?_;clear Z;rw [bk2];show AWP _ _ _ _ _ _;refine gR fun _ Z=>?_;refine Z9 ?_;refine ah rfl (aC (c := ((p + 1 : Nat) : Int)) (by omega) (by omega)) rfl ?_;refine Z8 ?_;refine eQ Z ?_;clear Z;exact ⟨p + 1, by omega, ⟨by omega, hx⟩, Wk.mk' ⟨rfl, rfl, rfl, rfl, trivial⟩ ⟨rfl, trivial⟩⟩
  have hx : p = k := by simp at hx; omega
  subst hx
  refine aw ?_;show AWP _ _ _ _ _ _;rw [bk3 B bv hj];refine gR fun _ Z=>?_;refine Z9 ?_;refine ah rfl (bZ (c := (p : Int) - 1 - (s + 1 : Nat)) (by omega) (by omega)) rfl ?_;refine Z8 ?_;refine eQ Z ?_;clear Z;exact ⟨s + 1, by omega, by omega, Wk.mk' ⟨rfl, rfl, rfl, trivial⟩ ⟨rfl, trivial⟩⟩
 have hd : s = k := by simp at hd; omega
 subst hd
 refine aw ?_;show AWP _ _ _ _ _ _;rw [bk4];refine ew [9] [38] 38 [(9, V1 (dRs (y9 B bv s)))] [] rfl ?_ trivial ?_
 ·exact ⟨bR (lV _ _).symm (by simp [y9, cv]), trivial⟩
 rw [if_pos rfl];refine gQ fun _ Z=>?_;refine Z9 ?_;refine Z8 ?_;refine Z8 ?_;refine eQ Z ?_;clear Z;exact aj a6
end Go.Proofs.YtomlkgcfagnngaaGreatDoor

/- Determinants by elimination. No condition. -/
namespace Go.Proofs.YtomlkgcfagnngaaGreatDoor
attribute [local irreducible] au

def wV (V : Nat -> Nat -> RW) (s i j : Nat) (f : Nat -> Rat) : Nat -> Nat -> RW := fun q c => if q = s then (if i <= c /\ c < j then qzW (f c) else V q c) else V q c
structure EL (n i : Nat) (V : Nat -> Nat -> RW) (σ : Nat -> Nat) (A : Nat -> Nat -> Rat) : Prop where
 lt : ∀ r, r < n -> σ r < n
 inj : ∀ r s, r < n -> s < n -> σ r = σ s -> r = s
 ok : ∀ r c, i <= r -> r < n -> i <= c -> c < n -> (V (σ r) c).OK 65536
 v : ∀ r c, i <= r -> r < n -> i <= c -> c < n -> (V (σ r) c).v = A r c
structure ER (n i k r : Nat) (V : Nat -> Nat -> RW) (σ : Nat -> Nat) (A : Nat -> Nat -> Rat) : Prop where
 lt : ∀ r, r < n -> σ r < n
 inj : ∀ r s, r < n -> s < n -> σ r = σ s -> r = s
 ok : ∀ p c, i <= p -> p < n -> i <= c -> c < n -> (V (σ p) c).OK 65536
 v : ∀ p c, i <= p -> p < n -> i <= c -> c < n -> (V (σ p) c).v = if p < r then stp i k A p c else A (swp i k p) c
theorem ER.row {n i k r : Nat} {V : Nat -> Nat -> RW} {σ : Nat -> Nat} {A : Nat -> Nat -> Rat} (h : ER n i k r V σ A) (hir : i < r) (hr : r < n) (hq : ∀ c, i <= c -> c < n -> ql (stp i k A r c) <= 65536) :
  ER n i k (r + 1) (wV V (σ r) i n (fun c => stp i k A r c)) σ A := by
 refine ⟨h.lt, h.inj, fun p c h1 h2 h3 h4 => ?_, fun p c h1 h2 h3 h4 => ?_⟩
 ·by_cases e : p = r
  ·subst e; simp only [wV, if_true]; rw [if_pos ⟨h3, h4⟩]; exact bg (hq c h3 h4)
  ·have : σ p ≠ σ r := fun e' => e (h.inj p r h2 hr e')
   simp only [wV]; rw [if_neg this]; exact h.ok p c h1 h2 h3 h4
 ·by_cases e : p = r
  ·subst e; simp only [wV, if_true]; rw [if_pos ⟨h3, h4⟩, if_pos (by omega), bp]
  ·have : σ p ≠ σ r := fun e' => e (h.inj p r h2 hr e')
   simp only [wV]; rw [if_neg this, h.v p c h1 h2 h3 h4]
   by_cases hp : p < r
   ·rw [if_pos hp, if_pos (by omega)]
   ·rw [if_neg hp, if_neg (by omega)]
end Go.Proofs.YtomlkgcfagnngaaGreatDoor

/- Minors. No condition. -/
namespace Go.Proofs.YtomlkgcfagnngaaGreatDoor
attribute [local irreducible] au

end Go.Proofs.YtomlkgcfagnngaaGreatDoor

/- The graph's resistances, plainly. No condition. -/
namespace Go.Proofs.YtomlkgcfagnngaaGreatDoor
attribute [local irreducible] au

def wlk (l : LK) : WL := ⟨l.f.toNat, l.t.toNat, ((l.w : Int) : Rat)⟩
def wls (ls : List LK) : List WL := ls.map wlk
section
variable {g : GR} (gv : GV g)
include gv
end
def lab (g : GR) (v : Nat) : Nat := (zx g).1.getD v 0
section
variable {g : GR} (gv : GV g)
include gv
end
def grS (g : GR) (j v : Nat) : Bool := decide (lab g v = lab g j) && decide (v ≠ j)
def grL (g : GR) (j k : Nat) : List Nat := (List.range k).filter (grS g j)
def ze (g : GR) (j v : Nat) : List RW := (grL g j g.nodes.length).map fun w => qzW ((lapM g.links v w : Int) : Rat)
def tD (g : GR) (j : Nat) : List (List RW) := (grL g j g.nodes.length).map (ze g j)
def tE (g : GR) (j : Nat) : Nat := kN g.nodes.length (grS g j)
def zf (g : GR) (i j : Nat) : Nat := kN i (grS g j)
def AA (g : GR) (i j : Nat) : List RW := cv (tE g j) fun t => if t = zf g i j then qzW 1 else qzW 0
def Az (g : GR) (i j : Nat) : Rat := if i = j then 0 else slv (cw (tD g j)) (mo (AA g i j)) (tE g j) (zf g i j)
structure RES (g : GR) (i j : Nat) : Prop where
 val : bI (tD g j) = true
 ok : okM 65536 (tD g j)
 fac : qG (cw (tD g j)) (tE g j)
 pos : iP (cw (tD g j)) (tE g j) = true
 sol : uT (cw (tD g j)) (mo (AA g i j)) (tE g j)
 at_ : zf g i j < tE g j
 res : IsR g.nodes.length (wls g.links) i j (Az g i j)
 bnd : ql (Az g i j) <= 65536
end Go.Proofs.YtomlkgcfagnngaaGreatDoor

/- Least squares on a graph, plainly: one coordinate. No condition. -/
namespace Go.Proofs.YtomlkgcfagnngaaGreatDoor
attribute [local irreducible] au

def rb (d : LK -> Rat) (v : Nat) : List LK -> Rat
 | [] => 0
 | l :: ls => rb d v ls + ((l.w : Int) : Rat) * ((dl l.t.toNat v - dl l.f.toNat v) * d l)
/-! ### Connected along links -/
end Go.Proofs.YtomlkgcfagnngaaGreatDoor

/- The spots with the least cost, plainly. No condition. -/
namespace Go.Proofs.YtomlkgcfagnngaaGreatDoor
attribute [local irreducible] au

section
variable {g : GR} (gv : GV g)
include gv
end
def nmM (g : GR) : List (List RW) := nrM g.nodes.length (lapM g.links) (g.nodes.length - 1)
def nmX (g : GR) : List RW := nrX (nrL g g.links).1 (g.nodes.length - 1)
def nmY (g : GR) : List RW := nrX (nrL g g.links).2 (g.nodes.length - 1)
def cnB (g : GR) : Bool := decide (∀ v, v < g.nodes.length -> lab g v = lab g 0)
def slX (g : GR) (b : List RW) (v : Nat) : Rat := if v = 0 then 0 else slv (cw (nmM g)) (mo b) (g.nodes.length - 1) (v - 1)
section
variable {g : GR} (gv : GV g)
include gv
end
def mnX (g : GR) : Nat -> Rat := slX g (nmX g)
def mnY (g : GR) : Nat -> Rat := slX g (nmY g)
section
variable {g : GR} (gv : GV g)
include gv
end
/-! ### Words -/
structure SM (g : GR) : Prop where
 n6 : g.nodes.length <= 6
 l16 : g.links.length <= 16
 ok : ∀ r ∈ g.nodes, r.OK 2
structure NRM (g : GR) : Prop where
 len : (nmM g).length = g.nodes.length - 1
 rows : ∀ r ∈ nmM g, r.length = g.nodes.length - 1
 val : bI (nmM g) = true
 ok : okM 65536 (nmM g)
 fac : qG (cw (nmM g)) (g.nodes.length - 1)
 sol : iP (cw (nmM g)) (g.nodes.length - 1) = true -> uT (cw (nmM g)) (mo (nmX g)) (g.nodes.length - 1) /\ uT (cw (nmM g)) (mo (nmY g)) (g.nodes.length - 1)
 bx : ∀ x ∈ nmX g, x.OK 305
 bY : ∀ x ∈ nmY g, x.OK 305
 qx : cnB g = true -> ∀ v, v < g.nodes.length -> ql (mnX g v) <= 1600 /\ ql (mnY g v) <= 1600
end Go.Proofs.YtomlkgcfagnngaaGreatDoor

/- Costs and gradients by coordinates. No condition. -/
namespace Go.Proofs.YtomlkgcfagnngaaGreatDoor
attribute [local irreducible] au

def xs (s : List SP) (v : Nat) : Rat := (s.getD v sp0).vx
def ys (s : List SP) (v : Nat) : Rat := (s.getD v sp0).vy
/-! ### Words of costs -/
end Go.Proofs.YtomlkgcfagnngaaGreatDoor

/- Graphs with the same costs have the same minimum. No condition. -/
namespace Go.Proofs.YtomlkgcfagnngaaGreatDoor
attribute [local irreducible] au

/-! ### A link parted -/
end Go.Proofs.YtomlkgcfagnngaaGreatDoor

/- adjust: Minimum, Least, Gradient, Worst. No condition. -/
namespace Go.Proofs.YtomlkgcfagnngaaGreatDoor
attribute [local irreducible] au
open Go.RowKit

end Go.Proofs.YtomlkgcfagnngaaGreatDoor

/- adjust: Worst, New, Graph; the law's small functions. No condition. -/
namespace Go.Proofs.YtomlkgcfagnngaaGreatDoor
attribute [local irreducible] au
open Go.RowKit

theorem oh {T : Tab} {t : TypeId} {a b : Int} {c : Bool} (h : (a != b) = c) : aB T .neq t (dI a) (dI b) = .set (dB c) := by subst h; rfl
/-! ### Small inputs -/
def w1 (r : RW) : Bool := decide (r.wp.length <= 1 /\ r.wq.length <= 1)
/-! ### New and Graph -/
end Go.Proofs.YtomlkgcfagnngaaGreatDoor

/- adjust: Worst, Graph; awake. No condition. -/
namespace Go.Proofs.YtomlkgcfagnngaaGreatDoor
attribute [local irreducible] au
open Go.RowKit

/-! ### Worst -/
end Go.Proofs.YtomlkgcfagnngaaGreatDoor

/- law31: awake; alike; Least. No condition. -/
namespace Go.Proofs.YtomlkgcfagnngaaGreatDoor
attribute [local irreducible] au
open Go.RowKit

theorem po {T : Tab} {t : TypeId} (a : ByteArray) : aB T .eql t (V1 (.lit (.string a))) (V1 (.lit (.string a))) = .set (dB true) := by
 show Eff.set (dB (a.toList == a.toList)) = _
 rw [beq_self_eq_true]
/-! ### alike -/
/-! ### Least -/
end Go.Proofs.YtomlkgcfagnngaaGreatDoor

/- law31: Gradient. No condition. -/
namespace Go.Proofs.YtomlkgcfagnngaaGreatDoor
attribute [local irreducible] au
open Go.RowKit

end Go.Proofs.YtomlkgcfagnngaaGreatDoor

/- law31: Order, Merges. No condition. -/
namespace Go.Proofs.YtomlkgcfagnngaaGreatDoor
attribute [local irreducible] au
open Go.RowKit

section
variable {T : Tab} {t e : TypeId} {ti ei : TI}
end
end Go.Proofs.YtomlkgcfagnngaaGreatDoor

/- law31: Merges. No condition. -/
namespace Go.Proofs.YtomlkgcfagnngaaGreatDoor
attribute [local irreducible] au
open Go.RowKit

end Go.Proofs.YtomlkgcfagnngaaGreatDoor

/- solve: dot, Times, Form. law31: Form. No condition. -/
namespace Go.Proofs.YtomlkgcfagnngaaGreatDoor
attribute [local irreducible] au
open Go.RowKit

/-! ### dot -/
/-! ### Times and Form -/
end Go.Proofs.YtomlkgcfagnngaaGreatDoor

/- ref02's quotient; ref27: Valid, Order, none, Identity. No condition. -/
namespace Go.Proofs.YtomlkgcfagnngaaGreatDoor
attribute [local irreducible] au

/-! ### Orders -/
def zC (n : Nat) (l : List Int) : Prop := l.length = n /\ ∀ i (h : i < l.length), 0 <= l[i] /\ l[i] < n /\ l[i] ∉ l.take i
instance (n : Nat) (l : List Int) : Decidable (zC n l) := by unfold zC; infer_instance
def iQ (n : Nat) (l : List Int) : Bool := decide (zC n l)
section
variable {T : Tab} {t e : TypeId} {ti ei : TI}
end

def nmI (n : Nat) (e : Nat -> Nat) : List Int := (List.range n).map fun i => (e i : Int)
theorem sJ (n : Nat) (e : Nat -> Nat) : DC.sl (nmD n e) = dIs (nmI n e) := by
 unfold nmD nmI dIs
 rw [List.map_map]; rfl
def idS (s v : Nat) : Nat := if v < s then v else 0
end Go.Proofs.YtomlkgcfagnngaaGreatDoor

/- ref27: Factor. No condition. -/
namespace Go.Proofs.YtomlkgcfagnngaaGreatDoor
attribute [local irreducible] au

def tY (B : Nat -> Nat -> Rat) (n : Nat) : List (List RW) × List RW × Int := if iP B n then (ij B n, mV B n, 0) else ([], [], 10)
end Go.Proofs.YtomlkgcfagnngaaGreatDoor

/- ref27: Solve. No condition. -/
namespace Go.Proofs.YtomlkgcfagnngaaGreatDoor
attribute [local irreducible] au

section
variable (B : Nat -> Nat -> Rat) (b : Nat -> Rat)
end

end Go.Proofs.YtomlkgcfagnngaaGreatDoor

/- law27: small matrices: words of factors, solutions, eliminations. No condition. -/
namespace Go.Proofs.YtomlkgcfagnngaaGreatDoor
attribute [local irreducible] au

theorem okM.mono {m : List (List RW)} {j k : Nat} (h : okM j m) (hk : Nat.ble j k = true) : okM k m := fun r hr x hx => (h r hr x hx).mono hk
theorem oR {m : List (List RW)} {k : Nat} (h : okM k m) (hk : Nat.ble 1 k = true) (i j : Nat) : ql (cw m i j) <= k := by
 have h1 : 1 <= k := Nat.le_of_ble_eq_true hk
 have z : ql gP.v <= 1 := by decide
 unfold cw mtv
 rcases Nat.lt_or_ge i m.length with hi | hi
 ·rw [List.getD_eq_getElem?_getD (l := m), List.getElem?_eq_getElem hi, Option.getD_some]
  rcases Nat.lt_or_ge j m[i].length with hj | hj
  ·rw [List.getD_eq_getElem?_getD, List.getElem?_eq_getElem hj, Option.getD_some];exact (h _ (List.getElem_mem hi) _ (List.getElem_mem hj)).ql hk
  ·rw [List.getD_eq_getElem?_getD, List.getElem?_eq_none hj, Option.getD_none]; omega
 ·rw [List.getD_eq_getElem?_getD (l := m), List.getElem?_eq_none hi, Option.getD_none, List.getD_nil]; omega
theorem xD {b : List RW} {k : Nat} (h : ∀ x ∈ b, x.OK k) (hk : Nat.ble 1 k = true) (i : Nat) : ql (mo b i) <= k := by
 have h1 : 1 <= k := Nat.le_of_ble_eq_true hk
 have z : ql gP.v <= 1 := by decide
 unfold mo
 rcases Nat.lt_or_ge i b.length with hi | hi
 ·rw [List.getD_eq_getElem?_getD, List.getElem?_eq_getElem hi, Option.getD_some];exact (h _ (List.getElem_mem hi)).ql hk
 ·rw [List.getD_eq_getElem?_getD, List.getElem?_eq_none hi, Option.getD_none]; omega
theorem nM {B : Nat -> Nat -> Rat} {b : Nat -> Rat} (h : ∀ i j, i < 6 -> j < 6 -> ql (B i j) <= 2) (hb : ∀ i, i < 8 -> ql (b i) <= 2) :
  ∃ c : Rat, c ≠ 0 /\ IB 2816 c /\ (∀ i j, i < 6 -> j < 6 -> IB 2880 (c * B i j)) /\ ∀ i, i < 8 -> IB 2880 (c * b i) := by
 obtain ⟨c, h0, h1, h2⟩ := A2 ((List.range 36).map (fun k => B (k / 6) (k % 6)) ++ (List.range 8).map b) (fun q hq => by
  rcases List.mem_append.1 hq with hq | hq
  ·obtain ⟨k, hk, rfl⟩ := List.mem_map.1 hq
   have := List.mem_range.1 hk
   exact h _ _ (by omega) (by omega)
  ·obtain ⟨k, hk, rfl⟩ := List.mem_map.1 hq
   exact hb _ (List.mem_range.1 hk))
 have hl : ((List.range 36).map (fun k => B (k / 6) (k % 6)) ++ (List.range 8).map b).length = 44 := by simp
 rw [hl] at h1 h2;refine ⟨c, h0, h1, fun i j hi hj => h2 _ (List.mem_append_left _ (List.mem_map.2 ⟨6 * i + j, List.mem_range.2 (by omega), ?_⟩)), fun i hi => h2 _ (List.mem_append_right _ (List.mem_map.2 ⟨i, List.mem_range.2 hi, rfl⟩))⟩;rw [show (6 * i + j) / 6 = i by omega, show (6 * i + j) % 6 = j by omega]
section
variable {B : Nat -> Nat -> Rat} {n : Nat} {b : Nat -> Rat}
theorem jc (hn : n <= 6) (hs : ∀ i j, i < n -> j < n -> B i j = B j i) (h : ∀ i j, i < n -> j < n -> ql (B i j) <= 2) : qG B n /\ ∀ i j, i < n -> (∀ k, k < n -> DD B k ≠ 0) -> j < i -> ql (LL B i j) <= 640 := by
 obtain ⟨c, h0, h1, h2, _⟩ := nM (B := fun i j => if i < n /\ j < n then B i j else 0) (b := fun _ => 0) (fun i j _ _ => by
  by_cases e : i < n /\ j < n
  ·simp only [if_pos e]; exact h i j e.1 e.2
  ·simp only [if_neg e]; decide) (fun _ _ => by decide)
 have hB : ∀ i j, i < n -> j < n -> IB 2880 (c * B i j) := fun i j hi hj => by
  have := h2 i j (by omega) (by omega)
  rwa [if_pos ⟨hi, hj⟩] at this
 have hJ : n * (2880 + 4) + 2816 < 32 * 640 := by omega
 refine ⟨fun i hi hd => ?_, fun i j hi hd hj => wU h0 hs hB (by omega) hJ hi hj fun k hk => hd k (by omega)⟩
 have hd' : ∀ k, k < i -> DD B k ≠ 0 := fun k hk => by have := hd k hk; grind
 exact ⟨Nat.le_trans (Ag h0 h1 hs hB (by omega) hJ hi hd') (by decide), fun j hj => Nat.le_trans (wU h0 hs hB (by omega) hJ hi hj fun k hk => hd' k (by omega)) (by decide)⟩
theorem tp (hn : n <= 6) (hs : ∀ i j, i < n -> j < n -> B i j = B j i) (h : ∀ i j, i < n -> j < n -> ql (B i j) <= 2) (hb : ∀ i, i < n -> ql (b i) <= 2) (hd : ∀ k, k < n -> DD B k ≠ 0) {i : Nat} (hi : i < n) : ql (slv B b n i) <= 640 := by
 obtain ⟨c, h0, h1, h2, h3⟩ := nM (B := fun i j => if i < n /\ j < n then B i j else 0) (b := fun i => if i < n then b i else 0) (fun i j _ _ => by
  by_cases e : i < n /\ j < n
  ·simp only [if_pos e]; exact h i j e.1 e.2
  ·simp only [if_neg e]; decide) (fun i _ => by
  by_cases e : i < n
  ·simp only [if_pos e]; exact hb i e
  ·simp only [if_neg e]; decide)
 have hB : ∀ i j, i < n -> j < n -> IB 2880 (c * B i j) := fun i j hi hj => by
  have := h2 i j (by omega) (by omega)
  rwa [if_pos ⟨hi, hj⟩] at this
 have hb' : ∀ i, i < n -> IB 2880 (c * b i) := fun i hi => by
  have := h3 i (by omega)
  rwa [if_pos hi] at this
 exact xp (e := 2816) h0 hs hB hb' (by omega) (by omega) hd hi
theorem re (hn : n <= 6) (hs : ∀ i j, i < n -> j < n -> B i j = B j i) (h : ∀ i j, i < n -> j < n -> ql (B i j) <= 2) (hb : ∀ i, i < n -> ql (b i) <= 2) (hp : iP B n = true) : uT B b n := by
 have hd := of_decide_eq_true hp
 have hd' : ∀ k, k < n -> DD B k ≠ 0 := fun k hk => by have := hd k hk; grind
 refine ⟨fun a ha => ?_, fun a ha => Nat.le_trans (tp hn hs h hb hd' ha) (by decide)⟩
 have h1 := zO (fun i j hi hj => (jc hn hs h).2 i j hi hd' hj) hb a ha
 have h2 : 2 ^ a <= 2 ^ 6 := Nat.pow_le_pow_right (by decide) (by omega)
 have h3 : (2 + 640 + 1) * 2 ^ a <= 643 * 2 ^ 6 := Nat.mul_le_mul_left _ h2
 have h4 : 643 * 2 ^ 6 = 41152 := by decide
 omega
end
theorem uS {m : List (List RW)} (hv : bI m = true) {i j : Nat} (hi : i < m.length) (hj : j < m.length) : cw m i j = cw m j i := by
 have h := of_decide_eq_true hv
 have h3 := h.2.2
 rcases Nat.lt_or_ge j i with hj' | hj'
 ·exact h3 i hi j hj'
 ·rcases Nat.lt_or_ge i j with hi' | hi'
  ·exact (h3 j hj i hi').symm
  ·obtain rfl : i = j := by omega
   rfl
theorem sf {m : List (List RW)} (hv : bI m = true) : m = bH m.length m.length (mtv m) := oZ rfl (of_decide_eq_true hv).2.1
end Go.Proofs.YtomlkgcfagnngaaGreatDoor

/- solve: permutation, Factor, Definite. No condition. -/
namespace Go.Proofs.YtomlkgcfagnngaaGreatDoor
attribute [local irreducible] au
open Go.RowKit

theorem xk {n : Nat} {l : List Int} : decide (rc l (n : Int)) = iQ n l := by
 rw [iQ, Bool.eq_iff_iff, decide_eq_true_eq, decide_eq_true_eq]
 have hl := jr l
 constructor
 ·rintro ⟨h1, h2⟩
  have hn : l.length = n := by omega
  obtain ⟨nd, rg⟩ := uR hn fun i hi => by
   have := h1 i (by omega)
   rwa [List.getElem?_eq_getElem hi, Option.getD_some] at this
  exact ⟨hn, fun i hi => ⟨(rg _ (List.getElem_mem hi)).1, (rg _ (List.getElem_mem hi)).2, gA.1 nd i hi⟩⟩
 ·rintro ⟨hn, h⟩
  have nd : l.Nodup := gA.2 fun i hi => (h i hi).2.2
  have rg : ∀ x ∈ l, 0 <= x /\ x < n := fun x hx => by
   obtain ⟨i, hi, rfl⟩ := List.getElem_of_mem hx
   exact ⟨(h i hi).1, (h i hi).2.1⟩
  exact ⟨fun i hi => by rw [List.getElem?_eq_getElem (show i < (dg l).length by omega), Option.getD_some]; exact y5 hn nd rg i (by omega), by omega⟩
theorem xw (l : List Int) (n : Nat) (hl : l.length <= 1048576) (hn : n <= 1048576) : Con Tryz.prog 30 [V1 (dIs l), dI n] { v := dB (iQ n l) } := by
 refine ⟨⟨Tryz.f30, Tryz.func30, by kernel_rfl, rfl⟩, fun w X μ vs _ hX hlv ha => ?_⟩
 obtain ⟨v0, e0, r0⟩ := ha 0 _ rfl
 obtain ⟨v1, e1, r1⟩ := ha 1 _ rfl
 obtain ⟨u0, u1, rfl⟩ : ∃ u0 u1, vs = [u0, u1] := by
  match vs, hlv with
  | [u0, u1], _ => exact ⟨u0, u1, rfl⟩
 have r0 : RdC w X u0 (dIs l) := by cases e0; exact r0
 have r1 : RdC w X u1 (lI n) := by cases e1; exact r1
 obtain rfl : u1 = .int .i64 n := by cases r1; rfl
 have key : ∃ a ln cap, u0 = .slice a ln cap /\ ln = l.length /\ (l = [] \/ ∃ b off, a = some ⟨b, off, none⟩ /\ b < w.heap.size /\ ∀ j, j < l.length -> w.cell? ⟨b, off + j, none⟩ = some (.int .i64 (l[j]?.getD 0))) := by
  obtain ⟨es, hes⟩ : ∃ es, es = l.map cI := ⟨_, rfl⟩
  unfold dIs at r0
  rw [<- hes] at r0
  cases r0 with
  | nil =>
   have : l = [] := by
    rcases l with _ | ⟨x, l⟩
    ·rfl
    ·simp at hes
   subst this
   exact ⟨_, 0, _, rfl, rfl, Or.inl rfl⟩
  | sl gs hh hxx hlen hcap hs hv hr =>
   rename_i b off len cap sz cs E fr
   have hl2 : es.length = l.length := by rw [hes, List.length_map]
   refine ⟨_, _, _, rfl, by omega, Or.inr ⟨b, off, rfl, aZ hh, fun j hj => ?_⟩⟩
   have ej : es[j]? = some (cI l[j]) := by rw [hes, List.getElem?_map, List.getElem?_eq_getElem hj]; rfl
   have hsz : 1 = sz := hs j _ ej
   subst hsz
   have hr0 := hr j 0 (lI l[j]) (by unfold at2; rw [ej]; rfl)
   have hv0 := hv j 0 (lI l[j]) (by unfold at2; rw [ej]; rfl)
   have : gs j 0 = .int .i64 l[j] := by
    generalize gs j 0 = g at hr0
    cases hr0; rfl
   rw [this] at hv0;rw [kw hh, List.getElem?_eq_getElem hj, Option.getD_some, <- hv0]
   congr 1
   omega
 obtain ⟨a, ln, cap, rfl, hln, hk⟩ := key
 have := AH l hl n ⟨by omega, by omega⟩ w a ln cap hln hk
 rw [xk] at this;exact this.mono fun e w' ⟨he, hb⟩ => ⟨_, he, hb, 0, fun _ _ h => (by cases h), RdC.lit rfl⟩
def ordFn (l : List Int) (i : Nat) : Nat := (l.getD i 0).toNat
theorem sH {n : Nat} {l : List Int} (h : iQ n l = true) : l = nmI n (ordFn l) /\ (∀ i, i < n -> ordFn l i < n) /\ ∀ i j, i < n -> j < n -> ordFn l i = ordFn l j -> i = j := by
 obtain ⟨hn, hp⟩ := of_decide_eq_true h
 have at_ : ∀ i (hi : i < l.length), ((ordFn l i : Nat) : Int) = l[i] := fun i hi => by
  have := (hp i hi).1
  unfold ordFn
  rw [List.getD_eq_getElem?_getD, List.getElem?_eq_getElem hi, Option.getD_some]; omega
 refine ⟨?_, fun i hi => ?_, fun i j hi hj e => ?_⟩
 ·refine List.ext_getElem (by simp [nmI, hn]) fun i h1 h2 => ?_;simp only [nmI, List.getElem_map, List.getElem_range];exact (at_ i h1).symm
 ·have h1 := at_ i (by omega)
  have h2 := (hp i (by omega)).2.1
  omega
 ·have nd : l.Nodup := gA.2 fun i hi => (hp i hi).2.2
  rcases Nat.lt_or_ge i j with hij | hij
  ·exact absurd (by rw [<- at_ i (by omega), <- at_ j (by omega), e]) (List.pairwise_iff_getElem.1 nd i j (by omega) (by omega) hij)
  ·rcases Nat.lt_or_ge j i with hji | hji
   ·exact absurd (by rw [<- at_ i (by omega), <- at_ j (by omega), e]) (List.pairwise_iff_getElem.1 nd j i (by omega) (by omega) hji)
   ·omega
def kS (m : List (List RW)) (l : List Int) : List (List RW) × List RW × Int := if bI m = true then (if iQ m.length l = true then tY (dY (mtv m) (ordFn l)) m.length else ([], [], 2)) else ([], [], 1)
def kr (m : List (List RW)) : Bool := bI m && iP (cw m) m.length
def AX (m : List (List RW)) (l : List Int) : Prop := bI m = true -> iQ m.length l = true -> qG (dY (mtv m) (ordFn l)) m.length
set_option maxHeartbeats 1000000 in
theorem mm (m : List (List RW)) (l : List Int) (hl : m.length <= 9223372036854775806) (hr : ∀ r ∈ m, r.length <= 9223372036854775806) (ok : okM 65536 m) (hll : l.length <= 1048576) (hS : AX m l) :
  Con Tryz.prog 9 [V1 (dMs m), V1 (dIs l)] { v := .tup [.one (.d (dMs (kS m l).1)), .one (.d (dRs (kS m l).2.1)), .one (.d (lI (kS m l).2.2))] } := by
 have cV := ml m hl hr ok
 refine Z3 Tryz.func9 ?_
 intro w0 X
 rw [ak _ _ [(0, V1 (dMs m)), (1, V1 (dIs l))] rfl rfl];refine gQ fun _ Z=>?_;refine Z8 ?_;refine Z8 ?_;refine Z8 ?_;refine eQ Z ?_;clear Z;refine ab ?_;refine ac ?_;refine gQ fun _ Z=>?_;refine Z9 ?_;refine ae rfl rfl (cV) rfl rfl rfl rfl ?_;refine g7 rfl rfl rfl ?_;refine Z8 ?_;refine eQ Z ?_;clear Z;refine ai rfl (fun hc => ?_) (fun hc => ?_)
 ·have e : kS m l = ([], [], 1) := by rw [kS, if_neg]; intro h; rw [h] at hc; cases hc
  rw [e];refine gQ fun _ Z=>?_;refine Z8 ?_;refine Z8 ?_;refine Z8 ?_;refine eQ Z ?_;clear Z;exact aj a6
 have hc : bI m = true := by simpa using hc
 rw [kS, if_pos hc]
 have hV := of_decide_eq_true hc
 obtain ⟨n16, hrl, _⟩ := hV
 have cP := xw l m.length hll (by omega)
 refine gQ fun _ Z=>?_;refine Z9 ?_;refine Z9 ?_;refine az rfl (de cM rfl rfl) rfl ?_;refine ae rfl rfl (cP) rfl rfl rfl rfl ?_;refine g7 rfl rfl rfl ?_;refine Z8 ?_;refine eQ Z ?_;clear Z;refine ai rfl (fun ho => ?_) (fun ho => ?_)
 ·have ho : ¬ iQ m.length l = true := by simpa using ho
  rw [if_neg ho];refine gQ fun _ Z=>?_;refine Z8 ?_;refine Z8 ?_;refine Z8 ?_;refine eQ Z ?_;clear Z;exact aj a6
 have ho : iQ m.length l = true := by simpa using ho
 rw [if_pos ho]
 obtain ⟨el, hlt, _⟩ := sH ho
 have cF := kc m.length (mtv m) (ordFn l) n16 hlt (fun i j hi hj => by have := ok; rw [sf hc] at this; exact lL this hi hj) (hS hc ho)
 rw [<- sf hc, sJ, <- el] at cF;refine ag ?_;show AWP _ _ _ _ _ _;refine gQ fun _ Z=>?_;refine Z9 ?_;refine Z9 ?_;refine ae rfl rfl (cF) rfl rfl rfl rfl ?_;refine Z9 ?_;refine aq rfl rfl rfl ?_;refine aq rfl rfl rfl ?_;refine aq rfl rfl rfl ?_;refine Z8 ?_;refine Z8 ?_;refine Z8 ?_;refine eQ Z ?_;clear Z
 cases hp : iP (dY (mtv m) (ordFn l)) m.length with
 | false =>
  have e : ii (dY (mtv m) (ordFn l)) m.length = ([], [], false) := by rw [ii, hp]; rfl
  have e2 : tY (dY (mtv m) (ordFn l)) m.length = ([], [], 10) := by rw [tY, hp]; rfl
  rw [e, e2];refine ab ?_;refine gQ fun _ Z=>?_;refine Z9 ?_;refine g7 rfl rfl rfl ?_;refine eQ Z ?_;clear Z;refine ai rfl (fun _ => ?_) (fun h => by cases h);refine gQ fun _ Z=>?_;refine Z8 ?_;refine Z8 ?_;refine Z8 ?_;refine eQ Z ?_;clear Z;exact aj a6
 | true =>
  have e : ii (dY (mtv m) (ordFn l)) m.length = (ij (dY (mtv m) (ordFn l)) m.length, mV (dY (mtv m) (ordFn l)) m.length, true) := by rw [ii, hp]; rfl
  have e2 : tY (dY (mtv m) (ordFn l)) m.length = (ij (dY (mtv m) (ordFn l)) m.length, mV (dY (mtv m) (ordFn l)) m.length, 0) := by rw [tY, hp]; rfl
  rw [e, e2];refine ab ?_;refine gQ fun _ Z=>?_;refine Z9 ?_;refine g7 rfl rfl rfl ?_;refine eQ Z ?_;clear Z;refine ai rfl (fun h => by cases h) (fun _ => ?_);refine ag ?_;show AWP _ _ _ _ _ _;refine gQ fun _ Z=>?_;refine Z9 ?_;refine Z9 ?_;refine Z8 ?_;refine Z8 ?_;refine Z8 ?_;refine eQ Z ?_;clear Z;exact aj a6
theorem u5 (m : List (List RW)) (hl : m.length <= 9223372036854775806) (hr : ∀ r ∈ m, r.length <= 9223372036854775806) (ok : okM 65536 m) (hS : bI m = true -> qG (cw m) m.length) :
  Con Tryz.prog 27 [V1 (dMs m)] { v := dB (kr m) } := by
 have cV := ml m hl hr ok
 refine Z3 Tryz.func27 ?_
 intro w0 X
 rw [ak _ _ [(0, V1 (dMs m))] rfl rfl];refine gQ fun _ Z=>?_;refine Z8 ?_;refine eQ Z ?_;clear Z;refine ab ?_;refine gQ fun _ Z=>?_;refine Z9 ?_;refine ae rfl rfl (cV) rfl rfl rfl rfl ?_;refine g7 rfl rfl rfl ?_;refine eQ Z ?_;clear Z;refine ai rfl (fun hc => ?_) (fun hc => ?_)
 ·have e : kr m = false := by
   rw [kr]; have : bI m = false := by simpa using hc
   rw [this]; rfl
  rw [e];refine gQ fun _ Z=>?_;refine Z8 ?_;refine eQ Z ?_;clear Z;exact aj a6
 have hc : bI m = true := by simpa using hc
 have hV := of_decide_eq_true hc
 obtain ⟨n16, hrl, _⟩ := hV
 have cF := kc m.length (mtv m) (fun i => i) n16 (fun i hi => hi) (fun i j hi hj => by have := ok; rw [sf hc] at this; exact lL this hi hj) (hS hc)
 have cI := kF m.length (by omega)
 have e3 : (ii (dY (mtv m) (fun i => i)) m.length).2.2 = kr m := by
  rw [ii, kr, hc, Bool.true_and]
  show (if iP (cw m) m.length = true then _ else _ : List (List RW) × List RW × Bool).2.2 = _
  cases iP (cw m) m.length <;> rfl
 rw [<- sf hc, e3] at cF;refine ag ?_;show AWP _ _ _ _ _ _;refine gQ fun _ Z=>?_;refine Z9 ?_;refine Z9 ?_;refine az rfl (de cM rfl rfl) rfl ?_;refine ae rfl rfl (cI) rfl rfl rfl rfl ?_;refine ae rfl rfl (cF) rfl rfl rfl rfl ?_;refine Z9 ?_;refine aq rfl rfl rfl ?_;refine aq rfl rfl rfl ?_;refine aq rfl rfl rfl ?_;refine Z8 ?_;refine Z8 ?_;refine Z8 ?_;refine eQ Z ?_;clear Z;refine gQ fun _ Z=>?_;refine Z9 ?_;refine Z8 ?_;refine eQ Z ?_;clear Z;exact aj a6
end Go.Proofs.YtomlkgcfagnngaaGreatDoor

/- ref27: Times, Form. No condition. -/
namespace Go.Proofs.YtomlkgcfagnngaaGreatDoor
attribute [local irreducible] au

end Go.Proofs.YtomlkgcfagnngaaGreatDoor

/- law27: short, few, same, awake. No condition. -/
namespace Go.Proofs.YtomlkgcfagnngaaGreatDoor
attribute [local irreducible] au

/-! ### awake -/
def a27 : List (List RW) := [[qzW 4, qzW 2], [qzW 2, qzW 3]]
theorem nl : okM 2 a27 := fun r hr x hx => by
 have : x = qzW 4 \/ x = qzW 2 \/ x = qzW 3 := by
  simp only [a27, List.mem_cons, List.not_mem_nil, or_false] at hr
  rcases hr with rfl | rfl <;> simp only [List.mem_cons, List.not_mem_nil, or_false] at hx <;> rcases hx with rfl | rfl <;> simp
 rcases this with rfl | rfl | rfl <;> exact bg (by decide +kernel)
theorem yP : bI a27 = true := by decide +kernel
theorem A8 : kS a27 [1, 0] = ([[qzW 1, qzW 0], [qzW (2 / 3), qzW 1]], [qzW 3, qzW (8 / 3)], 0) := by decide +kernel
theorem A7 : j6 a27 [qzW 2, qzW 1] = ([qzW (1 / 2), qzW 0], 0) := by decide +kernel
theorem A9 : kr a27 = true := by decide +kernel
theorem wR (e : Nat -> Nat) (he : ∀ i, i < 2 -> e i < 2) : qG (dY (mtv a27) e) 2 := (jc (by decide) (fun i j hi hj => uS yP (he i hi) (he j hj)) (fun i j hi hj => oR nl rfl _ _)).1
def At : Tab := { tab with dat := fun t => Nat.beq t 31 || Nat.beq t 30 || Nat.beq t 26 }
theorem lY : TOK Tryz.prog At := ⟨tok.ty, tok.clo, tok.eqs⟩
set_option maxHeartbeats 1000000 in
theorem oz : Con Tryz.prog 5 [] { v := dB true } := by
 have cF := mm a27 [1, 0] (by decide) (by decide) (nl.mono rfl) (by decide) (fun _ ho => wR _ (sH ho).2.1)
 rw [A8] at cF
 have cS := uZ a27 [qzW 2, qzW 1] (by decide) (by decide) (by decide) (nl.mono rfl) (fun x hx => by
  simp only [List.mem_cons, List.not_mem_nil, or_false] at hx
  rcases hx with rfl | rfl <;> exact bg (by decide +kernel)) (fun _ _ => ⟨wR (fun i => i) (fun i hi => hi), fun hp => re (by decide) (fun i j hi hj => uS yP hi hj) (fun i j _ _ => oR nl rfl _ _) (fun i _ => xD (k := 2) (fun x hx => by
  simp only [List.mem_cons, List.not_mem_nil, or_false] at hx
  rcases hx with rfl | rfl <;> exact bg (by decide +kernel)) rfl i) hp⟩)
 rw [A7] at cS
 have cD := u5 a27 (by decide) (by decide) (nl.mono rfl) (fun _ => wR (fun i => i) (fun i hi => hi))
 rw [A9] at cD
 have t1 := lG (qzW (2 / 3)) (bg (by decide +kernel)) (by rw [bp]; decide +kernel) (by rw [bp]; decide +kernel)
 have t2 := lG (qzW (8 / 3)) (bg (by decide +kernel)) (by rw [bp]; decide +kernel) (by rw [bp]; decide +kernel)
 have t3 := lG (qzW (1 / 2)) (bg (by decide +kernel)) (by rw [bp]; decide +kernel) (by rw [bp]; decide +kernel)
 have t4 := lG (qzW 0) (bg (by decide +kernel)) (by rw [bp]; decide +kernel) (by rw [bp]; decide +kernel)
 rw [bp, show qtx (2 / 3 : Rat) = [50, 47, 51] by decide +kernel] at t1;rw [bp, show qtx (8 / 3 : Rat) = [56, 47, 51] by decide +kernel] at t2;rw [bp, show qtx (1 / 2 : Rat) = [49, 47, 50] by decide +kernel] at t3;rw [bp, show qtx (0 : Rat) = [48] by decide +kernel] at t4
 have o4 : Con Tryz.prog 7 [dI 4, dI 1] { v := AG (qzW 4).cs } := i9 4 ⟨by omega, by omega⟩
 have o2 : Con Tryz.prog 7 [dI 2, dI 1] { v := AG (qzW 2).cs } := i9 2 ⟨by omega, by omega⟩
 have o3 : Con Tryz.prog 7 [dI 3, dI 1] { v := AG (qzW 3).cs } := i9 3 ⟨by omega, by omega⟩
 have o1 : Con Tryz.prog 7 [dI 1, dI 1] { v := AG (qzW 1).cs } := i9 1 ⟨by omega, by omega⟩
 have eA : a27 = [[qzW 4, qzW 2], [qzW 2, qzW 3]] := rfl
 rw [eA] at cF cS cD;generalize qzW (4 : Rat) = q4 at *;generalize qzW (2 : Rat) = q2 at *;generalize qzW (3 : Rat) = q3 at *;generalize qzW (1 : Rat) = q1 at *;generalize qzW (0 : Rat) = q0 at *;generalize qzW (2 / 3 : Rat) = q23 at *;generalize qzW (8 / 3 : Rat) = q83 at *;generalize qzW (1 / 2 : Rat) = q12 at *;refine gj (fn := Tryz.f5) lY Tryz.func5 (by kernel_rfl) rfl ?_
 intro w0 X
 rw [ak _ _ [] rfl rfl];refine ap lY fun _ Z=>?_;refine Z8 ?_;refine eQ Z ?_;clear Z;refine ap lY fun _ Z=>?_;refine ae rfl rfl (o4) rfl rfl rfl rfl ?_;refine ae rfl rfl (o2) rfl rfl rfl rfl ?_;refine bG rfl rfl rfl rfl ?_;refine ae rfl rfl (o2) rfl rfl rfl rfl ?_;refine ae rfl rfl (o3) rfl rfl rfl rfl ?_;refine bG rfl rfl rfl rfl ?_;refine bG rfl rfl rfl rfl ?_;refine Z8 ?_;refine eQ Z ?_;clear Z;refine ap lY fun _ Z=>?_;refine Z9 ?_;refine bG rfl rfl rfl rfl ?_;refine ae rfl rfl (cF) rfl rfl rfl rfl ?_;refine Z9 ?_;refine aq rfl rfl rfl ?_;refine aq rfl rfl rfl ?_;refine aq rfl rfl rfl ?_;refine Z8 ?_;refine Z8 ?_;refine Z8 ?_;refine eQ Z ?_;clear Z;refine ap lY fun _ Z=>?_;refine Z9 ?_;refine ae rfl rfl (o2) rfl rfl rfl rfl ?_;refine ae rfl rfl (o1) rfl rfl rfl rfl ?_;refine bG rfl rfl rfl rfl ?_;refine ae rfl rfl (cS) rfl rfl rfl rfl ?_;refine Z9 ?_;refine aq rfl rfl rfl ?_;refine aq rfl rfl rfl ?_;refine Z8 ?_;refine Z8 ?_;refine eQ Z ?_;clear Z;refine ab ?_;refine ap lY fun _ Z=>?_;refine Z9 ?_;refine Z6 ?_;refine Z9 ?_;refine Z9 ?_;refine Z6 ?_;refine Z4 ?_;refine Z9 ?_;refine Z9 ?_;refine az rfl (de cM rfl rfl) rfl ?_;refine Z6 ?_;refine Z4 ?_;refine Z9 ?_;refine Z9 ?_;refine aa rfl (x_m cM (i := 1) rfl rfl rfl rfl (by simp) rfl) rfl ?_;refine Z7 ?_;refine az rfl (de RW.dc rfl rfl) rfl ?_;refine Z6 ?_;refine Z4 ?_;refine Z9 ?_;refine Z9 ?_;refine az rfl (de RW.dc rfl rfl) rfl ?_;refine Z6 ?_;refine Z4 ?_;refine Z9 ?_;refine Z9 ?_;refine az rfl (de RW.dc rfl rfl) rfl ?_;refine Z6 ?_;refine Z4 ?_;refine eQ Z ?_;clear Z;refine ai rfl (fun h => by cases h) (fun _ => ?_);refine ag ?_;show AWP _ _ _ _ _ _;refine ap lY fun _ Z=>?_;refine Z9 ?_;refine aa rfl (x_m cM (i := 1) rfl rfl rfl rfl (by simp) rfl) rfl ?_;refine Z7 ?_;refine aa rfl (x_m RW.dc (i := 0) rfl rfl rfl rfl (by simp) rfl) rfl ?_;refine Z7 ?_;refine ae rfl rfl (t1) rfl rfl rfl rfl ?_;refine ah rfl (po _) rfl ?_;refine Z9 ?_;refine Z9 ?_;refine aa rfl (x_m RW.dc (i := 1) rfl rfl rfl rfl (by simp) rfl) rfl ?_;refine Z7 ?_;refine ae rfl rfl (t2) rfl rfl rfl rfl ?_;refine ah rfl (po _) rfl ?_;refine Z4 ?_;refine Z9 ?_;refine Z9 ?_;refine aa rfl (x_m RW.dc (i := 0) rfl rfl rfl rfl (by simp) rfl) rfl ?_;refine Z7 ?_;refine ae rfl rfl (t3) rfl rfl rfl rfl ?_;refine ah rfl (po _) rfl ?_;refine Z4 ?_;refine Z9 ?_;refine Z9 ?_;refine aa rfl (x_m RW.dc (i := 1) rfl rfl rfl rfl (by simp) rfl) rfl ?_;refine Z7 ?_;refine ae rfl rfl (t4) rfl rfl rfl rfl ?_;refine ah rfl (po _) rfl ?_;refine Z4 ?_;refine Z9 ?_;refine Z9 ?_;refine ae rfl rfl (cD) rfl rfl rfl rfl ?_;refine Z4 ?_;refine Z8 ?_;refine eQ Z ?_;clear Z;exact aj a6
end Go.Proofs.YtomlkgcfagnngaaGreatDoor

/- law27: Solves. No condition. -/
namespace Go.Proofs.YtomlkgcfagnngaaGreatDoor
attribute [local irreducible] au

end Go.Proofs.YtomlkgcfagnngaaGreatDoor

/- ref27: Factor in any order, Definite; law27: Factors. No condition. -/
namespace Go.Proofs.YtomlkgcfagnngaaGreatDoor
attribute [local irreducible] au

end Go.Proofs.YtomlkgcfagnngaaGreatDoor

/- ref27: Minor. No condition. -/
namespace Go.Proofs.YtomlkgcfagnngaaGreatDoor
attribute [local irreducible] au

end Go.Proofs.YtomlkgcfagnngaaGreatDoor

/- ref27: Det. No condition. -/
namespace Go.Proofs.YtomlkgcfagnngaaGreatDoor
attribute [local irreducible] au

end Go.Proofs.YtomlkgcfagnngaaGreatDoor

/- law27: Minors. No condition. -/
namespace Go.Proofs.YtomlkgcfagnngaaGreatDoor
attribute [local irreducible] au

end Go.Proofs.YtomlkgcfagnngaaGreatDoor

/- law27: brief, Gram. No condition. -/
namespace Go.Proofs.YtomlkgcfagnngaaGreatDoor
attribute [local irreducible] au

/-! ### brief -/
def Ad (m : List (List Int)) : Bool := decide (m.length <= 5 /\ ∀ r ∈ m, r.length <= 8)
/-! ### Gram -/

def dotI (r s : List Int) : Nat -> Int
 | 0 => 0
 | k + 1 => dotI r s k + r.getD k 0 * s.getD k 0
theorem Bm {x y : Int} (hx : I8 x) (hy : I8 y) : -16384 <= x * y /\ x * y <= 16384 := by
 obtain ⟨a, b⟩ := hx
 obtain ⟨c, d⟩ := hy
 have h1 : (x * y).natAbs <= 128 * 128 := by rw [Int.natAbs_mul]; exact Nat.mul_le_mul (by omega) (by omega)
 omega
theorem sS {r : List Int} (h : ∀ x ∈ r, I8 x) (k : Nat) : I8 (r.getD k 0) := by
 rcases Nat.lt_or_ge k r.length with hk | hk
 ·rw [List.getD_eq_getElem?_getD, List.getElem?_eq_getElem hk, Option.getD_some]; exact h _ (List.getElem_mem hk)
 ·rw [List.getD_eq_getElem?_getD, List.getElem?_eq_none hk, Option.getD_none]; exact ⟨by omega, by omega⟩
theorem s5 {r s : List Int} (hr : ∀ x ∈ r, I8 x) (hs : ∀ x ∈ s, I8 x) : ∀ k : Nat, -16384 * (k : Int) <= dotI r s k /\ dotI r s k <= 16384 * (k : Int)
 | 0 => ⟨by simp [dotI], by simp [dotI]⟩
 | k + 1 => by
  have h1 := s5 hr hs k
  have h2 := Bm (sS hr k) (sS hs k)
  simp only [dotI]
  omega
def gmE (rows : List (List Int)) (p : Bool) (i j : Nat) : Int := dotI (rows.getD i []) (rows.getD j []) (min (rows.getD i []).length (rows.getD j []).length) + if (decide (i = j) && p) = true then 1 else 0
def gmW (rows : List (List Int)) (p : Bool) : List (List RW) := bH rows.length rows.length fun i j => qzW (gmE rows p i j : Int)
end Go.Proofs.YtomlkgcfagnngaaGreatDoor

/- law27: products of rows as matrices; Satisfies. No condition. -/
namespace Go.Proofs.YtomlkgcfagnngaaGreatDoor
attribute [local irreducible] au

theorem mT {n : Nat} {B B' : Nat -> Nat -> Rat} {x : Nat -> Rat} (h : ∀ i j, i < n -> j < n -> B i j = B' i j) : fm n B x = fm n B' x :=
 av fun i hi => by rw [av fun j hj => by rw [h i j hi hj]]
def IsG (n : Nat) (B : Nat -> Nat -> Rat) (R : Nat -> Nat -> Rat) (u : Rat) : Prop := ∀ i j, i < n -> j < n -> B i j = gmM 8 R u i j
theorem IsG.sym {n : Nat} {B R : Nat -> Nat -> Rat} {u : Rat} (h : IsG n B R u) : ∀ i j, i < n -> j < n -> B i j = B j i := fun i j hi hj => by rw [h i j hi hj, h j i hj hi]; exact v8 8 R u i j
theorem IsG.nn {n : Nat} {B R : Nat -> Nat -> Rat} {u : Rat} (h : IsG n B R u) (hu : 0 <= u) (x : Nat -> Rat) : 0 <= fm n B x := by rw [mT h]; exact AV R hu x
theorem IsG.pd {n : Nat} {B R : Nat -> Nat -> Rat} {u : Rat} (h : IsG n B R u) (hu : 0 < u) {x : Nat -> Rat} (hx : ∃ i, i < n /\ x i ≠ 0) : 0 < fm n B x := by rw [mT h]; exact yL R hu hx
theorem IsG.DD {n : Nat} {B R : Nat -> Nat -> Rat} {u : Rat} (h : IsG n B R u) (hu : 0 < u) : ∀ k, k < n -> 0 < DD B k := vD h.sym fun _ hx => h.pd hu hx
theorem IsG.pos {n : Nat} {B R : Nat -> Nat -> Rat} {u : Rat} (h : IsG n B R u) (hu : 0 < u) : iP B n = true := decide_eq_true (h.DD hu)
def rwR (rows : List (List Int)) (i k : Nat) : Rat := ((rows.getD i []).getD k 0 : Int)
theorem s4 (r s : List Int) : ∀ k, ((dotI r s k : Int) : Rat) = sm k fun t => ((r.getD t 0 : Int) : Rat) * ((s.getD t 0 : Int) : Rat)
 | 0 => rfl
 | k + 1 => by rw [bz, <- s4 r s k]; simp only [dotI]; rw [Rat.intCast_add, Rat.intCast_mul]
theorem yc (r s : List Int) {k : Nat} (hk : min r.length s.length <= k) : dotI r s k = dotI r s (min r.length s.length) := by
 induction k with
 | zero => rw [show min r.length s.length = 0 by omega]
 | succ k ih =>
  by_cases e : min r.length s.length = k + 1
  ·rw [e]
  ·rw [<- ih (by omega)];simp only [dotI]
   rcases Nat.lt_or_ge k r.length with h | h
   ·have hs : s.length <= k := by omega
    rw [List.getD_eq_getElem?_getD (l := s), List.getElem?_eq_none hs, Option.getD_none]; omega
   ·rw [List.getD_eq_getElem?_getD (l := r), List.getElem?_eq_none h, Option.getD_none]; omega
theorem AW {rows : List (List Int)} (hr : ∀ r ∈ rows, r.length <= 8) (p : Bool) (i j : Nat) : ((gmE rows p i j : Int) : Rat) = sm 8 (fun k => rwR rows i k * rwR rows j k) + if (decide (i = j) && p) = true then 1 else 0 := by
 have h8 : ∀ i, (rows.getD i []).length <= 8 := fun i => by
  rcases Nat.lt_or_ge i rows.length with h | h
  ·rw [List.getD_eq_getElem?_getD, List.getElem?_eq_getElem h, Option.getD_some]; exact hr _ (List.getElem_mem h)
  ·rw [List.getD_eq_getElem?_getD, List.getElem?_eq_none h]; exact Nat.zero_le _
 have := h8 i
 rw [gmE, Rat.intCast_add, <- yc (k := 8) _ _ (by omega), s4]
 congr 1
 split <;> rfl
section
variable {rows : List (List Int)} {p : Bool}
theorem pf : (gmW rows p).length = rows.length := ic _ _ _
theorem AT {i j : Nat} (hi : i < rows.length) (hj : j < rows.length) : cw (gmW rows p) i j = ((gmE rows p i j : Int) : Rat) := by
 unfold cw gmW; rw [iE hi hj, bp]
theorem AU (hr : ∀ r ∈ rows, r.length <= 8) : IsG rows.length (cw (gmW rows p)) (rwR rows) (if p = true then 1 else 0) := fun i j hi hj => by
 rw [AT hi hj, AW hr, gmM]
 congr 1
 cases p <;> by_cases h : i = j <;> simp [h]
theorem Bq (hl : rows.length <= 5) (hr : ∀ r ∈ rows, r.length <= 8) : bI (gmW rows p) = true := by
 refine decide_eq_true ⟨by rw [pf]; omega, fun r hr' => ?_, fun i hi j hj => ?_⟩
 ·obtain ⟨i, _, rfl⟩ := List.mem_map.1 hr'
  rw [pf, ez]
 ·rw [pf] at hi;exact (AU hr).sym i j hi (by omega)
theorem zN (hr : ∀ r ∈ rows, r.length <= 8) (h8 : ∀ r ∈ rows, ∀ x ∈ r, I8 x) (i j : Nat) : -140000 <= gmE rows p i j /\ gmE rows p i j <= 140000 := by
 have g8 : ∀ i, (∀ x ∈ rows.getD i [], I8 x) /\ (rows.getD i []).length <= 8 := fun i => by
  rcases Nat.lt_or_ge i rows.length with h | h
  ·rw [List.getD_eq_getElem?_getD, List.getElem?_eq_getElem h, Option.getD_some]; exact ⟨h8 _ (List.getElem_mem h), hr _ (List.getElem_mem h)⟩
  ·rw [List.getD_eq_getElem?_getD, List.getElem?_eq_none h]; exact ⟨fun x hx => by simp at hx, Nat.zero_le _⟩
 have h1 := s5 (g8 i).1 (g8 j).1 (min (rows.getD i []).length (rows.getD j []).length)
 have h2 := (g8 i).2
 unfold gmE
 split <;> omega
theorem AS (hr : ∀ r ∈ rows, r.length <= 8) (h8 : ∀ r ∈ rows, ∀ x ∈ r, I8 x) : okM 2 (gmW rows p) := fun r hr' x hx => by
 obtain ⟨i, _, rfl⟩ := List.mem_map.1 hr'
 obtain ⟨j, _, rfl⟩ := List.mem_map.1 hx
 have := zN (p := p) hr h8 i j
 exact (bg (vr ⟨by omega, by omega⟩)).mono rfl
theorem xX : ∀ r ∈ gmW rows p, r.length = rows.length := fun r hr => by
 obtain ⟨i, _, rfl⟩ := List.mem_map.1 hr
 exact ez _ _
end
structure GWF (rows : List (List Int)) (p : Bool) : Prop where
 n5 : rows.length <= 5
 len : (gmW rows p).length = rows.length
 rw : ∀ r ∈ gmW rows p, r.length = rows.length
 v : bI (gmW rows p) = true
 ok : okM 2 (gmW rows p)
 G : IsG rows.length (cw (gmW rows p)) (rwR rows) (if p = true then 1 else 0)
theorem GWF.of {rows : List (List Int)} (hb : Ad rows = true) (hw : ∀ r ∈ rows, L8 r) (p : Bool) : GWF rows p := by
 obtain ⟨h5, hr⟩ := of_decide_eq_true hb
 have h8 : ∀ r ∈ rows, ∀ x ∈ r, I8 x := fun r hr' => (hw r hr').1
 exact ⟨h5, pf, xX, Bq h5 hr, AS hr h8, AU hr⟩
end Go.Proofs.YtomlkgcfagnngaaGreatDoor

/- law27: Sylvester. No condition. -/
namespace Go.Proofs.YtomlkgcfagnngaaGreatDoor
attribute [local irreducible] au

theorem iJ {T : Tab} {t : TypeId} {a b : Int} {c : Bool} (h : decide (a > b) = c) : aB T .gtr t (dI a) (dI b) = .set (dB c) := by subst h; rfl
end Go.Proofs.YtomlkgcfagnngaaGreatDoor

/- law27: Positive. No condition. -/
namespace Go.Proofs.YtomlkgcfagnngaaGreatDoor
attribute [local irreducible] au

theorem jP {T : Tab} {t : TypeId} {a b : Int} {c : Bool} (h : decide (a < b) = c) : aB T .lss t (dI a) (dI b) = .set (dB c) := by subst h; rfl
theorem lP {T : Tab} {t : TypeId} {a b : Int} {c : Bool} (h : decide (a >= b) = c) : aB T .geq t (dI a) (dI b) = .set (dB c) := by subst h; rfl
theorem jQ {T : Tab} {t : TypeId} {a b : Int} {c : Bool} (h : (a == b) = c) : aB T .eql t (dI a) (dI b) = .set (dB c) := by subst h; rfl
end Go.Proofs.YtomlkgcfagnngaaGreatDoor

/- law27: permute. No condition. -/
namespace Go.Proofs.YtomlkgcfagnngaaGreatDoor
attribute [local irreducible] au

theorem tZ (n : Nat) (hn : n <= 1048576) : Con Tryz.prog 28 [dI n] { v := .val (.one (.own 0 1 0 n)), ob := some (1, nmD n fun i => i) } := by
 refine Z3 Tryz.func28 ?_
 intro w0 X
 rw [ak _ _ [(0, dI n)] rfl rfl];refine gQ fun _ Z=>?_;refine Z8 ?_;refine eQ Z ?_;clear Z;refine gQ fun _ Z=>?_;refine Z9 ?_;refine bn (sz := _) (es := _) (f := _) (v := _) rfl (vP (l := n) rfl rfl rfl rfl rfl (Nat.le_of_ble_eq_true rfl) (by decide) rfl rfl (by omega)) rfl rfl ?_;refine Z8 ?_;refine eQ Z ?_;clear Z;refine ab ?_;refine gQ fun _ Z=>?_;refine Z8 ?_;refine eQ Z ?_;clear Z;refine ac (aG (α := Nat) (fun s => mk 17 [(0, dI n), (3, .val (.one (.own 6 1 0 n))), (4, dI s)] [(6, some (.arr 1 (nmD n (idS s))))] []) (fun s => s <= n) (fun s => n - s) 0 ?_ (Nat.zero_le _) ?_)
 ·exact Wk.mk' ⟨rfl, rfl, rfl, trivial⟩ ⟨congrArg (fun x => some (OO.arr 1 x)) (show List.replicate n (cN 0) = nmD n (idS 0) by simp [nmD, idS, List.map_const']), trivial⟩
 intro s hs
 refine ab ?_;refine gQ fun _ Z=>?_;refine Z9 ?_;refine Z9 ?_;refine Z6 ?_;refine eQ Z ?_;clear Z;refine ai rfl (fun hf => ?_) (fun hf => ?_)
 ·have hf : s < n := by simp at hf; omega
  refine ag ?_;show AWP _ _ _ _ _ _;refine ab ?_;refine ac ?_;refine gR fun _ Z=>?_;refine Z9 ?_;refine Z9 ?_;refine Z9 ?_;refine aa rfl (x_o (i := s) (j := s) rfl rfl rfl rfl rfl hf (Nat.zero_add _)) rfl ?_;refine am rfl (ns (ds := cN s) rfl rfl (by simpa [nmD] using hf) (fun el h => by simp [nmD, hf] at h; cases h; rfl) rfl rfl rfl) rfl rfl rfl ?_;refine eQ Z ?_;clear Z
  have e : (nmD n (idS s)).set s (cN s) = nmD n (idS (s + 1)) := by
   apply List.ext_getElem?
   intro k
   rw [List.getElem?_set]
   by_cases hk : s = k
   ·subst hk
    rw [if_pos rfl]
    simp [nmD, hf, idS]
   ·rw [if_neg hk]
    rcases Nat.lt_or_ge k n with hn' | hn'
    ·have e1 : (nmD n (idS s))[k]? = some (cN (idS s k)) := by simp [nmD, hn']
     have e2 : (nmD n (idS (s + 1)))[k]? = some (cN (idS (s + 1) k)) := by simp [nmD, hn']
     rw [e1, e2]
     have e3 : idS s k = idS (s + 1) k := by
      unfold idS
      by_cases h : k < s
      ·rw [if_pos h, if_pos (by omega)]
      ·rw [if_neg h, if_neg (by omega)]
     rw [e3]
    ·rw [List.getElem?_eq_none (by simp [nmD]; omega), List.getElem?_eq_none (by simp [nmD]; omega)]
  rw [e];show AWP _ _ _ _ _ _;refine gR fun _ Z=>?_;refine Z9 ?_;refine ah rfl (aC (c := ((s + 1 : Nat) : Int)) (by omega) (by omega)) rfl ?_;refine Z8 ?_;refine eQ Z ?_;clear Z;exact ⟨s + 1, by omega, hf, Wk.mk' ⟨rfl, rfl, rfl, trivial⟩ ⟨rfl, trivial⟩⟩
 have hf : s = n := by simp at hf; omega
 subst hf
 have e : nmD s (idS s) = nmD s fun i => i := List.map_congr_left fun i hi => by
  have := List.mem_range.1 hi
  simp [idS, this]
 rw [e];refine aw ?_;show AWP _ _ _ _ _ _;refine gQ fun _ Z=>?_;refine Z9 ?_;refine Z8 ?_;refine eQ Z ?_;clear Z;refine aj ?_;exact mw (pg (by rfl) rfl)
def pmE (n : Nat) (cs : List Nat) : Nat -> Nat -> Nat
 | 0 => fun i => i
 | s + 1 => fun i => pmE n cs s (swp s (s + cs.getD s 0 % (n - s)) i)
def my (n : Nat) (cs : List Nat) : Nat -> Nat := pmE n cs (min n cs.length)
theorem sF {n c s : Nat} (h : s < n) : s + c % (n - s) < n := by have := Nat.mod_lt c (show n - s > 0 by omega); omega
theorem vB (n : Nat) (cs : List Nat) : ∀ s, s <= n -> ∀ i, i < n -> pmE n cs s i < n
 | 0, _, _, hi => hi
 | s + 1, hs, i, hi => vB n cs s (by omega) _ (oE (by omega) (sF (by omega)) hi)
theorem sG (n : Nat) (cs : List Nat) : ∀ s, s <= n -> ∀ i j, i < n -> j < n -> pmE n cs s i = pmE n cs s j -> i = j
 | 0, _, _, _, _, _, e => e
 | s + 1, hs, i, j, hi, hj, e => by
  have h1 := sG n cs s (by omega) _ _ (oE (by omega) (sF (by omega)) hi) (oE (by omega) (sF (by omega)) hj) e
  have := congrArg (swp s (s + cs.getD s 0 % (n - s))) h1
  rwa [sc, sc] at this
theorem vC (n : Nat) (cs : List Nat) : ∀ i, i < n -> my n cs i < n := vB n cs _ (Nat.min_le_left _ _)
theorem tL (n : Nat) (cs : List Nat) : ∀ i j, i < n -> j < n -> my n cs i = my n cs j -> i = j := sG n cs _ (Nat.min_le_left _ _)
theorem mC {n i : Nat} {e : Nat -> Nat} (h : i < n) : (nmD n e)[i]? = some (cN (e i)) := by simp [nmD, h]
theorem AJ {n i j x : Nat} {e : Nat -> Nat} {el : List DC} (h : ((nmD n e).set i (cN x))[j]? = some el) : el.length = 1 := by
 rw [List.getElem?_set] at h
 split at h
 ·split at h
  ·cases h; rfl
  ·cases h
 ·simp only [nmD, List.getElem?_map] at h
  cases hr : (List.range n)[j]? with
  | none => rw [hr] at h; cases h
  | some v => rw [hr] at h; cases h; rfl
theorem xM {n i k : Nat} {e : Nat -> Nat} (hi : i < n) (hk : k < n) : ((nmD n e).set i (cN (e k))).set k (cN (e i)) = nmD n fun j => e (swp i k j) := by
 apply List.ext_getElem?
 intro j
 rw [List.getElem?_set, List.getElem?_set, List.length_set]
 have hl : (nmD n e).length = n := by simp [nmD]
 rcases Nat.lt_or_ge j n with hj | hj
 ·rw [mC hj, mC hj, hl]
  by_cases e1 : k = j
  ·subst e1
   rw [if_pos rfl, if_pos hk]
   congr 3
   unfold swp
   by_cases e2 : k = i
   ·rw [if_pos e2, e2]
   ·rw [if_neg e2, if_pos rfl]
  ·rw [if_neg e1]
   by_cases e2 : i = j
   ·subst e2
    rw [if_pos rfl, if_pos hi]
    congr 3
    unfold swp; rw [if_pos rfl]
   ·rw [if_neg e2]
    congr 3
    unfold swp; rw [if_neg (Ne.symm e2), if_neg (Ne.symm e1)]
 ·rw [if_neg (by omega), if_neg (by omega), List.getElem?_eq_none (by omega), List.getElem?_eq_none (by simp [nmD]; omega)]
set_option maxHeartbeats 1000000 in
theorem tK (n : Nat) (cs : List Nat) (hn : n <= 1048576) (h8 : ∀ c ∈ cs, c < 256) : Con Tryz.prog 8 [dI n, V1 (dB8 cs)] { v := V1 (.sl (nmD n (my n cs))) } := by
 refine Z3 Tryz.func8 ?_
 intro w0 X
 rw [ak _ _ [(0, dI n), (1, V1 (dB8 cs))] rfl rfl];refine gQ fun _ Z=>?_;refine Z8 ?_;refine eQ Z ?_;clear Z;refine gQ fun _ Z=>?_;refine Z9 ?_;refine oN rfl rfl (tZ n hn) (Or.inl rfl) rfl rfl rfl rfl ?_;refine Z8 ?_;refine eQ Z ?_;clear Z;refine ab ?_;refine gQ fun _ Z=>?_;refine Z8 ?_;refine eQ Z ?_;clear Z;refine ac (aG (α := Nat) (fun i => mk 47 [(0, dI n), (1, V1 (dB8 cs)), (5, .val (.one (.own 9 1 0 n))), (6, dI i)] [(9, some (.arr 1 (nmD n (pmE n cs i))))] []) (fun i => i <= min n cs.length) (fun i => n - i) 0 ?_ (Nat.zero_le _) ?_)
 ·exact Wk.mk' ⟨rfl, rfl, rfl, rfl, trivial⟩ ⟨rfl, trivial⟩
 intro i hi
 refine ab ?_;refine cH (α := Bool) (fun c => mk 47 [(0, dI n), (1, V1 (dB8 cs)), (5, .val (.one (.own 9 1 0 n))), (6, dI i), (18, dB c)] [(9, some (.arr 1 (nmD n (pmE n cs i))))] []) (fun c => c = decide (i < n /\ i < cs.length)) ?_ ?_
 ·refine iv fun _ Z=>?_;refine aK tok rfl ?_;refine Z9 ?_;refine bb ?_;refine aK tok rfl ?_;refine Z9 ?_;refine bb ?_;refine aK tok rfl ?_;refine Z6 ?_;refine bb ?_;refine aK tok rfl ?_;refine Z9 ?_;refine bb ?_;refine sb (fun h0 => ?_) (fun h0 => ?_)
  ·refine aK tok rfl ?_;refine Z9 ?_;refine bb ?_;refine aK tok rfl ?_;refine Z9 ?_;refine bb ?_;refine aK tok rfl ?_;refine az rfl (de b8 rfl rfl) rfl ?_;refine bb ?_;refine aK tok rfl ?_;refine Z6 ?_;refine bb ?_;refine aK tok rfl ?_;refine Z4 ?_;refine bb ?_;refine kC rfl (Z _ ?_); clear Z;exact ⟨_, (by simp only [decide_eq_true_eq, decide_eq_false_iff_not] at h0; rw [Bool.eq_iff_iff]; simp only [decide_eq_true_eq, reduceCtorEq, false_iff]; omega), Wk.mk' ⟨rfl, rfl, rfl, rfl, rfl, trivial⟩ ⟨rfl, trivial⟩⟩
  ·refine gn rfl rfl ?_;refine gn rfl rfl ?_;refine gn rfl rfl ?_;refine gn rfl rfl ?_;refine aK tok rfl ?_;refine Z4 ?_;refine bb ?_;refine kC rfl (Z _ ?_); clear Z;exact ⟨_, (by simp only [decide_eq_true_eq, decide_eq_false_iff_not] at h0; rw [Bool.eq_iff_iff]; simp only [decide_eq_true_eq, reduceCtorEq, false_iff]; omega), Wk.mk' ⟨rfl, rfl, rfl, rfl, rfl, trivial⟩ ⟨rfl, trivial⟩⟩
 rintro c rfl
 refine ai rfl (fun hc => ?_) (fun hc => ?_)
 ·obtain ⟨hin, hil⟩ := of_decide_eq_true hc
  have hb := h8 _ (List.getElem_mem hil)
  have eg : cs.getD i 0 = cs[i] := by rw [List.getD_eq_getElem?_getD, List.getElem?_eq_getElem hil]; rfl
  obtain ⟨k, hk⟩ : ∃ k, k = i + cs[i] % (n - i) := ⟨_, rfl⟩
  have hkn : k < n := by rw [hk]; exact sF hin
  have hmod := Nat.mod_lt cs[i] (show n - i > 0 by omega)
  have hw : IntKind.i64.wrap ((cs[i] : Nat) : Int) = ((cs[i] : Nat) : Int) := by
   simp [IntKind.wrap, IntKind.bits, IntKind.signed]
   omega
  have es : nmD n (pmE n cs (i + 1)) = nmD n fun j => pmE n cs i (swp i k j) := by
   refine List.map_congr_left fun j _ => ?_;simp only [pmE]; rw [eg, <- hk]
  have hl : (nmD n (pmE n cs i)).length = n := by simp [nmD]
  refine ag ?_;show AWP _ _ _ _ _ _;refine ab ?_;refine ac ?_;refine gQ fun _ Z=>?_;refine Z9 ?_;refine Z9 ?_;refine Z9 ?_;refine aa rfl (x_m b8 rfl rfl rfl rfl hil rfl) rfl ?_;refine Z7 ?_;refine aL rfl (aM rfl rfl rfl hw) rfl ?_;refine Z9 ?_;refine Z9 ?_;refine ah rfl (bZ (c := ((n - i : Nat) : Int)) (by omega) (by omega)) rfl ?_;refine ah rfl (zX (x := cs[i]) (y := n - i) (z := cs[i] % (n - i)) (by omega) (by omega) rfl) rfl ?_;refine ah rfl (aC (c := ((k : Nat) : Int)) (by omega) (by omega)) rfl ?_;refine Z8 ?_;refine eQ Z ?_;clear Z;refine ck tok mixed (A := [[], [], [], [], [], [], [], [4, 5], [], [], [], [8, 9], [8, 9, 10], [8, 9, 10], [], []]) (an := [{}, {}, {}, {}, {}, {}, {}, {}, {}, {}, {}, {}, {}, {}, {}, {}]) rfl (by kernel_rfl) rfl fun _ Z=>?_;refine Z9 ?_;refine Z9 ?_;refine Z9 ?_;refine Z9 ?_;refine Z9 ?_;refine Z9 ?_;refine aa rfl (x_o (i := k) (j := k) rfl rfl rfl rfl rfl hkn (Nat.zero_add _)) rfl ?_;refine aR rfl (l_o rfl rfl (mC hkn) rfl rfl) rfl ?_;refine Z9 ?_;refine Z9 ?_;refine aa rfl (x_o (i := i) (j := i) rfl rfl rfl rfl rfl hin (Nat.zero_add _)) rfl ?_;refine aR rfl (l_o rfl rfl (mC hin) rfl rfl) rfl ?_;refine aa rfl (x_o (i := i) (j := i) rfl rfl rfl rfl rfl hin (Nat.zero_add _)) rfl ?_;refine am rfl (ns (ds := cN (pmE n cs i k)) rfl rfl (by rw [hl]; exact hin) (fun el h => by rw [mC hin] at h; cases h; rfl) rfl rfl rfl) rfl rfl rfl ?_;refine aa rfl (x_o (i := k) (j := k) rfl rfl rfl rfl rfl hkn (Nat.zero_add _)) rfl ?_;refine am rfl (ns (ds := cN (pmE n cs i i)) rfl rfl (by rw [List.length_set, hl]; exact hkn) (fun el h => AJ h) rfl rfl rfl) rfl rfl rfl ?_;refine eQ Z ?_;clear Z;rw [xM hin hkn, <- es];show AWP _ _ _ _ _ _;refine gR fun _ Z=>?_;refine Z9 ?_;refine ah rfl (aC (c := ((i + 1 : Nat) : Int)) (by omega) (by omega)) rfl ?_;refine Z8 ?_;refine eQ Z ?_;clear Z;exact ⟨i + 1, by omega, by omega, Wk.mk' ⟨rfl, rfl, rfl, rfl, trivial⟩ ⟨rfl, trivial⟩⟩
 have hc := of_decide_eq_false hc
 have ei : i = min n cs.length := by omega
 have e : pmE n cs i = my n cs := by rw [ei]; rfl
 rw [e];refine aw ?_;show AWP _ _ _ _ _ _;refine ew [5] [9] 9 [(5, V1 (.sl (nmD n (my n cs))))] [] rfl ?_ trivial ?_
 ·exact ⟨bR rfl (by simp [nmD]), trivial⟩
 refine gQ fun _ Z=>?_;refine Z9 ?_;refine Z8 ?_;refine eQ Z ?_;clear Z;exact aj a6
end Go.Proofs.YtomlkgcfagnngaaGreatDoor

/- law27: Product. No condition. -/
namespace Go.Proofs.YtomlkgcfagnngaaGreatDoor
attribute [local irreducible] au

theorem zE {n : Nat} {e : Nat -> Nat} (h1 : ∀ i, i < n -> e i < n) (h2 : ∀ i j, i < n -> j < n -> e i = e j -> i = j) : iQ n (nmI n e) = true := by
 have hl : (nmI n e).length = n := by simp [nmI]
 have at_ : ∀ i (h : i < (nmI n e).length), (nmI n e)[i] = (e i : Int) := fun i h => by simp [nmI]
 refine decide_eq_true ⟨hl, fun i hi => ?_⟩
 have hin : i < n := by omega
 have h3 := h1 i hin
 refine ⟨by rw [at_]; omega, by rw [at_]; omega, ?_⟩;refine gA.1 ?_ i hi;refine List.pairwise_iff_getElem.2 fun a b ha hb hab e' => ?_;rw [at_, at_] at e'
 have := h2 a b (by omega) (by omega) (by omega)
 omega
theorem AK {n : Nat} {e : Nat -> Nat} {i : Nat} (hi : i < n) : ordFn (nmI n e) i = e i := by
 unfold ordFn nmI
 rw [List.getD_eq_getElem?_getD, List.getElem?_eq_getElem (by simp; exact hi)]
 simp
end Go.Proofs.YtomlkgcfagnngaaGreatDoor

/- law27: Renumbers. No condition. -/
namespace Go.Proofs.YtomlkgcfagnngaaGreatDoor
attribute [local irreducible] au

end Go.Proofs.YtomlkgcfagnngaaGreatDoor

/- The tables of numbers that a row's premise lays. No condition. -/
namespace Go.Proofs.YtomlkgcfagnngaaGreatDoor
open Go.ChangeShapes Go.WideShapes Go.ChangeAt Go.RowKit
theorem sQ {P : Program} {w : World} : ∀ {l : List (String × DataW Unit)} {ps : List MemPlace}, DataW.LaidVars P w l ps -> ∀ {n : String} {d : DataW Unit}, (n, d) ∈ l ->
  ∃ l' ps', DataW.LaidVars P w ((n, d) :: l') ps'
 | [], _, _, n, d, hm => by cases hm
 | (n0, d0) :: r, ps, h, n, d, hm => by
  rcases List.mem_cons.1 hm with e | hm
  ·cases e; exact ⟨r, ps, h⟩
  ·obtain ⟨g, t, cs, fuel, p, q, e1, e2, e3, e4, hr, rfl⟩ := h
   exact sQ hr hm
theorem qp {P : Program} {W : World} {l : List (String × DataW Unit)} {n : String} {g t te N : Nat} {nums : List Nat} (h : laidMetH P l W)
  (hm : (n, (.agg (nums.map fun (z : Nat) => .lit (.int .u8 (z : Int))) : DataW Unit)) ∈ l) (hg : P.globalNamed n = some g) (ht : (P.globals[g]?).map (·.type) = some t)
  (hu : P.underlying t = some (.array N te)) (hu8 : P.underlying te = some (.int .u8)) (c5 : P.cellsOf te = 1) (hN : nums.length = N) (h0 : 0 < N) :
  g < W.heap.size /\ ∀ j, j < nums.length -> W.cell? ⟨g, j, none⟩ = some (.int .u8 (nums.getD j 0)) := by
 have key : ∀ j, j < nums.length -> W.cell? ⟨g, j, none⟩ = some (.int .u8 (nums.getD j 0)) := by
  obtain ⟨⟨ps0, hL, _, _⟩, _⟩ := laidMetH_iff.1 h
  obtain ⟨l', ps, g', t', cs, fuel, p, q, hg', ht', hv, hd, _, _⟩ := sQ hL (List.mem_filter.2 ⟨hm, rfl⟩)
  obtain rfl := Option.some.inj (hg.symm.trans hg')
  obtain rfl := Option.some.inj (ht.symm.trans ht')
  obtain ⟨xs, m, _, ex, _, hl, hel⟩ := DataW.trod_array hu hd
  intro r hr
  have hE := hel r (by omega)
  rw [c5, Nat.mul_one, List.getElem?_eq_getElem (by omega)] at hE
  obtain ⟨z, e1, e2, _⟩ := DataW.trod_int hu8 hE
  have e3 : (xs.map (·.1)) = nums.map fun (n : Nat) => .lit (.int .u8 (n : Int)) := (DataW.agg.inj (Prod.mk.inj ex).1).symm
  have e4 : (xs.map (·.1))[r]? = (nums.map fun (n : Nat) => (DataW.lit (.int .u8 (n : Int)) : DataW Unit))[r]? := by rw [e3]
  rw [List.getElem?_map, List.getElem?_map, List.getElem?_eq_getElem (by omega : r < xs.length), List.getElem?_eq_getElem hr, e2] at e4
  have hz : z = ((nums.getD r 0 : Nat) : Int) := by
   simp only [Option.map_some, Option.some.injEq, DataW.lit.injEq, Lit.int.injEq, true_and] at e4;rw [e4, List.getD, List.getElem?_eq_getElem hr]; rfl
  rw [World.var?_cell hg hv r, <- hz]
  have : cs.toList[r]? = some (.int .u8 z) := by
   have h0 : ((cs.toList.drop r).take 1)[0]? = some (.int .u8 z) := by rw [e1]; rfl
   simpa using h0
  simpa using this
 refine ⟨?_, key⟩
 have := key 0 (by omega)
 unfold World.cell? at this
 split at this
 ·rename_i hh
  rcases Nat.lt_or_ge g W.heap.size with hlt | hge
  ·exact hlt
  ·rw [Array.getElem?_eq_none hge] at hh; cases hh
 ·cases this
end Go.Proofs.YtomlkgcfagnngaaGreatDoor

/- Patterns: rising pairs, their sets of neighbours. No condition. -/
namespace Go.Proofs.YtomlkgcfagnngaaGreatDoor

def prD (p : Nat × Nat) : List DC := [lI p.1, lI p.2]
structure OKp (n : Nat) (ps : List (Nat × Nat)) : Prop where
 n64 : n <= 64
 b : ∀ p ∈ ps, p.1 < p.2 /\ p.2 < n
 up : ∀ i (h : i + 1 < ps.length), ps[i].1 < ps[i + 1].1 \/ ps[i].1 = ps[i + 1].1 /\ ps[i].2 < ps[i + 1].2
theorem Ax (x v : Nat) : x / 2 ^ v &&& 1 = if x.testBit v = true then 1 else 0 := by
 rw [Nat.and_one_is_mod]
 have := Nat.toNat_testBit x v
 rw [<- this]
 cases x.testBit v <;> rfl
def eu (ps : List (Nat × Nat)) : Nat -> Nat -> Nat
 | 0, _ => 0
 | k + 1, w => let p := ps.getD k (0, 0)
  let g := eu ps k
  let g1 := fun w => if w = p.1 then g w ||| 2 ^ p.2 else g w
  if w = p.2 then g1 w ||| 2 ^ p.1 else g1 w
theorem jS {n : Nat} {ps : List (Nat × Nat)} (ok : OKp n ps) : ∀ k w, eu ps k w < 2 ^ 64
 | 0, w => by show 0 < 2 ^ 64; exact Nat.pow_pos (by decide)
 | k + 1, w => by
  have h := jS ok k w
  have n64 := ok.n64
  have hp : (ps.getD k (0, 0)).1 < 64 /\ (ps.getD k (0, 0)).2 < 64 := by
   rcases Nat.lt_or_ge k ps.length with hk | hk
   ·have hp := ok.b _ (List.getElem_mem hk)
    have e : ps.getD k (0, 0) = ps[k] := by rw [List.getD_eq_getElem?_getD, List.getElem?_eq_getElem hk]; rfl
    rw [e]; exact ⟨by omega, by omega⟩
   ·have e : ps.getD k (0, 0) = (0, 0) := by rw [List.getD_eq_getElem?_getD, List.getElem?_eq_none hk]; rfl
    rw [e]; exact ⟨by decide, by decide⟩
  have a := iM hp.1
  have b := iM hp.2
  simp only [eu]
  split
  ·split
   ·exact ip (ip h b) a
   ·exact ip h a
  ·split
   ·exact ip h b
   ·exact h
def prR (q : Nat -> Nat -> Bool) (a : Nat) : Nat -> List (Nat × Nat)
 | 0 => []
 | b + 1 => prR q a b ++ if a < b /\ q a b = true then [(a, b)] else []
def prP (q : Nat -> Nat -> Bool) (n : Nat) : Nat -> List (Nat × Nat)
 | 0 => []
 | a + 1 => prP q n a ++ prR q a n
theorem vz (q : Nat -> Nat -> Bool) (a : Nat) : ∀ b, b <= a + 1 -> prR q a b = []
 | 0, _ => rfl
 | b + 1, h => by rw [prR, vz q a b (by omega), if_neg (by omega)]; rfl
theorem lN {q : Nat -> Nat -> Bool} {a : Nat} {p : Nat × Nat} : ∀ {n}, p ∈ prR q a n ↔ p.1 = a /\ a < p.2 /\ p.2 < n /\ q a p.2 = true
 | 0 => by simp [prR]
 | n + 1 => by
  rw [prR, List.mem_append, lN (n := n)]
  constructor
  ·rintro (h | h)
   ·exact ⟨h.1, h.2.1, by omega, h.2.2.2⟩
   ·split at h
    ·rename_i hc
     rw [List.mem_singleton] at h
     subst h
     exact ⟨rfl, hc.1, by show n < n + 1; omega, hc.2⟩
    ·cases h
  ·rintro ⟨h1, h2, h3, h4⟩
   by_cases e : p.2 = n
   ·right
    rw [<- e, if_pos ⟨h2, h4⟩, List.mem_singleton]
    obtain ⟨x, y⟩ := p
    simp only at h1; rw [h1]
   ·exact Or.inl ⟨h1, h2, by omega, h4⟩
theorem jD {q : Nat -> Nat -> Bool} {n : Nat} {p : Nat × Nat} : ∀ {m}, p ∈ prP q n m ↔ p.1 < m /\ p.1 < p.2 /\ p.2 < n /\ q p.1 p.2 = true
 | 0 => by simp [prP]
 | m + 1 => by
  rw [prP, List.mem_append, jD (m := m), lN]
  constructor
  ·rintro (h | ⟨h1, h2, h3, h4⟩)
   ·exact ⟨by omega, h.2⟩
   ·exact ⟨by omega, by omega, h3, by rw [h1]; exact h4⟩
  ·rintro ⟨h1, h2, h3, h4⟩
   by_cases e : p.1 = m
   ·right; exact ⟨e, by omega, h3, by rw [<- e]; exact h4⟩
   ·left; exact ⟨by omega, h2, h3, h4⟩
def AO (p r : Nat × Nat) : Prop := p.1 < r.1 \/ p.1 = r.1 /\ p.2 < r.2
theorem qd (q : Nat -> Nat -> Bool) (a : Nat) : ∀ n, (prR q a n).Pairwise AO
 | 0 => List.Pairwise.nil
 | n + 1 => by
  rw [prR, List.pairwise_append];refine ⟨qd q a n, by split <;> simp, fun x hx y hy => ?_⟩
  split at hy
  ·rw [List.mem_singleton] at hy
   subst hy
   have := lN.1 hx
   exact Or.inr ⟨this.1, this.2.2.1⟩
  ·cases hy
theorem qe (q : Nat -> Nat -> Bool) (n : Nat) : ∀ m, (prP q n m).Pairwise AO
 | 0 => List.Pairwise.nil
 | m + 1 => by
  rw [prP, List.pairwise_append];refine ⟨qe q n m, qd q m n, fun x hx y hy => ?_⟩
  have h1 := jD.1 hx
  have h2 := lN.1 hy
  exact Or.inl (by omega)
theorem zu (q : Nat -> Nat -> Bool) {n : Nat} (hn : n <= 64) (m : Nat) : OKp n (prP q n m) where
 n64 := hn
 b := fun p hp => by have := jD.1 hp; exact ⟨this.2.1, this.2.2.1⟩
 up := fun i h => List.pairwise_iff_getElem.1 (qe q n m) i (i + 1) (by omega) h (by omega)
theorem lK (q : Nat -> Nat -> Bool) (a : Nat) : ∀ b, (prR q a b).length <= b
 | 0 => Nat.le_refl _
 | b + 1 => by
  have := lK q a b
  rw [prR, List.length_append]
  split <;> simp <;> omega
theorem jz (q : Nat -> Nat -> Bool) (n : Nat) : ∀ a, (prP q n a).length <= a * n
 | 0 => by simp [prP]
 | a + 1 => by
  have := jz q n a
  have := lK q a n
  rw [prP, List.length_append, Nat.succ_mul]; omega
theorem s6 {n : Nat} {ps : List (Nat × Nat)} (ok : OKp n ps) (a b : Nat) : ∀ k, k <= ps.length -> ((eu ps k a).testBit b = true ↔ (a, b) ∈ ps.take k \/ (b, a) ∈ ps.take k)
 | 0, _ => by simp [eu]
 | k + 1, hk => by
  have ih := s6 ok a b k (by omega)
  have e : ps.getD k (0, 0) = ps[k] := by rw [List.getD_eq_getElem?_getD, List.getElem?_eq_getElem (by omega)]; rfl
  have hp := ok.b _ (List.getElem_mem (show k < ps.length by omega))
  have et : ps.take (k + 1) = ps.take k ++ [ps[k]] := by rw [List.take_add_one, List.getElem?_eq_getElem (by omega)]; rfl
  rw [et, List.mem_append, List.mem_append, List.mem_singleton, List.mem_singleton];simp only [eu, e];generalize ps[k] = p at hp ⊢
  obtain ⟨x, y⟩ := p
  simp only [Prod.mk.injEq]
  have tx : (2 ^ x).testBit b = decide (x = b) := lZ x b
  have ty : (2 ^ y).testBit b = decide (y = b) := lZ y b
  by_cases h1 : a = y
  ·rw [if_pos h1]
   by_cases h2 : a = x
   ·rw [if_pos h2, Nat.testBit_or, Nat.testBit_or, tx, ty];simp only [Bool.or_eq_true, decide_eq_true_eq, ih]
    constructor
    ·rintro ((h | h) | h)
     ·rcases h with h | h <;> simp [h]
     ·omega
     ·omega
    ·rintro ((h | h) | (h | h))
     ·simp [h]
     ·omega
     ·simp [h]
     ·omega
   ·rw [if_neg h2, Nat.testBit_or, tx];simp only [Bool.or_eq_true, decide_eq_true_eq, ih]
    constructor
    ·rintro (h | h)
     ·rcases h with h | h <;> simp [h]
     ·right; right; exact ⟨h.symm, h1⟩
    ·rintro ((h | h) | (h | h))
     ·simp [h]
     ·omega
     ·simp [h]
     ·right; omega
  ·rw [if_neg h1]
   by_cases h2 : a = x
   ·rw [if_pos h2, Nat.testBit_or, ty];simp only [Bool.or_eq_true, decide_eq_true_eq, ih]
    constructor
    ·rintro (h | h)
     ·rcases h with h | h <;> simp [h]
     ·left; right; exact ⟨h2, h.symm⟩
    ·rintro ((h | h) | (h | h))
     ·simp [h]
     ·right; omega
     ·simp [h]
     ·omega
   ·rw [if_neg h2, ih]
    constructor
    ·rintro (h | h) <;> simp [h]
    ·rintro ((h | h) | (h | h))
     ·simp [h]
     ·omega
     ·simp [h]
     ·omega
theorem qT {n : Nat} {ps : List (Nat × Nat)} (ok : OKp n ps) (a b : Nat) : (eu ps ps.length a).testBit b = true ↔ (a, b) ∈ ps \/ (b, a) ∈ ps := by
 have := s6 ok a b ps.length (Nat.le_refl _)
 rwa [List.take_length] at this

def vN (g old : Nat -> Nat) (a b : Nat) : Bool := (bdif (g a) (old a)).testBit b
theorem qg {id sz L : Nat} {α : Type} {l : List α} {x : α} (h : l.length = L) : cr id sz (l ++ [x]).length = .val (.one (.own id sz 0 (L + 1))) := by rw [List.length_append, h]; rfl
theorem qV {sz L : Nat} {α : Type} {f : α -> List DC} {l : List α} {x : α} (h : l.length = L) : cx sz ((l ++ [x]).map f) (l ++ [x]).length = some (.arr sz (l.map f ++ [f x])) := by rw [List.length_append, h, List.map_append]; rfl
theorem vw {q : Nat -> Nat -> Bool} {a b : Nat} (h : a < b) : prR q a (b + 1) = prR q a b ++ if q a b = true then [(a, b)] else [] := by
 rw [prR]
 by_cases hq : q a b = true
 ·rw [if_pos ⟨h, hq⟩, if_pos hq]
 ·rw [if_neg (fun x => hq x.2), if_neg hq]
end Go.Proofs.YtomlkgcfagnngaaGreatDoor

/- ordering: words of bits, eliminate. No condition. -/
namespace Go.Proofs.YtomlkgcfagnngaaGreatDoor
attribute [local irreducible] au

/-! ### Words of bits -/
section
variable {T : Tab} {t : TypeId} {x y : Nat}
theorem L6 {x : Nat} (h : x < 18446744073709551616) : (BitVec.ofInt 64 (x : Int)).toNat = x := by rw [oW, BitVec.toNat_ofNat]; exact Nat.mod_eq_of_lt h
theorem pp (hx : x < 18446744073709551616) (hy : y < 18446744073709551616) : aB T .and t (dL x) (dL y) = .set (dL (x &&& y)) := by
 have hb : dM .and (.int .u64 (x : Int)) (.int .u64 (y : Int)) = some (.int .u64 ((x &&& y : Nat) : Int)) := by
  show some (Value.int .u64 (IntKind.u64.wrap ((BitVec.ofInt 64 (x : Int) &&& BitVec.ofInt 64 (y : Int)).toNat))) = _
  rw [BitVec.toNat_and, L6 hx, L6 hy, IntWalk.u64_in _ (by have := px (n := 64) (y := y) hx; omega)]
 simp only [aB, bV, hb]; rfl
theorem sW (hx : x < 18446744073709551616) (hy : y < 18446744073709551616) : aB T .or t (dL x) (dL y) = .set (dL (x ||| y)) := by
 have hb : dM .or (.int .u64 (x : Int)) (.int .u64 (y : Int)) = some (.int .u64 ((x ||| y : Nat) : Int)) := by
  show some (Value.int .u64 (IntKind.u64.wrap ((BitVec.ofInt 64 (x : Int) ||| BitVec.ofInt 64 (y : Int)).toNat))) = _
  rw [BitVec.toNat_or, L6 hx, L6 hy, IntWalk.u64_in _ (by have := ip (n := 64) hx hy; omega)]
 simp only [aB, bV, hb]; rfl
theorem wx (hx : x < 18446744073709551616) (hy : y < 18446744073709551616) : aB T .andNot t (dL x) (dL y) = .set (dL (bdif x y)) := by
 have hb : dM .andNot (.int .u64 (x : Int)) (.int .u64 (y : Int)) = some (.int .u64 ((bdif x y : Nat) : Int)) := by
  show some (Value.int .u64 (IntKind.u64.wrap ((BitVec.ofInt 64 (x : Int) &&& ~~~ BitVec.ofInt 64 (y : Int)).toNat))) = _
  have : (BitVec.ofInt 64 (x : Int) &&& ~~~ BitVec.ofInt 64 (y : Int)).toNat = bdif x y := by
   apply Nat.eq_of_testBit_eq
   intro k
   rw [jT, BitVec.testBit_toNat, BitVec.getLsbD_and, BitVec.getLsbD_not, <- BitVec.testBit_toNat, <- BitVec.testBit_toNat, L6 hx, L6 hy]
   by_cases hk : k < 64
   ·rw [decide_eq_true hk, Bool.true_and]
   ·rw [eY (n := 64) hx (by omega)]; rfl
  rw [this, IntWalk.u64_in _ (by have := iN (n := 64) (y := y) hx; omega)]
 simp only [aB, bV, hb]; rfl
theorem ko {s : Nat} (hs : s < 64) : aB T .shl t (dL 1) (dI s) = .set (dL (2 ^ s)) := by
 refine kn (by omega) ?_;rw [Nat.one_mul];exact Nat.mod_eq_of_lt (iM (n := 64) hs)
end
theorem vA {s : Nat} (hs : s < 64) : 2 ^ s < 18446744073709551616 := iM (n := 64) hs
def u6D (n : Nat) (g : Nat -> Nat) : List (List DC) := (List.range n).map fun i => [.lit (.int .u64 (g i : Nat))]
theorem gU {n : Nat} {g : Nat -> Nat} : (u6D n g).length = n := by simp [u6D]
theorem iV {n i : Nat} {g : Nat -> Nat} (h : i < n) : (u6D n g)[i]? = some [.lit (.int .u64 (g i : Nat))] := by simp [u6D, h]
theorem pJ {n : Nat} {f g : Nat -> Nat} (h : ∀ i, i < n -> f i = g i) : u6D n f = u6D n g := List.map_congr_left fun i hi => by rw [h i (List.mem_range.1 hi)]
theorem q7 {n i x : Nat} {f g : Nat -> Nat} (hi : i < n) (h : ∀ k, k < n -> g k = if k = i then x else f k) : (u6D n f).set i [.lit (.int .u64 (x : Nat))] = u6D n g := by
 apply List.ext_getElem?
 intro k
 rw [List.getElem?_set, gU]
 rcases Nat.lt_or_ge k n with hk | hk
 ·rw [iV hk, iV hk, h k hk]
  by_cases e : i = k
  ·rw [if_pos e, if_pos (by omega), if_pos e.symm]
  ·rw [if_neg e, if_neg (Ne.symm e)]
 ·rw [if_neg (by omega), List.getElem?_eq_none (by rw [gU]; omega), List.getElem?_eq_none (by rw [gU]; omega)]
theorem uL {n j : Nat} {g : Nat -> Nat} {el : List DC} (h : (u6D n g)[j]? = some el) : el.length = 1 := by
 simp only [u6D, List.getElem?_map] at h
 cases hr : (List.range n)[j]? with
 | none => rw [hr] at h; cases h
 | some v => rw [hr] at h; cases h; rfl

set_option maxHeartbeats 1000000 in
theorem zT (n v left : Nat) (g : Nat -> Nat) (hn : n <= 64) (hv : v < n) (hl : left < 2 ^ n) (hg : ∀ w, g w < 2 ^ 64) :
  Ah Tryz.prog 52 [.val (.one (.own 999 1 0 n)), dI v, dL left] (.arr 1 (u6D n g)) (.tup []) (.arr 1 (u6D n (nx g v left))) := by
 have hl6 : left < 18446744073709551616 := Nat.lt_of_lt_of_le hl (Nat.pow_le_pow_right (by decide) hn)
 have hgv : g v < 18446744073709551616 := hg v
 refine rT (fn := Tryz.f52) tok Tryz.func52 (by kernel_rfl) rfl rfl rfl rfl rfl rfl ?_
 intro w0 X
 rw [ua _ _ _ [(0, .val (.one (.own 999 1 0 n))), (1, dI v), (2, dL left)] rfl rfl];refine gQ fun _ Z=>?_;refine Z9 ?_;refine Z9 ?_;refine aa rfl (x_o (i := v) (j := v) rfl rfl rfl rfl rfl hv (Nat.zero_add _)) rfl ?_;refine aR rfl (l_o rfl rfl (iV hv) rfl rfl) rfl ?_;refine Z9 ?_;refine ah rfl (pp hgv hl6) rfl ?_;refine Z8 ?_;refine eQ Z ?_;clear Z
 have hnear : g v &&& left < 2 ^ n := by rw [Nat.and_comm]; exact px hl
 generalize hN : g v &&& left = near at hnear
 have hn6 : near < 18446744073709551616 := Nat.lt_of_lt_of_le hnear (Nat.pow_le_pow_right (by decide) hn)
 refine gQ fun _ Z=>?_;refine Z9 ?_;refine Z8 ?_;refine eQ Z ?_;clear Z;refine ac (aG (α := Nat) (fun r => mk 34 [(0, .val (.one (.own 999 1 0 n))), (6, dL near), (7, dL r)] [(999, some (.arr 1 (u6D n (jL g near r))))] []) (fun r => ∀ k, r.testBit k = true -> near.testBit k = true) (fun r => r) near ?_ (fun _ h => h) ?_)
 ·exact Wk.mk' ⟨rfl, rfl, rfl, trivial⟩ ⟨congrArg (fun x => some (OO.arr 1 x)) (pJ fun w _ => (zS g near w).symm), trivial⟩
 intro r hr
 have hr64 : r < 2 ^ 64 := jF fun k hk => by
  cases h : r.testBit k
  ·rfl
  ·have := yt hnear (hr k h); omega
 have hr6 : r < 18446744073709551616 := hr64
 refine ab ?_;refine gQ fun _ Z=>?_;refine Z9 ?_;refine Z6 ?_;refine eQ Z ?_;clear Z;refine ai rfl (fun hc => ?_) (fun hc => ?_)
 ·have h0 : r ≠ 0 := by intro e; subst e; simp at hc
  obtain ⟨h1, h2, _, _⟩ := qQ h0 hr64
  have hc0 := Ac h0
  have cT := y3 r hr64
  have st := ub (g := g) h0 hr64 hr
  generalize Go.Lib.ctz 64 r = w at h1 h2 cT st
  have hw : w < n := yt hnear (hr w h2)
  have hx : jL g near r w < 18446744073709551616 := x5 hg hn6
  have hb : bdif near (2 ^ w) < 18446744073709551616 := iN (n := 64) hn6
  refine ag ?_;show AWP _ _ _ _ _ _;refine ab ?_;refine ac ?_;refine gQ fun _ Z=>?_;refine Z9 ?_;refine ae rfl rfl (cT) rfl rfl rfl rfl ?_;refine Z8 ?_;refine eQ Z ?_;clear Z;refine ck tok mixed (A := [[], [], [], [0, 1], [], [], [], [5], [0, 1, 2, 4, 5, 6], [], []]) (an := [{}, {}, {}, {}, {}, {}, {}, {}, {}, {}, {}]) rfl (by kernel_rfl) rfl fun _ Z=>?_;refine Z9 ?_;refine Z9 ?_;refine aa rfl (x_o (i := w) (j := w) rfl rfl rfl rfl rfl hw (Nat.zero_add _)) rfl ?_;refine aR rfl (l_o rfl rfl (iV hw) rfl rfl) rfl ?_;refine Z9 ?_;refine Z9 ?_;refine ah rfl (ko h1) rfl ?_;refine ah rfl (wx hn6 (vA h1)) rfl ?_;refine ah rfl (sW hx hb) rfl ?_;refine aa rfl (x_o (i := w) (j := w) rfl rfl rfl rfl rfl hw (Nat.zero_add _)) rfl ?_;refine am rfl (ns (ds := [.lit (.int .u64 (jL g near r w ||| bdif near (2 ^ w) : Nat))]) rfl rfl (by rw [gU]; exact hw) (fun _ h => uL h) rfl rfl rfl) rfl rfl rfl ?_;refine eQ Z ?_;clear Z
  rw [q7 (g := jL g near (clr r)) hw (fun k _ => by
   rw [st k]
   by_cases e : k = w
   ·rw [if_pos e, if_pos e, e]
   ·rw [if_neg e, if_neg e])]
  show AWP _ _ _ _ _ _;refine gR fun _ Z=>?_;refine Z9 ?_;refine Z9 ?_;refine ah rfl (pn (x := r) (y := 1) (z := r - 1) (by omega) (by omega)) rfl ?_;refine ah rfl (pp hr6 (by omega)) rfl ?_;refine Z8 ?_;refine eQ Z ?_;clear Z;exact ⟨clr r, hc0, fun k hk => hr k (by unfold clr at hk; rw [Nat.testBit_and, Bool.and_eq_true] at hk; exact hk.1), Wk.mk' ⟨rfl, rfl, rfl, trivial⟩ ⟨rfl, trivial⟩⟩
 have h0 : r = 0 := by
  have h1 : (!decide ((r : Int) = 0)) = false := hc
  simpa using h1
 subst h0
 refine aw ?_;refine ⟨⟨[], rfl, rfl⟩, ?_⟩
 show some _ = some _
 refine congrArg some (congrArg (OO.arr 1) (pJ fun w _ => ?_));rw [<- hN]; exact wi g v left w
end Go.Proofs.YtomlkgcfagnngaaGreatDoor

/- ordering: Valid, build, permutation, filled. No condition. -/
namespace Go.Proofs.YtomlkgcfagnngaaGreatDoor
attribute [local irreducible] au

section
variable {T : Tab} {t : TypeId}
theorem wu {x : Nat} {c : Bool} (h : decide (x ≠ 0) = c) : aB T .neq t (dL x) (dL 0) = .set (dB c) := by
 subst h
 have : (!decide ((x : Int) = 0)) = decide (x ≠ 0) := by
  by_cases e : x = 0
  ·simp [e]
  ·simp [e]
 show Eff.set (dB (!decide ((x : Int) = 0))) = _
 rw [this]
theorem wm {x s : Nat} (hs : s <= 64) : aB T .shr t (dL x) (dI s) = .set (dL (x / 2 ^ s)) := jh hs rfl
end
set_option maxHeartbeats 1000000 in
theorem vK (n : Nat) (ps : List (Nat × Nat)) (ok : OKp n ps) (hl : ps.length <= 4096) : Con Tryz.prog 48 [dI n, V1 (.sl (ps.map prD))] { v := dB true } := by
 have n64 := ok.n64
 refine Z3 Tryz.func48 ?_
 intro w0 X
 rw [ak _ _ [(0, dI n), (1, V1 (.sl (ps.map prD)))] rfl rfl];refine gQ fun _ Z=>?_;refine Z8 ?_;refine eQ Z ?_;clear Z;refine ab ?_;refine gQ fun _ Z=>?_;refine Z9 ?_;refine ah rfl (jP (c := false) (decide_eq_false (by omega))) rfl ?_;refine Z9 ?_;refine Z9 ?_;refine ah rfl (iJ (c := false) (decide_eq_false (by omega))) rfl ?_;refine Z4 ?_;refine eQ Z ?_;clear Z;refine ai rfl (fun h => by cases h) (fun _ => ?_);refine ag ?_;show AWP _ _ _ _ _ _;refine ab ?_;refine gQ fun _ Z=>?_;refine Z9 ?_;refine az rfl (de prD rfl rfl) rfl ?_;refine Z9 ?_;refine eQ Z ?_;clear Z;refine ac (aG (α := Nat) (fun i => mk 72 [(0, dI n), (1, V1 (.sl (ps.map prD))), (13, V1 (.sl (ps.map prD))), (14, dI ps.length), (15, dI i)] [] []) (fun i => i <= ps.length) (fun i => ps.length - i) 0 ?_ (Nat.zero_le _) ?_)
 ·exact Wk.mk' ⟨rfl, rfl, rfl, rfl, rfl, trivial⟩ trivial
 intro i hi
 refine gQ fun _ Z=>?_;refine Z6 ?_;refine eQ Z ?_;clear Z;refine ab ?_;refine ai rfl (fun hc => ?_) (fun hc => ?_)
 ·have hg : i < ps.length := by simp at hc; omega
  obtain ⟨h1, h2⟩ := ok.b _ (List.getElem_mem hg)
  refine ag ?_;show AWP _ _ _ _ _ _;refine ab ?_;refine ac ?_;refine gQ fun _ Z=>?_;refine Z9 ?_;refine aa rfl (x_m prD rfl rfl rfl rfl hg rfl) rfl ?_;refine Z7 ?_;refine aI rfl rfl rfl rfl rfl rfl ?_;refine Z8 ?_;refine am rfl rfl rfl rfl rfl ?_;refine eQ Z ?_;clear Z;refine ab ?_;refine gQ fun _ Z=>?_;refine Z5 ?_;refine Z7 ?_;refine ah rfl (jP (c := false) (decide_eq_false (by omega))) rfl ?_;refine Z9 ?_;refine Z5 ?_;refine Z7 ?_;refine Z5 ?_;refine Z7 ?_;refine ah rfl (lP (c := false) (decide_eq_false (by omega))) rfl ?_;refine Z4 ?_;refine Z9 ?_;refine Z5 ?_;refine Z7 ?_;refine Z9 ?_;refine ah rfl (lP (c := false) (decide_eq_false (by omega))) rfl ?_;refine Z4 ?_;refine eQ Z ?_;clear Z;refine ai rfl (fun h => by cases h) (fun _ => ?_);refine ag ?_;show AWP _ _ _ _ _ _
  rcases Nat.eq_zero_or_pos i with h0 | h0
  ·refine aQ tok mixed (A := [[], [], [0], [0, 1], [0, 1], [0, 1], [0, 1, 4], [0, 1, 3, 4, 5], [0, 1, 3, 4, 5, 6], [0, 1], [0, 1], [0, 1, 3, 4, 5, 6, 7, 9], [0, 1, 3, 4, 5, 6, 7, 8, 9, 10], [0, 1, 2, 3, 4, 5, 6, 7, 8, 9, 10, 11], [0, 1, 2, 3, 4, 5, 6, 7, 8, 9, 10, 11], [0, 1, 2, 3, 4, 5, 6, 7, 8, 9, 10, 11], [0, 1, 2, 3, 4, 5, 6, 7, 8, 9, 10, 11, 14], [0, 1, 2, 3, 4, 5, 6, 7, 8, 9, 10, 11, 13, 14, 15], [0, 1, 2, 3, 4, 5, 6, 7, 8, 9, 10, 11, 13, 14, 15, 16], [0, 1, 2, 3, 4, 5, 6, 7, 8, 9, 10, 11], [0, 1, 2, 3, 4, 5, 6, 7, 8, 9, 10, 11], [0, 1, 2, 3, 4, 5, 6, 7, 8, 9, 10, 11, 13, 14, 15, 16, 17, 19], [0, 1, 2, 3, 4, 5, 6, 7, 8, 9, 10, 11, 13, 14, 15, 16, 17, 18, 19, 20], [0, 1, 2, 3, 4, 5, 6, 7, 8, 9, 10, 11, 12, 13, 14, 15, 16, 17, 18, 19, 20, 21], [0, 1, 2, 3, 4, 5, 6, 7, 8, 9, 10, 11, 12, 13, 14, 15, 16, 17, 18, 19, 20, 21], [0, 1, 2, 3, 4, 5, 6, 7, 8, 9, 10, 11, 12, 13, 14, 15, 16, 17, 18, 19, 20, 21], [0, 1, 2, 3, 4, 5, 6, 7, 8, 9, 10, 11, 12, 13, 14, 15, 16, 17, 18, 19, 20, 21, 24], [0, 1, 2, 3, 4, 5, 6, 7, 8, 9, 10, 11, 12, 13, 14, 15, 16, 17, 18, 19, 20, 21, 23, 24, 25], [0, 1, 2, 3, 4, 5, 6, 7, 8, 9, 10, 11, 12, 13, 14, 15, 16, 17, 18, 19, 20, 21, 23, 24, 25, 26], [0, 1, 2, 3, 4, 5, 6, 7, 8, 9, 10, 11, 12, 13, 14, 15, 16, 17, 18, 19, 20, 21], [0, 1, 2, 3, 4, 5, 6, 7, 8, 9, 10, 11, 12, 13, 14, 15, 16, 17, 18, 19, 20, 21], [0, 1, 2, 3, 4, 5, 6, 7, 8, 9, 10, 11, 12, 13, 14, 15, 16, 17, 18, 19, 20, 21, 23, 24, 25, 26, 27, 29], [0, 1, 2, 3, 4, 5, 6, 7, 8, 9, 10, 11, 13, 14, 15, 16, 17, 18, 19, 20, 21, 23, 24, 25, 26, 27, 28, 29, 30], [0, 1, 3, 4, 5, 6, 7, 8, 9, 10, 11, 13, 14, 15, 16, 17, 18, 19, 20, 21, 22, 23, 24, 25, 26, 27, 28, 29, 30, 31], [0, 1, 3, 4, 5, 6, 7, 8, 9, 10, 11, 12, 13, 14, 15, 16, 17, 18, 19, 20, 21, 22, 23, 24, 25, 26, 27, 28, 29, 30, 31, 32]]) (an := [{}, {}, {}, {}, {}, {}, {}, {}, {}, {}, {}, {}, {}, {}, {}, {}, {}, {}, {}, {}, {}, {}, {}, {}, {}, {}, {}, {}, {}, {}, {}, {}, {}, {}, {}]) rfl (by kernel_rfl) rfl fun _ Z=>?_;refine Z9 ?_;refine ah rfl (iJ (c := false) (decide_eq_false (by omega))) rfl ?_;refine Z9 ?_;refine ar rfl ?_;refine ar rfl ?_;refine ar rfl ?_;refine ar rfl ?_;refine ar rfl ?_;refine ar rfl ?_;refine ar rfl ?_;refine ar rfl ?_;refine ar rfl ?_;refine ar rfl ?_;refine ar rfl ?_;refine ar rfl ?_;refine ar rfl ?_;refine ar rfl ?_;refine ar rfl ?_;refine ar rfl ?_;refine ar rfl ?_;refine ar rfl ?_;refine ar rfl ?_;refine ar rfl ?_;refine ar rfl ?_;refine ar rfl ?_;refine ar rfl ?_;refine ar rfl ?_;refine ar rfl ?_;refine ar rfl ?_;refine ar rfl ?_;refine ar rfl ?_;refine ar rfl ?_;refine ar rfl ?_;refine ar rfl ?_;refine Z4 ?_;refine eQ Z ?_;clear Z;refine ai rfl (fun h => by cases h) (fun _ => ?_);refine ag ?_;show AWP _ _ _ _ _ _;refine gR fun _ Z=>?_;refine ah rfl (aC (c := ((i + 1 : Nat) : Int)) (by omega) (by omega)) rfl ?_;refine Z9 ?_;refine eQ Z ?_;clear Z;exact ⟨i + 1, by omega, by omega, Wk.mk' ⟨rfl, rfl, rfl, rfl, rfl, trivial⟩ trivial⟩
  obtain ⟨j, rfl⟩ : ∃ j, i = j + 1 := ⟨i - 1, by omega⟩
  have hgj : j < ps.length := by omega
  have ej : ((j + 1 : Nat) : Int) - 1 = ((j : Nat) : Int) := by omega
  rcases ok.up j hg with hu | ⟨hu, hv⟩
  ·refine aQ tok mixed (A := [[], [], [0], [0, 1], [0, 1], [0, 1], [0, 1, 4], [0, 1, 3, 4, 5], [0, 1, 3, 4, 5, 6], [0, 1], [0, 1], [0, 1, 3, 4, 5, 6, 7, 9], [0, 1, 3, 4, 5, 6, 7, 8, 9, 10], [0, 1, 2, 3, 4, 5, 6, 7, 8, 9, 10, 11], [0, 1, 2, 3, 4, 5, 6, 7, 8, 9, 10, 11], [0, 1, 2, 3, 4, 5, 6, 7, 8, 9, 10, 11], [0, 1, 2, 3, 4, 5, 6, 7, 8, 9, 10, 11, 14], [0, 1, 2, 3, 4, 5, 6, 7, 8, 9, 10, 11, 13, 14, 15], [0, 1, 2, 3, 4, 5, 6, 7, 8, 9, 10, 11, 13, 14, 15, 16], [0, 1, 2, 3, 4, 5, 6, 7, 8, 9, 10, 11], [0, 1, 2, 3, 4, 5, 6, 7, 8, 9, 10, 11], [0, 1, 2, 3, 4, 5, 6, 7, 8, 9, 10, 11, 13, 14, 15, 16, 17, 19], [0, 1, 2, 3, 4, 5, 6, 7, 8, 9, 10, 11, 13, 14, 15, 16, 17, 18, 19, 20], [0, 1, 2, 3, 4, 5, 6, 7, 8, 9, 10, 11, 12, 13, 14, 15, 16, 17, 18, 19, 20, 21], [0, 1, 2, 3, 4, 5, 6, 7, 8, 9, 10, 11, 12, 13, 14, 15, 16, 17, 18, 19, 20, 21], [0, 1, 2, 3, 4, 5, 6, 7, 8, 9, 10, 11, 12, 13, 14, 15, 16, 17, 18, 19, 20, 21], [0, 1, 2, 3, 4, 5, 6, 7, 8, 9, 10, 11, 12, 13, 14, 15, 16, 17, 18, 19, 20, 21, 24], [0, 1, 2, 3, 4, 5, 6, 7, 8, 9, 10, 11, 12, 13, 14, 15, 16, 17, 18, 19, 20, 21, 23, 24, 25], [0, 1, 2, 3, 4, 5, 6, 7, 8, 9, 10, 11, 12, 13, 14, 15, 16, 17, 18, 19, 20, 21, 23, 24, 25, 26], [0, 1, 2, 3, 4, 5, 6, 7, 8, 9, 10, 11, 12, 13, 14, 15, 16, 17, 18, 19, 20, 21], [0, 1, 2, 3, 4, 5, 6, 7, 8, 9, 10, 11, 12, 13, 14, 15, 16, 17, 18, 19, 20, 21], [0, 1, 2, 3, 4, 5, 6, 7, 8, 9, 10, 11, 12, 13, 14, 15, 16, 17, 18, 19, 20, 21, 23, 24, 25, 26, 27, 29], [0, 1, 2, 3, 4, 5, 6, 7, 8, 9, 10, 11, 13, 14, 15, 16, 17, 18, 19, 20, 21, 23, 24, 25, 26, 27, 28, 29, 30], [0, 1, 3, 4, 5, 6, 7, 8, 9, 10, 11, 13, 14, 15, 16, 17, 18, 19, 20, 21, 22, 23, 24, 25, 26, 27, 28, 29, 30, 31], [0, 1, 3, 4, 5, 6, 7, 8, 9, 10, 11, 12, 13, 14, 15, 16, 17, 18, 19, 20, 21, 22, 23, 24, 25, 26, 27, 28, 29, 30, 31, 32]]) (an := [{}, {}, {}, {}, {}, {}, {}, {}, {}, {}, {}, {}, {}, {}, {}, {}, {}, {}, {}, {}, {}, {}, {}, {}, {}, {}, {}, {}, {}, {}, {}, {}, {}, {}, {}]) rfl (by kernel_rfl) rfl fun _ Z=>?_;refine Z9 ?_;refine ah rfl (iJ (c := true) (decide_eq_true (by omega))) rfl ?_;refine Z9 ?_;refine Z9 ?_;refine Z9 ?_;refine ah rfl (bZ (c := ((j : Nat) : Int)) ej (by omega)) rfl ?_;refine aa rfl (x_m prD rfl rfl rfl rfl hgj rfl) rfl ?_;refine Z5 ?_;refine Z7 ?_;refine Z5 ?_;refine Z7 ?_;refine ah rfl (iJ (c := false) (decide_eq_false (by omega))) rfl ?_;refine Z9 ?_;refine Z9 ?_;refine Z9 ?_;refine ah rfl (bZ (c := ((j : Nat) : Int)) ej (by omega)) rfl ?_;refine aa rfl (x_m prD rfl rfl rfl rfl hgj rfl) rfl ?_;refine Z5 ?_;refine Z7 ?_;refine Z5 ?_;refine Z7 ?_;refine ah rfl (jQ (c := false) (by simp; omega)) rfl ?_;refine Z9 ?_;refine ar rfl ?_;refine ar rfl ?_;refine ar rfl ?_;refine ar rfl ?_;refine ar rfl ?_;refine ar rfl ?_;refine ar rfl ?_;refine ar rfl ?_;refine ar rfl ?_;refine Z4 ?_;refine Z4 ?_;refine Z4 ?_;refine eQ Z ?_;clear Z;refine ai rfl (fun h => by cases h) (fun _ => ?_);refine ag ?_;show AWP _ _ _ _ _ _;refine gR fun _ Z=>?_;refine ah rfl (aC (c := ((j + 1 + 1 : Nat) : Int)) (by omega) (by omega)) rfl ?_;refine Z9 ?_;refine eQ Z ?_;clear Z;exact ⟨j + 1 + 1, by omega, by omega, Wk.mk' ⟨rfl, rfl, rfl, rfl, rfl, trivial⟩ trivial⟩
  ·refine aQ tok mixed (A := [[], [], [0], [0, 1], [0, 1], [0, 1], [0, 1, 4], [0, 1, 3, 4, 5], [0, 1, 3, 4, 5, 6], [0, 1], [0, 1], [0, 1, 3, 4, 5, 6, 7, 9], [0, 1, 3, 4, 5, 6, 7, 8, 9, 10], [0, 1, 2, 3, 4, 5, 6, 7, 8, 9, 10, 11], [0, 1, 2, 3, 4, 5, 6, 7, 8, 9, 10, 11], [0, 1, 2, 3, 4, 5, 6, 7, 8, 9, 10, 11], [0, 1, 2, 3, 4, 5, 6, 7, 8, 9, 10, 11, 14], [0, 1, 2, 3, 4, 5, 6, 7, 8, 9, 10, 11, 13, 14, 15], [0, 1, 2, 3, 4, 5, 6, 7, 8, 9, 10, 11, 13, 14, 15, 16], [0, 1, 2, 3, 4, 5, 6, 7, 8, 9, 10, 11], [0, 1, 2, 3, 4, 5, 6, 7, 8, 9, 10, 11], [0, 1, 2, 3, 4, 5, 6, 7, 8, 9, 10, 11, 13, 14, 15, 16, 17, 19], [0, 1, 2, 3, 4, 5, 6, 7, 8, 9, 10, 11, 13, 14, 15, 16, 17, 18, 19, 20], [0, 1, 2, 3, 4, 5, 6, 7, 8, 9, 10, 11, 12, 13, 14, 15, 16, 17, 18, 19, 20, 21], [0, 1, 2, 3, 4, 5, 6, 7, 8, 9, 10, 11, 12, 13, 14, 15, 16, 17, 18, 19, 20, 21], [0, 1, 2, 3, 4, 5, 6, 7, 8, 9, 10, 11, 12, 13, 14, 15, 16, 17, 18, 19, 20, 21], [0, 1, 2, 3, 4, 5, 6, 7, 8, 9, 10, 11, 12, 13, 14, 15, 16, 17, 18, 19, 20, 21, 24], [0, 1, 2, 3, 4, 5, 6, 7, 8, 9, 10, 11, 12, 13, 14, 15, 16, 17, 18, 19, 20, 21, 23, 24, 25], [0, 1, 2, 3, 4, 5, 6, 7, 8, 9, 10, 11, 12, 13, 14, 15, 16, 17, 18, 19, 20, 21, 23, 24, 25, 26], [0, 1, 2, 3, 4, 5, 6, 7, 8, 9, 10, 11, 12, 13, 14, 15, 16, 17, 18, 19, 20, 21], [0, 1, 2, 3, 4, 5, 6, 7, 8, 9, 10, 11, 12, 13, 14, 15, 16, 17, 18, 19, 20, 21], [0, 1, 2, 3, 4, 5, 6, 7, 8, 9, 10, 11, 12, 13, 14, 15, 16, 17, 18, 19, 20, 21, 23, 24, 25, 26, 27, 29], [0, 1, 2, 3, 4, 5, 6, 7, 8, 9, 10, 11, 13, 14, 15, 16, 17, 18, 19, 20, 21, 23, 24, 25, 26, 27, 28, 29, 30], [0, 1, 3, 4, 5, 6, 7, 8, 9, 10, 11, 13, 14, 15, 16, 17, 18, 19, 20, 21, 22, 23, 24, 25, 26, 27, 28, 29, 30, 31], [0, 1, 3, 4, 5, 6, 7, 8, 9, 10, 11, 12, 13, 14, 15, 16, 17, 18, 19, 20, 21, 22, 23, 24, 25, 26, 27, 28, 29, 30, 31, 32]]) (an := [{}, {}, {}, {}, {}, {}, {}, {}, {}, {}, {}, {}, {}, {}, {}, {}, {}, {}, {}, {}, {}, {}, {}, {}, {}, {}, {}, {}, {}, {}, {}, {}, {}, {}, {}]) rfl (by kernel_rfl) rfl fun _ Z=>?_;refine Z9 ?_;refine ah rfl (iJ (c := true) (decide_eq_true (by omega))) rfl ?_;refine Z9 ?_;refine Z9 ?_;refine Z9 ?_;refine ah rfl (bZ (c := ((j : Nat) : Int)) ej (by omega)) rfl ?_;refine aa rfl (x_m prD rfl rfl rfl rfl hgj rfl) rfl ?_;refine Z5 ?_;refine Z7 ?_;refine Z5 ?_;refine Z7 ?_;refine ah rfl (iJ (c := false) (decide_eq_false (by omega))) rfl ?_;refine Z9 ?_;refine Z9 ?_;refine Z9 ?_;refine ah rfl (bZ (c := ((j : Nat) : Int)) ej (by omega)) rfl ?_;refine aa rfl (x_m prD rfl rfl rfl rfl hgj rfl) rfl ?_;refine Z5 ?_;refine Z7 ?_;refine Z5 ?_;refine Z7 ?_;refine ah rfl (jQ (c := true) (by simp; omega)) rfl ?_;refine Z9 ?_;refine Z9 ?_;refine Z9 ?_;refine ah rfl (bZ (c := ((j : Nat) : Int)) ej (by omega)) rfl ?_;refine aa rfl (x_m prD rfl rfl rfl rfl hgj rfl) rfl ?_;refine Z5 ?_;refine Z7 ?_;refine Z5 ?_;refine Z7 ?_;refine ah rfl (lP (c := false) (decide_eq_false (by omega))) rfl ?_;refine Z4 ?_;refine Z4 ?_;refine Z4 ?_;refine eQ Z ?_;clear Z;refine ai rfl (fun h => by cases h) (fun _ => ?_);refine ag ?_;show AWP _ _ _ _ _ _;refine gR fun _ Z=>?_;refine ah rfl (aC (c := ((j + 1 + 1 : Nat) : Int)) (by omega) (by omega)) rfl ?_;refine Z9 ?_;refine eQ Z ?_;clear Z;exact ⟨j + 1 + 1, by omega, by omega, Wk.mk' ⟨rfl, rfl, rfl, rfl, rfl, trivial⟩ trivial⟩
 refine aw ?_;show AWP _ _ _ _ _ _;refine gQ fun _ Z=>?_;refine Z8 ?_;refine eQ Z ?_;clear Z;exact aj a6

theorem xe {n : Nat} : List.replicate n [DC.lit (.int .u64 ((0 : Nat) : Int))] = u6D n fun _ => 0 := by simp [u6D, List.map_const']
set_option maxHeartbeats 1000000 in
theorem qj (n : Nat) (ps : List (Nat × Nat)) (ok : OKp n ps) (hl : ps.length <= 4096) : Con Tryz.prog 33 [dI n, V1 (.sl (ps.map prD))] { v := .val (.one (.own 0 1 0 n)), ob := some (1, u6D n (eu ps ps.length)) } := by
 have n64 := ok.n64
 refine Z3 Tryz.func33 ?_
 intro w0 X
 rw [ak _ _ [(0, dI n), (1, V1 (.sl (ps.map prD)))] rfl rfl];refine gQ fun _ Z=>?_;refine Z8 ?_;refine eQ Z ?_;clear Z;refine gQ fun _ Z=>?_;refine Z9 ?_;refine bn (sz := _) (es := _) (f := _) (v := _) rfl (vP (l := n) rfl rfl rfl rfl rfl (Nat.le_of_ble_eq_true rfl) (by decide) rfl rfl (by omega)) rfl rfl ?_;refine Z8 ?_;refine eQ Z ?_;clear Z;refine ab ?_;refine gQ fun _ Z=>?_;refine Z9 ?_;refine az rfl (de prD rfl rfl) rfl ?_;refine Z9 ?_;refine eQ Z ?_;clear Z;refine ac (aG (α := Nat) (fun i => mk 38 [(5, .val (.one (.own 9 1 0 n))), (10, V1 (.sl (ps.map prD))), (11, dI ps.length), (12, dI i)] [(9, some (.arr 1 (u6D n (eu ps i))))] []) (fun i => i <= ps.length) (fun i => ps.length - i) 0 ?_ (Nat.zero_le _) ?_)
 ·exact Wk.mk' ⟨rfl, rfl, rfl, rfl, trivial⟩ ⟨congrArg (fun x => some (OO.arr 1 x)) xe, trivial⟩
 intro i hi
 refine gQ fun _ Z=>?_;refine Z6 ?_;refine eQ Z ?_;clear Z;refine ab ?_;refine ai rfl (fun hc => ?_) (fun hc => ?_)
 ·have hg : i < ps.length := by simp at hc; omega
  obtain ⟨h1, h2⟩ := ok.b _ (List.getElem_mem hg)
  have e : ps.getD i (0, 0) = ps[i] := by rw [List.getD_eq_getElem?_getD, List.getElem?_eq_getElem hg]; rfl
  have hb : ∀ w, eu ps i w < 18446744073709551616 := jS ok i
  generalize hgi : eu ps i = g at hb
  have ha : ps[i].1 < n := by omega
  have pa := vA (s := ps[i].1) (by omega)
  have pb := vA (s := ps[i].2) (by omega)
  obtain ⟨g1, hg1⟩ : ∃ g1 : Nat -> Nat, g1 = fun w => if w = ps[i].1 then g w ||| 2 ^ ps[i].2 else g w := ⟨_, rfl⟩
  have hb1 : g1 ps[i].2 < 18446744073709551616 := by rw [hg1]; show (if _ then _ else _) < _; rw [if_neg (by omega)]; exact hb _
  refine ag ?_;show AWP _ _ _ _ _ _;refine ab ?_;refine ac ?_;refine gQ fun _ Z=>?_;refine aa rfl (x_m prD rfl rfl rfl rfl hg rfl) rfl ?_;refine Z7 ?_;refine aI rfl rfl rfl rfl rfl rfl ?_;refine am rfl rfl rfl rfl rfl ?_;refine eQ Z ?_;clear Z;refine aQ tok mixed (A := [[], [], [], [1], [0, 1, 2], [], [], [5], [0, 1, 2, 3, 5, 6], [], []]) (an := [{}, {}, {}, {}, {}, {}, {}, {}, {}, {}, {}]) rfl (by kernel_rfl) rfl fun _ Z=>?_;refine Z9 ?_;refine Z5 ?_;refine Z7 ?_;refine aa rfl (x_o (i := ps[i].1) (j := ps[i].1) rfl rfl rfl rfl rfl ha (Nat.zero_add _)) rfl ?_;refine aR rfl (l_o rfl rfl (iV ha) rfl rfl) rfl ?_;refine Z5 ?_;refine Z7 ?_;refine ah rfl (ko (by omega)) rfl ?_;refine ah rfl (sW (hb _) pb) rfl ?_;refine aa rfl (x_o (i := ps[i].1) (j := ps[i].1) rfl rfl rfl rfl rfl ha (Nat.zero_add _)) rfl ?_;refine am rfl (ns (ds := [.lit (.int .u64 (g ps[i].1 ||| 2 ^ ps[i].2 : Nat))]) rfl rfl (by rw [gU]; exact ha) (fun _ h => uL h) rfl rfl rfl) rfl rfl rfl ?_;refine eQ Z ?_;clear Z
  rw [q7 (g := g1) ha (fun k _ => by
   rw [hg1]; show (if _ then _ else _) = _; by_cases e : k = ps[i].1
   ·rw [if_pos e, if_pos e, e]
   ·rw [if_neg e, if_neg e])]
  refine ck tok mixed (A := [[], [], [], [1], [0, 1, 2], [], [], [5], [0, 1, 2, 3, 5, 6], [], []]) (an := [{}, {}, {}, {}, {}, {}, {}, {}, {}, {}, {}]) rfl (by kernel_rfl) rfl fun _ Z=>?_;refine Z9 ?_;refine Z5 ?_;refine Z7 ?_;refine aa rfl (x_o (i := ps[i].2) (j := ps[i].2) rfl rfl rfl rfl rfl h2 (Nat.zero_add _)) rfl ?_;refine aR rfl (l_o rfl rfl (iV h2) rfl rfl) rfl ?_;refine Z5 ?_;refine Z7 ?_;refine ah rfl (ko (by omega)) rfl ?_;refine ah rfl (sW hb1 pa) rfl ?_;refine aa rfl (x_o (i := ps[i].2) (j := ps[i].2) rfl rfl rfl rfl rfl h2 (Nat.zero_add _)) rfl ?_;refine am rfl (ns (ds := [.lit (.int .u64 (g1 ps[i].2 ||| 2 ^ ps[i].1 : Nat))]) rfl rfl (by rw [gU]; exact h2) (fun _ h => uL h) rfl rfl rfl) rfl rfl rfl ?_;refine eQ Z ?_;clear Z
  rw [q7 (g := eu ps (i + 1)) h2 (fun k _ => by
   simp only [eu, e, hgi]; rw [hg1]; by_cases e : k = ps[i].2
   ·rw [if_pos e, if_pos e, e]
   ·rw [if_neg e, if_neg e])]
  show AWP _ _ _ _ _ _;refine gR fun _ Z=>?_;refine ah rfl (aC (c := ((i + 1 : Nat) : Int)) (by omega) (by omega)) rfl ?_;refine Z9 ?_;refine eQ Z ?_;clear Z;exact ⟨i + 1, by omega, hg, Wk.mk' ⟨rfl, rfl, rfl, rfl, trivial⟩ ⟨rfl, trivial⟩⟩
 have hf : i = ps.length := by simp at hc; omega
 subst hf
 refine aw ?_;show AWP _ _ _ _ _ _;refine gQ fun _ Z=>?_;refine Z9 ?_;refine Z8 ?_;refine eQ Z ?_;clear Z;refine aj ?_;exact mw (pg (by rfl) rfl)
end Go.Proofs.YtomlkgcfagnngaaGreatDoor

/- ordering: permutation, all, filled, Fill. No condition. -/
namespace Go.Proofs.YtomlkgcfagnngaaGreatDoor
attribute [local irreducible] au

def mj (e : Nat -> Nat) : Nat -> Nat
 | 0 => 0
 | i + 1 => mj e i ||| 2 ^ e i
theorem pP {e : Nat -> Nat} {n : Nat} (h : ∀ i, i < n -> e i < 64) : ∀ i, i <= n -> mj e i < 2 ^ 64
 | 0, _ => Nat.pow_pos (by decide)
 | i + 1, hi => ip (pP h i (by omega)) (iM (h i (by omega)))
theorem pO {e : Nat -> Nat} {k : Nat} : ∀ {i : Nat}, (∀ j, j < i -> e j ≠ k) -> (mj e i).testBit k = false
 | 0, _ => Nat.zero_testBit k
 | i + 1, h => by
  show (mj e i ||| 2 ^ e i).testBit k = false
  rw [Nat.testBit_or, pO (i := i) (fun j hj => h j (by omega)), lZ, decide_eq_false (h i (by omega))]; rfl
set_option maxHeartbeats 1000000 in
theorem xJ (n : Nat) (e : Nat -> Nat) (hn : n <= 64) (h1 : ∀ i, i < n -> e i < n) (h2 : ∀ i j, i < n -> j < n -> e i = e j -> i = j) : Con Tryz.prog 56 [dI n, V1 (.sl (nmD n e))] { v := dB true } := by
 refine Z3 Tryz.func56 ?_
 intro w0 X
 rw [ak _ _ [(0, dI n), (1, V1 (.sl (nmD n e)))] rfl rfl];refine gQ fun _ Z=>?_;refine Z8 ?_;refine eQ Z ?_;clear Z;refine ab ?_;refine gQ fun _ Z=>?_;refine Z9 ?_;refine az rfl (qo rfl rfl) rfl ?_;refine Z9 ?_;refine ah rfl (oh (c := false) (by simp)) rfl ?_;refine eQ Z ?_;clear Z;refine ai rfl (fun h => by cases h) (fun _ => ?_);refine ag ?_;show AWP _ _ _ _ _ _;refine gQ fun _ Z=>?_;refine Z8 ?_;refine eQ Z ?_;clear Z;refine ab ?_;refine gQ fun _ Z=>?_;refine Z9 ?_;refine az rfl (qo rfl rfl) rfl ?_;refine Z9 ?_;refine eQ Z ?_;clear Z;refine ac (aG (α := Nat) (fun i => mk 37 [(0, dI n), (5, dL (mj e i)), (12, V1 (.sl (nmD n e))), (13, dI n), (14, dI i)] [] []) (fun i => i <= n) (fun i => n - i) 0 ?_ (Nat.zero_le _) ?_)
 ·exact Wk.mk' ⟨rfl, rfl, rfl, rfl, rfl, trivial⟩ trivial
 intro i hi
 have hs : mj e i < 18446744073709551616 := pP (n := n) (fun j hj => by have := h1 j hj; omega) i hi
 refine gQ fun _ Z=>?_;refine Z6 ?_;refine eQ Z ?_;clear Z;refine ab ?_;refine ai rfl (fun hc => ?_) (fun hc => ?_)
 ·have hg : i < n := by simp at hc; omega
  have he := h1 i hg
  have hb : (mj e i).testBit (e i) = false := pO fun j hj e' => by have := h2 j i (by omega) hg e'; omega
  refine ag ?_;show AWP _ _ _ _ _ _;refine ab ?_;refine ac ?_;refine gQ fun _ Z=>?_;refine aa rfl (x_n rfl rfl rfl rfl rfl hg) rfl ?_;refine Z7 ?_;refine Z8 ?_;refine eQ Z ?_;clear Z;refine ab ?_;refine gQ fun _ Z=>?_;refine Z9 ?_;refine ah rfl (jP (c := false) (decide_eq_false (by omega))) rfl ?_;refine Z9 ?_;refine Z9 ?_;refine Z9 ?_;refine ah rfl (lP (c := false) (decide_eq_false (by omega))) rfl ?_;refine Z4 ?_;refine Z9 ?_;refine Z9 ?_;refine Z9 ?_;refine ah rfl (wm (by omega)) rfl ?_;refine ah rfl (pp (y := 1) (Nat.lt_of_le_of_lt (Nat.div_le_self _ _) hs) (by omega)) rfl ?_;refine ah rfl (wu (c := false) (decide_eq_false (by rw [Ax, hb]; simp))) rfl ?_;refine Z4 ?_;refine eQ Z ?_;clear Z;refine ai rfl (fun h => by cases h) (fun _ => ?_);refine ag ?_;show AWP _ _ _ _ _ _;refine gR fun _ Z=>?_;refine Z9 ?_;refine Z9 ?_;refine ah rfl (ko (by omega)) rfl ?_;refine ah rfl (sW hs (vA (by omega))) rfl ?_;refine Z8 ?_;refine eQ Z ?_;clear Z;show AWP _ _ _ _ _ _;refine gR fun _ Z=>?_;refine ah rfl (aC (c := ((i + 1 : Nat) : Int)) (by omega) (by omega)) rfl ?_;refine Z9 ?_;refine eQ Z ?_;clear Z;exact ⟨i + 1, by omega, hg, Wk.mk' ⟨rfl, rfl, rfl, rfl, rfl, trivial⟩ trivial⟩
 refine aw ?_;show AWP _ _ _ _ _ _;refine gQ fun _ Z=>?_;refine Z8 ?_;refine eQ Z ?_;clear Z;exact aj a6
theorem zD (n : Nat) (hn : n <= 64) : Con Tryz.prog 49 [dI n] { v := dL (2 ^ n - 1) } := by
 refine Z3 Tryz.func49 ?_
 intro w0 X
 rw [ak _ _ [(0, dI n)] rfl rfl];refine gQ fun _ Z=>?_;refine Z8 ?_;refine eQ Z ?_;clear Z;refine ab ?_
 by_cases e : n = 64
 ·subst e
  refine gQ fun _ Z=>?_;refine Z9 ?_;refine Z6 ?_;refine eQ Z ?_;clear Z;refine ai rfl (fun _ => ?_) (fun h => by cases h);refine gQ fun _ Z=>?_;refine Z8 ?_;refine eQ Z ?_;clear Z;exact aj a6
 ·have h : 2 ^ n < 2 ^ 64 := iM (by omega)
  have h0 : 0 < 2 ^ n := Nat.pow_pos (by decide)
  refine gQ fun _ Z=>?_;refine Z9 ?_;refine ah rfl (jQ (c := false) (by simp; omega)) rfl ?_;refine eQ Z ?_;clear Z;refine ai rfl (fun h => by cases h) (fun _ => ?_);refine ag ?_;show AWP _ _ _ _ _ _;refine gQ fun _ Z=>?_;refine Z9 ?_;refine ah rfl (ko (by omega)) rfl ?_;refine ah rfl (pn (x := 2 ^ n) (y := 1) (z := 2 ^ n - 1) (by omega) (by omega)) rfl ?_;refine Z8 ?_;refine eQ Z ?_;clear Z;exact aj a6
theorem o6 {full n : Nat} {e : Nat -> Nat} (h : full < 2 ^ n) : ∀ m, nw full e m < 2 ^ n
 | 0 => h
 | m + 1 => iN (o6 h m)
def qE (n : Nat) (ps : List (Nat × Nat)) (e : Nat -> Nat) : Nat -> Nat := lh (eu ps ps.length) (2 ^ n - 1) e n
set_option maxHeartbeats 1000000 in
theorem tQ (n : Nat) (ps : List (Nat × Nat)) (ok : OKp n ps) (hl : ps.length <= 4096) (e : Nat -> Nat) (h1 : ∀ i, i < n -> e i < n) (h2 : ∀ i j, i < n -> j < n -> e i = e j -> i = j) :
  Con Tryz.prog 32 [dI n, V1 (.sl (ps.map prD)), V1 (.sl (nmD n e))] { v := .tup [.one (.d (.sl (u6D n (qE n ps e)))), .one (.d (lI 0))] } := by
 have n64 := ok.n64
 have cV := vK n ps ok hl
 have cP := xJ n e n64 h1 h2
 have cB := qj n ps ok hl
 have cA := zD n n64
 have hf0 : 2 ^ n - 1 < 2 ^ n := by have : 0 < 2 ^ n := Nat.pow_pos (by decide); omega
 obtain ⟨full, hfull⟩ : ∃ full, full = 2 ^ n - 1 := ⟨_, rfl⟩
 rw [<- hfull] at cA hf0
 have hb := jS ok ps.length
 unfold qE
 rw [<- hfull];generalize eu ps ps.length = g at cB hb ⊢;refine Z3 Tryz.func32 ?_
 intro w0 X
 rw [ak _ _ [(0, dI n), (1, V1 (.sl (ps.map prD))), (2, V1 (.sl (nmD n e)))] rfl rfl];refine gQ fun _ Z=>?_;refine Z8 ?_;refine Z8 ?_;refine eQ Z ?_;clear Z;refine ab ?_;refine gQ fun _ Z=>?_;refine Z9 ?_;refine Z9 ?_;refine ae rfl rfl (cV) rfl rfl rfl rfl ?_;refine g7 rfl rfl rfl ?_;refine eQ Z ?_;clear Z;refine ai rfl (fun h => by cases h) (fun _ => ?_);refine ag ?_;show AWP _ _ _ _ _ _;refine ab ?_;refine gQ fun _ Z=>?_;refine Z9 ?_;refine Z9 ?_;refine ae rfl rfl (cP) rfl rfl rfl rfl ?_;refine g7 rfl rfl rfl ?_;refine eQ Z ?_;clear Z;refine ai rfl (fun h => by cases h) (fun _ => ?_);refine ag ?_;show AWP _ _ _ _ _ _;refine gQ fun _ Z=>?_;refine Z9 ?_;refine Z9 ?_;refine oN rfl rfl (cB) (Or.inl rfl) rfl rfl rfl rfl ?_;refine Z9 ?_;refine ae rfl rfl (cA) rfl rfl rfl rfl ?_;refine Z8 ?_;refine Z8 ?_;refine eQ Z ?_;clear Z;refine ab ?_;refine gQ fun _ Z=>?_;refine Z9 ?_;refine az rfl (qo rfl rfl) rfl ?_;refine Z9 ?_;refine eQ Z ?_;clear Z;refine ac (aG (α := Nat) (fun i => mk 41 [(8, .val (.one (.own 22 1 0 n))), (9, dL (nw full e i)), (25, V1 (.sl (nmD n e))), (26, dI n), (27, dI i)] [(22, some (.arr 1 (u6D n (lh g full e i))))] []) (fun i => i <= n) (fun i => n - i) 0 ?_ (Nat.zero_le _) ?_)
 ·exact Wk.mk' ⟨rfl, rfl, rfl, rfl, rfl, trivial⟩ ⟨rfl, trivial⟩
 intro i hi
 have hlt := o6 (e := e) hf0 i
 have hl6 : nw full e i < 18446744073709551616 := Nat.lt_of_lt_of_le hlt (Nat.pow_le_pow_right (by decide) n64)
 refine gQ fun _ Z=>?_;refine Z6 ?_;refine eQ Z ?_;clear Z;refine ab ?_;refine ai rfl (fun hc => ?_) (fun hc => ?_)
 ·have hg : i < n := by simp at hc; omega
  have he := h1 i hg
  have cE := zT n (e i) (nw full e (i + 1)) (lh g full e i) n64 he (o6 hf0 (i + 1)) (ph hb i)
  refine ag ?_;show AWP _ _ _ _ _ _;refine ab ?_;refine ac ?_;refine gQ fun _ Z=>?_;refine aa rfl (x_n rfl rfl rfl rfl rfl hg) rfl ?_;refine Z7 ?_;refine Z8 ?_;refine eQ Z ?_;clear Z;refine gQ fun _ Z=>?_;refine Z9 ?_;refine Z9 ?_;refine ah rfl (ko (by omega)) rfl ?_;refine ah rfl (wx hl6 (vA (by omega))) rfl ?_;refine Z8 ?_;refine eQ Z ?_;clear Z;refine iv fun _ Z=>?_;refine aK tok rfl ?_;refine Z9 ?_;refine bb ?_;refine aK tok rfl ?_;refine Z9 ?_;refine bb ?_;refine aK tok rfl ?_;refine Z9 ?_;refine bb ?_;refine w5 (id := 22) cE rfl rfl rfl rfl rfl rfl rfl rfl rfl ?_;refine kC rfl (Z _ ?_); clear Z;show AWP _ _ _ _ _ _;refine gR fun _ Z=>?_;refine ah rfl (aC (c := ((i + 1 : Nat) : Int)) (by omega) (by omega)) rfl ?_;refine Z9 ?_;refine eQ Z ?_;clear Z;exact ⟨i + 1, by omega, hg, Wk.mk' ⟨rfl, rfl, rfl, rfl, rfl, trivial⟩ ⟨rfl, trivial⟩⟩
 have hf : i = n := by simp at hc; omega
 subst hf
 refine aw ?_;show AWP _ _ _ _ _ _;refine ew [8] [22] 22 [(8, V1 (.sl (u6D i (lh g full e i))))] [] rfl ?_ trivial ?_
 ·exact ⟨bR rfl (by rw [gU]), trivial⟩
 refine gQ fun _ Z=>?_;refine Z9 ?_;refine Z8 ?_;refine Z8 ?_;refine eQ Z ?_;clear Z;exact aj a6

/-! ### Pairs in rising order -/
/-! ### Fill: the pairs that are joined in the filled graph, but not in the pattern -/
theorem x_6 {T : Tab} {t e : TypeId} {ti ei : TI} {k : IntKind} {x : Int} {n i : Nat} {g : Nat -> Nat} (h1 : T t = some ti) (h2 : ti.und = .slice e) (h3 : T e = some ei) (h4 : ei.size = 1) (hx : x = (i : Int)) (hi : i < n) :
  aJ T t (V1 (.sl (u6D n g))) (V1 (.lit (.int k x))) = .set (.pd [.lit (.int .u64 (g i : Nat))]) := x_d h1 h2 h3 hx (iV hi) (by rw [h4]; rfl)
end Go.Proofs.YtomlkgcfagnngaaGreatDoor

/- ordering: Fill. No condition. -/
namespace Go.Proofs.YtomlkgcfagnngaaGreatDoor
attribute [local irreducible] au

set_option maxHeartbeats 2000000 in
theorem xK (n : Nat) (ps : List (Nat × Nat)) (ok : OKp n ps) (hl : ps.length <= 4096) (e : Nat -> Nat) (h1 : ∀ i, i < n -> e i < n) (h2 : ∀ i j, i < n -> j < n -> e i = e j -> i = j) :
  Con Tryz.prog 10 [dI n, V1 (.sl (ps.map prD)), V1 (.sl (nmD n e))] { v := .tup [.one (.d (.sl ((prP (vN (qE n ps e) (eu ps ps.length)) n n).map prD))), .one (.d (lI 0))] } := by
 have n64 := ok.n64
 have cF := tQ n ps ok hl e h1 h2
 have cB := (qj n ps ok hl).data (by rw [gU])
 have hG : ∀ w, qE n ps e w < 18446744073709551616 := fun w => ph (jS ok ps.length) n w
 have hO : ∀ w, eu ps ps.length w < 18446744073709551616 := fun w => jS ok ps.length w
 generalize qE n ps e = G at cF hG ⊢;generalize eu ps ps.length = O at cB hO ⊢
 obtain ⟨q, hq⟩ : ∃ q, q = vN G O := ⟨_, rfl⟩
 rw [<- hq];refine Z3 Tryz.func10 ?_
 intro w0 X
 rw [ak _ _ [(0, dI n), (1, V1 (.sl (ps.map prD))), (2, V1 (.sl (nmD n e)))] rfl rfl];refine gQ fun _ Z=>?_;refine Z8 ?_;refine Z8 ?_;refine eQ Z ?_;clear Z;refine gQ fun _ Z=>?_;refine Z9 ?_;refine Z9 ?_;refine Z9 ?_;refine ae rfl rfl (cF) rfl rfl rfl rfl ?_;refine Z9 ?_;refine aq rfl rfl rfl ?_;refine aq rfl rfl rfl ?_;refine Z8 ?_;refine Z8 ?_;refine eQ Z ?_;clear Z;refine ab ?_;refine gQ fun _ Z=>?_;refine Z9 ?_;refine Z6 ?_;refine eQ Z ?_;clear Z;refine ai rfl (fun h => by cases h) (fun _ => ?_);refine ag ?_;show AWP _ _ _ _ _ _;refine gQ fun _ Z=>?_;refine Z9 ?_;refine Z9 ?_;refine ae rfl rfl (cB) rfl rfl rfl rfl ?_;refine Z8 ?_;refine eQ Z ?_;clear Z;refine gQ fun _ Z=>?_;refine Z8 ?_;refine eQ Z ?_;clear Z;refine ab ?_;refine gQ fun _ Z=>?_;refine Z9 ?_;refine Z9 ?_;refine eQ Z ?_;clear Z;refine ac (aG (α := Nat) (fun a => mk 59 [(0, dI n), (8, V1 (.sl (u6D n G))), (10, V1 (.sl (u6D n O))), (11, cr 200 2 (prP q n a).length), (27, dI n), (28, dI a)] [(200, cx 2 ((prP q n a).map prD) (prP q n a).length)] []) (fun a => a <= n) (fun a => n - a) 0 ?_ (Nat.zero_le _) ?_)
 ·exact Wk.mk' ⟨rfl, rfl, rfl, rfl, rfl, rfl, trivial⟩ ⟨rfl, trivial⟩
 intro a ha
 refine gQ fun _ Z=>?_;refine Z6 ?_;refine eQ Z ?_;clear Z;refine ab ?_;refine ai rfl (fun hc => ?_) (fun hc => ?_)
 ·have hg : a < n := by simp at hc; omega
  have hlen := jz q n a
  refine ag ?_;show AWP _ _ _ _ _ _;refine ab ?_;refine ac ?_;refine gQ fun _ Z=>?_;refine Z9 ?_;refine Z8 ?_;refine eQ Z ?_;clear Z;refine gQ fun _ Z=>?_;refine Z9 ?_;refine ah rfl (aC (c := ((a + 1 : Nat) : Int)) (by omega) (by omega)) rfl ?_;refine Z8 ?_;refine eQ Z ?_;clear Z;refine ac (aG (α := Nat) (fun b => mk 59 [(0, dI n), (8, V1 (.sl (u6D n G))), (10, V1 (.sl (u6D n O))), (11, cr 200 2 (prP q n a ++ prR q a b).length), (12, dI a), (13, dI b), (27, dI n), (28, dI a)] [(200, cx 2 ((prP q n a ++ prR q a b).map prD) (prP q n a ++ prR q a b).length)] []) (fun b => a < b /\ b <= n) (fun b => n - b) (a + 1) ?_ ⟨by omega, by omega⟩ ?_)
  ·rw [vz q a (a + 1) (Nat.le_refl _), List.append_nil];exact Wk.mk' ⟨rfl, rfl, rfl, rfl, rfl, rfl, rfl, rfl, trivial⟩ ⟨rfl, trivial⟩
  rintro b ⟨hab, hb⟩
  have hlr := lK q a b
  have hss := vw (q := q) hab
  obtain ⟨l, hl⟩ : ∃ l, l = prP q n a ++ prR q a b := ⟨_, rfl⟩
  have hll : l.length <= 8192 := by
   have : a * n <= 64 * 64 := Nat.mul_le_mul (by omega) n64
   rw [hl, List.length_append]; omega
  have hs' : prP q n a ++ prR q a (b + 1) = l ++ if q a b = true then [(a, b)] else [] := by rw [hss, hl, List.append_assoc]
  rw [<- hl]
  obtain ⟨L, hL⟩ : ∃ L, l.length = L := ⟨_, rfl⟩
  rw [hL];rw [hL] at hll;refine ab ?_;refine gQ fun _ Z=>?_;refine Z9 ?_;refine Z9 ?_;refine Z6 ?_;refine eQ Z ?_;clear Z;refine ai rfl (fun hf => ?_) (fun hf => ?_)
  ·have hf : b < n := by simp at hf; omega
   refine ag ?_;show AWP _ _ _ _ _ _;refine ab ?_;refine ac ?_;refine aQ tok mixed (A := [[], [], [], [0, 1], [], [], [], [4, 5], [0, 1, 2, 4, 5, 6], [], [0, 1, 2, 3, 4, 5, 6, 7], [0, 1, 2, 3, 4, 5, 6, 7, 8, 9], [0, 1, 2, 3, 4, 5, 6, 7, 8, 9, 10]]) (an := [{}, {}, {}, {}, {}, {}, {}, {}, {}, {}, {}, {}, {}]) rfl (by kernel_rfl) rfl fun _ Z=>?_;refine Z9 ?_;refine Z9 ?_;refine aa rfl (x_6 rfl rfl rfl rfl rfl hg) rfl ?_;refine Z7 ?_;refine Z9 ?_;refine Z9 ?_;refine aa rfl (x_6 rfl rfl rfl rfl rfl hg) rfl ?_;refine Z7 ?_;refine ah rfl (wx (hG a) (hO a)) rfl ?_;refine Z9 ?_;refine ah rfl (wm (by omega)) rfl ?_;refine ah rfl (pp (y := 1) (Nat.lt_of_le_of_lt (Nat.div_le_self _ _) (iN (n := 64) (hG a))) (by omega)) rfl ?_;refine ah rfl (wu (c := q a b) (by rw [Ax, hq]; unfold vN; cases (bdif (G a) (O a)).testBit b <;> rfl)) rfl ?_;refine eQ Z ?_;clear Z;refine ai rfl (fun hx => ?_) (fun hx => ?_)
   ·rw [if_pos hx] at hs';refine gR fun _ Z=>?_;refine rh rfl AL rfl ?_;refine Z9 ?_;refine Z9 ?_;refine dz rfl rfl rfl ?_;refine aH rfl rfl (by rcases L with _|L <;> rfl) rfl ?_;refine ri rfl rfl rfl rfl rfl rfl rfl rfl rfl (by decide) (Nat.le_of_ble_eq_true rfl) rfl (by simp) (by rw [List.length_map, hL]) (by simp) (by simp <;> omega) (by rcases L with _|L <;> rfl) rfl rfl ?_;refine Z8 ?_;refine eQ Z ?_;clear Z;show AWP _ _ _ _ _ _;refine gR fun _ Z=>?_;refine Z9 ?_;refine ah rfl (aC (c := ((b + 1 : Nat) : Int)) (by omega) (by omega)) rfl ?_;refine Z8 ?_;refine eQ Z ?_;clear Z;refine ⟨b + 1, by omega, ⟨by omega, hf⟩, Wk.rn [0, 8, 10, 11, 12, 13, 27, 28] [56] 56 200 rfl rfl rfl ⟨rfl, rfl, rfl, ?_, rfl, rfl, rfl, rfl, trivial⟩ ⟨?_, trivial⟩⟩
    ·rw [hs', qg hL]; rfl
    ·rw [hs', qV hL]; rfl
   ·rw [if_neg (by rw [hx]; decide), List.append_nil] at hs';refine ag ?_;show AWP _ _ _ _ _ _;refine gR fun _ Z=>?_;refine Z9 ?_;refine ah rfl (aC (c := ((b + 1 : Nat) : Int)) (by omega) (by omega)) rfl ?_;refine Z8 ?_;refine eQ Z ?_;clear Z;refine ⟨b + 1, by omega, ⟨by omega, hf⟩, ?_⟩;rw [hs', hL];exact Wk.mk' ⟨rfl, rfl, rfl, rfl, rfl, rfl, rfl, rfl, trivial⟩ ⟨rfl, trivial⟩
  have hf : b = n := by simp at hf; omega
  subst hf
  refine aw ?_;show AWP _ _ _ _ _ _;refine gR fun _ Z=>?_;refine ah rfl (aC (c := ((a + 1 : Nat) : Int)) (by omega) (by omega)) rfl ?_;refine Z9 ?_;refine eQ Z ?_;clear Z;refine ⟨a + 1, by omega, hg, ?_⟩
  have ee : prP q b (a + 1) = l := by rw [hl]; rfl
  rw [ee, hL];exact Wk.mk' ⟨rfl, rfl, rfl, rfl, rfl, rfl, trivial⟩ ⟨rfl, trivial⟩
 have hf : a = n := by simp at hc; omega
 subst hf
 refine aw ?_;show AWP _ _ _ _ _ _
 obtain ⟨l, hl⟩ : ∃ l, l = prP q a a := ⟨_, rfl⟩
 rw [<- hl]
 rcases l with _ | ⟨p, l⟩
 ·refine gQ fun _ Z=>?_;refine Z9 ?_;refine Z8 ?_;refine Z8 ?_;refine eQ Z ?_;clear Z;exact aj a6
 ·refine ew [11] [200] 200 [(11, V1 (.sl ((p :: l).map prD)))] [] rfl ?_ trivial ?_
  ·exact ⟨bR rfl (by simp), trivial⟩
  refine gQ fun _ Z=>?_;refine Z9 ?_;refine Z8 ?_;refine Z8 ?_;refine eQ Z ?_;clear Z;exact aj a6
end Go.Proofs.YtomlkgcfagnngaaGreatDoor

/- law27: Fill's matrices. No condition. -/
namespace Go.Proofs.YtomlkgcfagnngaaGreatDoor
attribute [local irreducible] au

def eV (a b i : Nat) : Int := if i = a then 1 else if i = b then -1 else 0
def eaP (es : List PT) (k : Nat) : Nat := ((es.getD k ⟨0, 0⟩).x % 6).toNat
def ebP (es : List PT) (k : Nat) : Nat := ((es.getD k ⟨0, 0⟩).y % 6).toNat
theorem zV (es : List PT) (k : Nat) : eaP es k < 6 := by unfold eaP; omega
theorem zU (es : List PT) (k : Nat) : ebP es k < 6 := by unfold ebP; omega
def kpt (M : Nat -> Nat -> Int) (a b : Nat) : Bool := decide (a ≠ b) && decide (M a b = 0)
def wI (es : List PT) : Nat -> Nat -> Nat -> Int
 | 0, i, j => if i = j then 1 else 0
 | k + 1, i, j => if kpt (wI es k) (eaP es k) (ebP es k) = true then wI es k i j + eV (eaP es k) (ebP es k) i * eV (eaP es k) (ebP es k) j else wI es k i j
theorem lU (es : List PT) : ∀ k i j, wI es k i j = wI es k j i
 | 0, i, j => by
  simp only [wI]; by_cases h : i = j
  ·rw [if_pos h, if_pos h.symm]
  ·rw [if_neg h, if_neg (Ne.symm h)]
 | k + 1, i, j => by
  simp only [wI];rw [lU es k i j, Int.mul_comm]
theorem AZ (a b i : Nat) : eV a b i = 1 \/ eV a b i = -1 \/ eV a b i = 0 := by
 unfold eV
 split
 ·exact Or.inl rfl
 ·split
  ·exact Or.inr (Or.inl rfl)
  ·exact Or.inr (Or.inr rfl)
theorem uG (es : List PT) : ∀ (k i j : Nat), -(1 + (k : Int)) <= wI es k i j /\ wI es k i j <= 1 + (k : Int)
 | 0, i, j => by simp only [wI]; split <;> omega
 | k + 1, i, j => by
  have ih := uG es k i j
  have h1 := AZ (eaP es k) (ebP es k) i
  have h2 := AZ (eaP es k) (ebP es k) j
  simp only [wI]
  split
  ·rcases h1 with h1 | h1 | h1 <;> rcases h2 with h2 | h2 | h2 <;> rw [h1, h2] <;> omega
  ·omega
theorem o9 {M : Nat -> Nat -> Int} {a b : Nat} : kpt M a b = true ↔ a ≠ b /\ M a b = 0 := by
 unfold kpt; simp
theorem yZ {M : Nat -> Nat -> Int} {a b : Nat} (hne : a ≠ b) (h : M a b = 0) (h' : M b a = 0) {M1 M2 M3 : Nat -> Nat -> Int} (e1 : M1 = eI M a b (-1)) (e2 : M2 = eI M1 b a (-1)) (e3 : M3 = eI M2 a a (M2 a a + 1)) :
  eI M3 b b (M3 b b + 1) = fun i j => M i j + eV a b i * eV a b j := by
 funext i j
 subst e1 e2 e3
 simp only [eI, eV]
 by_cases i1 : i = a
 ·subst i1
  by_cases j1 : j = i
  ·subst j1; simp [hne, Ne.symm hne]
  ·by_cases j2 : j = b
   ·subst j2; simp [hne, Ne.symm hne, h]
   ·simp [j1, j2, hne, Ne.symm hne]
 ·by_cases i2 : i = b
  ·subst i2
   by_cases j1 : j = a
   ·subst j1; simp [hne, Ne.symm hne, h']
   ·by_cases j2 : j = i
    ·subst j2; simp [hne, Ne.symm hne]
    ·simp [j1, j2, hne, Ne.symm hne]
  ·simp [i1, i2]
def rE (es : List PT) (i k : Nat) : Rat := if kpt (wI es k) (eaP es k) (ebP es k) = true then ((eV (eaP es k) (ebP es k) i : Int) : Rat) else 0
theorem yr (es : List PT) : ∀ K i j, ((wI es K i j : Int) : Rat) = gmM K (rE es) 1 i j
 | 0, i, j => by
  simp only [wI, gmM, sm]
  by_cases h : i = j
  ·rw [if_pos h, if_pos h]; grind
  ·rw [if_neg h, if_neg h]; grind
 | K + 1, i, j => by
  have ih := yr es K i j
  unfold gmM at ih ⊢
  rw [bz];simp only [wI]
  have : rE es i K * rE es j K = if kpt (wI es K) (eaP es K) (ebP es K) = true then ((eV (eaP es K) (ebP es K) i * eV (eaP es K) (ebP es K) j : Int) : Rat) else 0 := by
   unfold rE
   split
   ·rw [Rat.intCast_mul]
   ·grind
  rw [this]
  split
  ·rw [Rat.intCast_add, ih]; grind
  ·rw [ih]; grind
def mF (es : List PT) : List (List RW) := bH 6 6 fun i j => qzW (wI es es.length i j : Int)
section
variable {es : List PT} (hl : es.length <= 40)
theorem ja : (mF es).length = 6 := ic _ _ _
theorem sO : ∀ r ∈ mF es, r.length = 6 := fun r hr => by
 obtain ⟨i, _, rfl⟩ := List.mem_map.1 hr
 exact ez _ _
theorem vR {i j : Nat} (hi : i < 6) (hj : j < 6) : cw (mF es) i j = ((wI es es.length i j : Int) : Rat) := by
 unfold cw mF; rw [iE hi hj, bp]
include hl
theorem AM (i j : Nat) : -41 <= wI es es.length i j /\ wI es es.length i j <= 41 := by have := uG es es.length i j; omega
theorem yD : okM 2 (mF es) := fun r hr' x hx => by
 obtain ⟨i, _, rfl⟩ := List.mem_map.1 hr'
 obtain ⟨j, _, rfl⟩ := List.mem_map.1 hx
 have := AM hl i j
 exact (bg (vr ⟨by omega, by omega⟩)).mono rfl
theorem Bo : bI (mF es) = true := by
 refine decide_eq_true ⟨by rw [ja]; omega, fun r hr' => ?_, fun i hi j hj => ?_⟩
 ·rw [ja, sO r hr']
 ·rw [ja] at hi
  show cw (mF es) i j = cw (mF es) j i
  rw [vR hi (by omega), vR (by omega) hi, lU]
end
structure FOrd (es : List PT) (B : Nat -> Nat -> Rat) (e : Nat -> Nat) : Prop where
 B : ∀ i j, i < 6 -> j < 6 -> B i j = ((wI es es.length (e i) (e j) : Int) : Rat)
 l : ∀ i, i < 6 -> e i < 6
 i : ∀ i j, i < 6 -> j < 6 -> e i = e j -> i = j
section
variable {es : List PT} {B : Nat -> Nat -> Rat} {e : Nat -> Nat} (h : FOrd es B e)
include h
theorem FOrd.sym : ∀ i j, i < 6 -> j < 6 -> B i j = B j i := fun i j hi hj => by rw [h.B i j hi hj, h.B j i hj hi, lU]
theorem FOrd.gm : ∀ i j, i < 6 -> j < 6 -> B i j = gmM es.length (fun i k => rE es (e i) k) 1 i j := fun i j hi hj => by
 rw [h.B i j hi hj, yr]
 unfold gmM
 congr 1
 by_cases hij : i = j
 ·rw [if_pos hij, if_pos (by rw [hij])]
 ·rw [if_neg hij, if_neg (fun e' => hij (h.i i j hi hj e'))]
theorem FOrd.DD : ∀ k, k < 6 -> 0 < DD B k := vD h.sym fun x hx => by rw [mT h.gm]; exact yL _ (by decide) hx
theorem FOrd.pos : iP B 6 = true := decide_eq_true h.DD
end
def AI (es : List PT) : Nat -> Nat -> Bool := fun i j => decide (wI es es.length i j ≠ 0)
def psF (es : List PT) : List (Nat × Nat) := prP (AI es) 6 6
def qC (es : List PT) (e : Nat -> Nat) : List (Nat × Nat) := prP (vN (qE 6 (psF es) e) (eu (psF es) (psF es).length)) 6 6
theorem vu (es : List PT) : OKp 6 (psF es) := zu _ (by omega) 6
theorem xF (es : List PT) : (psF es).length <= 36 := jz _ 6 6
theorem sN {es : List PT} {a b : Nat} (hab : a < b) (hb : b < 6) (h : wI es es.length a b ≠ 0) : (a, b) ∈ psF es := jD.2 ⟨by show a < 6; omega, hab, hb, decide_eq_true h⟩
theorem tX {es : List PT} {B : Nat -> Nat -> Rat} {e : Nat -> Nat} (h : FOrd es B e) {i j : Nat} (hi : i < 6) (hji : j < i) (hL : LL B i j ≠ 0) :
  (min (e i) (e j), max (e i) (e j)) ∈ psF es ++ qC es e := by
 have hd := h.DD
 have ok := vu es
 have hf := Ae (B := B) (n := 6) h.sym (fun k hk => by have := hd k hk; grind) (g := eu (psF es) (psF es).length) (e := e) (full := 2 ^ 6 - 1)
  (fun k hk => by rw [Nat.testBit_two_pow_sub_one]; exact decide_eq_true (h.l k hk)) h.i
  (fun a b ha hb hab hB => by
   rw [qT ok]
   have e0 : wI es es.length (e a) (e b) ≠ 0 := fun e0 => hB (by rw [h.B a b ha hb, e0]; rfl)
   have hne : e a ≠ e b := fun e1 => hab (h.i a b ha hb e1)
   rcases Nat.lt_or_gt_of_ne hne with hlt | hlt
   ·exact Or.inl (sN hlt (h.l b hb) e0)
   ·exact Or.inr (sN hlt (h.l a ha) (by rw [lU]; exact e0))) hi hji hL
 have hne : e i ≠ e j := fun e1 => by have := h.i i j hi (by omega) e1; omega
 have li := h.l i hi
 have lj := h.l j (by omega)
 have key : ∀ a b, a < b -> b < 6 -> (qE 6 (psF es) e a).testBit b = true -> (a, b) ∈ psF es ++ qC es e := fun a b hab hb ht => by
  rw [List.mem_append]
  by_cases ho : (eu (psF es) (psF es).length a).testBit b = true
  ·rcases (qT ok a b).1 ho with h1 | h1
   ·exact Or.inl h1
   ·have := (ok.b _ h1).1; simp only at this; omega
  ·refine Or.inr (jD.2 ⟨by show a < 6; omega, hab, hb, ?_⟩)
   show (bdif _ _).testBit b = true
   rw [jT, ht]
   simpa using ho
 rcases Nat.lt_or_gt_of_ne hne with hlt | hlt
 ·rw [Nat.min_eq_left (by omega), Nat.max_eq_right (by omega)];exact key _ _ hlt lj hf.1
 ·rw [Nat.min_eq_right (by omega), Nat.max_eq_left (by omega)];exact key _ _ hlt li hf.2
end Go.Proofs.YtomlkgcfagnngaaGreatDoor

/- law27: Fill. No condition. -/
namespace Go.Proofs.YtomlkgcfagnngaaGreatDoor
attribute [local irreducible] au

theorem zR : Af Tryz.prog 29 2 := by
 have hf : (Tryz.prog.fieldsOf 29).toList.map (fun f => (f.name == "_", f.type, f.offset)) = [(false, 3, 0), (false, 3, 1)] := by kernel_rfl
 refine x4 (t := 3) (by kernel_rfl) (by kernel_rfl) (by kernel_rfl) (by kernel_rfl) ?_ (by kernel_rfl);rw [hf];exact ⟨rfl, rfl, trivial⟩
def yu : Tab := { tab with eqs := fun t => if Nat.beq t 29 then some 2 else none }
theorem Aq : TOK Tryz.prog yu := by
 refine ⟨tok.ty, tok.clo, fun t n h => ?_⟩;simp only [yu] at h
 split at h
 ·rename_i ht
  cases h
  rw [Nat.eq_of_beq_eq_true ht]; exact zR
 ·cases h
theorem zZ {T : Tab} {t : TypeId} {a b c d : Nat} {q : Bool} (h : T.eqs t = some 2) (hq : decide ((a, b) = (c, d)) = q) : aB T .eql t (AG [.d (lI a), .d (lI b)]) (AG [.d (lI c), .d (lI d)]) = .set (dB q) := by
 subst hq
 have : (([(a : Int), (b : Int)] == [(c : Int), (d : Int)]) : Bool) = decide ((a, b) = (c, d)) := by
  rw [Bool.eq_iff_iff]
  simp
  omega
 simp only [aB, bV, qK, h, mK, lI, aS]
 simp [this]
theorem tM {F : Nat -> DC} {n i a b id sz off len : Nat} (h : id ≠ a := by decide) : (cy F n i (.own id sz off len)).map (iO a b) = cy F n i (.own id sz off len) := by
 simp [cy, iO, rI, h, Function.comp_def]

set_option maxHeartbeats 8000000 in
theorem xS (es : List PT) (cs : List Nat) (hes : ∀ p ∈ es, p.I) (h8 : ∀ c ∈ cs, c < 256) : Con Tryz.prog 3 [V1 (dPs es), V1 (dB8 cs)] { v := dB true } := by
 have cP := tK 6 cs (by omega) h8
 have he1 := vC 6 cs
 have he2 := tL 6 cs
 generalize my 6 cs = e at cP he1 he2;refine Z3 Tryz.func3 ?_
 intro w0 X
 rw [ak _ _ [(0, V1 (dPs es)), (1, V1 (dB8 cs))] rfl rfl];refine gQ fun _ Z=>?_;refine Z8 ?_;refine eQ Z ?_;clear Z;refine ab ?_;refine gQ fun _ Z=>?_;refine ae rfl rfl (oz) rfl rfl rfl rfl ?_;refine g7 rfl rfl rfl ?_;refine Z9 ?_;refine Z9 ?_;refine az rfl (de PT.dc rfl rfl) rfl ?_;refine Z6 ?_;refine Z4 ?_;refine eQ Z ?_;clear Z;refine ai rfl (fun hc => ?_) (fun hc => ?_)
 ·refine gQ fun _ Z=>?_;refine ae rfl rfl (oz) rfl rfl rfl rfl ?_;refine Z8 ?_;refine eQ Z ?_;clear Z;exact aj a6
 have hl : es.length <= 40 := by
  have hc : decide ((es.length : Int) > 40) = false := hc
  simp at hc; omega
 refine ag ?_;show AWP _ _ _ _ _ _;refine gQ fun _ Z=>?_;refine nO (f := _) (v := _) rfl (vO (l := 6) rfl rfl rfl rfl rfl (Nat.le_of_ble_eq_true rfl) rfl rfl (by omega)) rfl rfl ?_;refine Z8 ?_;refine eQ Z ?_;clear Z;refine ab ?_;refine gQ fun _ Z=>?_;refine Z8 ?_;refine eQ Z ?_;clear Z;refine ac (aG (α := Nat) (fun i => mk 248 [(0, V1 (dPs es)), (1, V1 (dB8 cs)), (5, .val (.one (.own 35 1 0 6))), (6, dI i)] (((35, some (.box (gridC 1000 1 6 i ++ List.replicate (6 - i) .nil))) :: []) ++ da 1000 1 i (fun a => cU 6 (wI es 0 a))) [35]) (fun i => i <= 6) (fun i => 6 - i) 0 ?_ (Nat.zero_le _) ?_)
 ·refine Wk.trans ?_ (Wk.rbE (rb := []) rfl);exact Wk.gkeep ⟨rfl, rfl, rfl, rfl, trivial⟩ ⟨rfl, trivial⟩ rfl (fun q hq => by rw [aA, if_neg (by omega)]; rfl)
 intro i hi
 refine ab ?_;refine gQ fun _ Z=>?_;refine Z9 ?_;refine Z6 ?_;refine eQ Z ?_;clear Z;refine ai rfl (fun hg => ?_) (fun hg => ?_)
 ·have hg : i < 6 := by simp at hg; omega
  have nr : ∀ d, d < 1000 -> (gridC 1000 1 6 i ++ List.replicate (6 - i) SC.nil).all (SC.noRef d) = true := fun d hd => by
   rw [List.all_append, ie (Or.inl hd), nS]; rfl
  have hlen : i < (gridC 1000 1 6 i ++ List.replicate (6 - i) SC.nil).length := by rw [List.length_append, jI, List.length_replicate]; omega
  have hset : ∀ c : SC, (gridC 1000 1 6 i ++ List.replicate (6 - i) SC.nil).set i c = gridC 1000 1 6 i ++ c :: List.replicate (6 - (i + 1)) SC.nil := fun c => by
   rw [pV hg]; exact sq (jI _ _ _ _)
  have hrow : ((List.replicate 6 0).map cN).set i [.lit (.int .i64 1)] = cU 6 (wI es 0 i) := by
   rw [List.map_replicate]
   show (List.replicate 6 [DC.lit (.int .i64 0)]).set i _ = _
   rw [<- tB];exact pT (show wI es 0 i i = 1 from if_pos rfl) (fun k hk => if_neg (Ne.symm hk))
  generalize gridC 1000 1 6 i ++ List.replicate (6 - i) SC.nil = gs at nr hlen hset ⊢;refine ag ?_;show AWP _ _ _ _ _ _;refine ab ?_;refine ac ?_;refine gQ fun _ Z=>?_;refine Z9 ?_;refine Z9 ?_;refine bn (sz := _) (es := _) (f := _) (v := _) rfl (Bn (l := 6) rfl rfl rfl rfl rfl (Nat.le_of_ble_eq_true rfl) rfl rfl (by omega)) (eE rfl rfl (nr 42 (by decide))) rfl ?_;refine aa rfl (x_o (i := i) (j := i) rfl rfl rfl rfl rfl hg (Nat.zero_add _)) rfl ?_;refine pQ rfl (uQ rfl rfl rfl hlen) rfl rfl rfl ?_;refine eQ Z ?_;clear Z;refine gR fun _ Z=>?_;refine Z9 ?_;refine Z9 ?_;refine aa rfl (x_o (i := i) (j := i) rfl rfl rfl rfl rfl hg (Nat.zero_add _)) rfl ?_;refine aR rfl (mJ rfl rfl rfl rfl (List.getElem?_set_self hlen)) rfl ?_;refine Z9 ?_;refine aa rfl (x_o (i := i) (j := i) rfl rfl rfl rfl rfl hg (Nat.zero_add _)) rfl ?_;refine am rfl (ns (ds := [.lit (.int .i64 1)]) rfl rfl (by simpa using hg) (fun el h => by obtain ⟨q, _, rfl⟩ := List.mem_map.1 (List.mem_of_getElem? h); rfl) rfl rfl rfl) rfl rfl rfl ?_;refine eQ Z ?_;clear Z;show AWP _ _ _ _ _ _;refine gR fun _ Z=>?_;refine Z9 ?_;refine ah rfl (aC (c := ((i + 1 : Nat) : Int)) (by omega) (by omega)) rfl ?_;refine Z8 ?_;refine eQ Z ?_;clear Z;rw [hset, hrow];refine ⟨i + 1, by omega, hg, Wk.trans (Wk.rbE (rb' := [35]) rfl) (Wk.gpush (d := 42) (gid := 35) (row := cU 6 (wI es 0 i)) (R := fun a => cU 6 (wI es 0 a)) (S1 := []) ⟨rfl, rfl, rfl, rfl, trivial⟩ rfl ?_ trivial rfl (by decide) (by decide) (by decide) rfl rfl rfl rfl ?_ (fun a _ => ?_))⟩
  ·simp only [List.all_cons, List.all_nil, SV.noRef, VV.noRef, SC.noRef, Bool.and_true, Bool.true_and, bne_iff_ne, ne_eq, Bool.and_eq_true]; omega
  ·intro q hq
   rw [aA, if_neg (by omega), aA, if_neg (by omega), aA, if_neg (by omega), jt rfl hq]
  ·by_cases ea : a = i
   ·rw [if_pos ea, ea]
   ·rw [if_neg ea]
 have hg : i = 6 := by simp at hg; omega
 subst hg
 refine aw ?_;show AWP _ _ _ _ _ _;refine ab ?_;refine gQ fun _ Z=>?_;refine Z8 ?_;refine eQ Z ?_;clear Z;refine ac (aG (α := Nat) (fun k => mk 248 [(0, V1 (dPs es)), (1, V1 (dB8 cs)), (5, .val (.one (.own 35 1 0 6))), (7, dI k)] ([(35, some (.box (gridC 1000 1 6 6)))] ++ da 1000 1 6 (fun a => cU 6 (wI es k a))) [35]) (fun k => k <= es.length) (fun k => es.length - k) 0 ?_ (Nat.zero_le _) ?_)
 ·exact Wk.gkeep ⟨rfl, rfl, rfl, rfl, trivial⟩ ⟨rfl, trivial⟩ rfl (fun q hq => jt rfl hq)
 intro k hk
 refine ab ?_;refine gQ fun _ Z=>?_;refine Z9 ?_;refine Z9 ?_;refine az rfl (de PT.dc rfl rfl) rfl ?_;refine Z6 ?_;refine eQ Z ?_;clear Z;refine ai rfl (fun hg => ?_) (fun hg => ?_)
 ·have hg : k < es.length := by simp at hg; omega
  have hp := hes _ (List.getElem_mem hg)
  have ge : es.getD k ⟨0, 0⟩ = es[k] := by rw [List.getD_eq_getElem?_getD, List.getElem?_eq_getElem hg]; rfl
  have ca := wQ es[k].x 6 hp.1 (by decide) (by decide)
  have cb := wQ es[k].y 6 hp.2 (by decide) (by decide)
  have ea : es[k].x % 6 = ((eaP es k : Nat) : Int) := by unfold eaP; rw [ge]; omega
  have eb : es[k].y % 6 = ((ebP es k : Nat) : Int) := by unfold ebP; rw [ge]; omega
  rw [ea] at ca;rw [eb] at cb
  have hM : ∀ i j, wI es (k + 1) i j = if kpt (wI es k) (eaP es k) (ebP es k) = true then wI es k i j + eV (eaP es k) (ebP es k) i * eV (eaP es k) (ebP es k) j else wI es k i j := fun i j => rfl
  have ha := zV es k
  have hb := zU es k
  have hsy := lU es k
  have hbd : ∀ i j, -1000 <= wI es k i j /\ wI es k i j <= 1000 := fun i j => by have := uG es k i j; omega
  generalize eaP es k = a at ca ha hM;generalize ebP es k = b at cb hb hM;generalize hMM : wI es k = M at hM hsy hbd ⊢
  have hkeep : kpt M a b ≠ true -> (fun a => cU 6 (M a)) = fun a => cU 6 (wI es (k + 1) a) := fun h => by
   have : wI es (k + 1) = M := by funext i j; rw [hM, if_neg h]
   rw [this]
  refine ag ?_;show AWP _ _ _ _ _ _;refine ab ?_;refine ac ?_;refine aQ tok mixed (A := [[], [], [], [0, 1], [0, 1, 2], [0, 1, 2, 3], [], [], [], [6, 7], [6, 7, 8], [0, 1, 2, 3, 4, 6, 7, 8, 9], [6, 7, 8, 9, 10], []]) (an := [{}, {}, {}, {}, {}, {}, { c := [61] }, { c := [61] }, { c := [61] }, { c := [61] }, { c := [61] }, {}, {}, {}]) rfl (by kernel_rfl) rfl fun _ Z=>?_;refine Z9 ?_;refine Z9 ?_;refine aa rfl (x_m PT.dc rfl rfl rfl rfl hg rfl) rfl ?_;refine Z5 ?_;refine Z7 ?_;refine ae rfl rfl (ca) rfl rfl rfl rfl ?_;refine Z9 ?_;refine Z9 ?_;refine aa rfl (x_m PT.dc rfl rfl rfl rfl hg rfl) rfl ?_;refine Z5 ?_;refine Z7 ?_;refine ae rfl rfl (cb) rfl rfl rfl rfl ?_;refine Z8 ?_;refine Z8 ?_;refine eQ Z ?_;clear Z
  by_cases hab : a = b
  ·refine gQ fun _ Z=>?_;refine Z9 ?_;refine Z9 ?_;refine ah rfl (oh (c := false) (by simp [hab])) rfl ?_;refine Z9 ?_;refine ar rfl ?_;refine ar rfl ?_;refine ar rfl ?_;refine ar rfl ?_;refine ar rfl ?_;refine ar rfl ?_;refine ar rfl ?_;refine ar rfl ?_;refine Z4 ?_;refine eQ Z ?_;clear Z;refine ai rfl (fun h => by cases h) (fun _ => ?_);refine ag ?_;show AWP _ _ _ _ _ _;refine gR fun _ Z=>?_;refine Z9 ?_;refine ah rfl (aC (c := ((k + 1 : Nat) : Int)) (by omega) (by omega)) rfl ?_;refine Z8 ?_;refine eQ Z ?_;clear Z;refine ⟨k + 1, by omega, hg, ?_⟩;rw [hkeep (fun h => (o9.1 h).1 hab)];exact Wk.gkeep (B := 1000) ⟨rfl, rfl, rfl, rfl, trivial⟩ ⟨rfl, trivial⟩ rfl (fun q hq => jt rfl hq)
  refine gQ fun _ Z=>?_;refine Z9 ?_;refine Z9 ?_;refine ah rfl (oh (c := true) (by simp; omega)) rfl ?_;refine Z9 ?_;refine Z9 ?_;refine Z9 ?_;refine aa rfl (x_o (i := a) (j := a) rfl rfl rfl rfl rfl ha (Nat.zero_add _)) rfl ?_;refine aR rfl (mJ rfl rfl rfl rfl (gf ha)) rfl ?_;refine Z9 ?_;refine aa rfl (x_o (i := b) (j := b) rfl rfl rfl rfl rfl hb (Nat.zero_add _)) rfl ?_;refine aR rfl (l_o rfl (iY rfl ha) (em hb) rfl rfl) rfl ?_;refine ah rfl (jQ (c := decide (M a b = 0)) (by by_cases h : M a b = 0 <;> simp [h])) rfl ?_;refine Z4 ?_;refine eQ Z ?_;clear Z;refine ai rfl (fun h0 => ?_) (fun h0 => ?_)
  ·have h0 : M a b = 0 := of_decide_eq_true h0
   have h0' : M b a = 0 := by rw [hsy]; exact h0
   obtain ⟨M1, hM1⟩ : ∃ M1, M1 = eI M a b (-1) := ⟨_, rfl⟩
   obtain ⟨M2, hM2⟩ : ∃ M2, M2 = eI M1 b a (-1) := ⟨_, rfl⟩
   obtain ⟨M3, hM3⟩ : ∃ M3, M3 = eI M2 a a (M2 a a + 1) := ⟨_, rfl⟩
   obtain ⟨M4, hM4⟩ : ∃ M4, M4 = eI M3 b b (M3 b b + 1) := ⟨_, rfl⟩
   have hb1 : ∀ i j, -1000 <= M1 i j /\ M1 i j <= 1000 := hM1 ▸ oD hbd (by omega)
   have hb2 : ∀ i j, -1000 <= M2 i j /\ M2 i j <= 1000 := hM2 ▸ oD hb1 (by omega)
   have q2 := hb2 a a
   have hb3 : ∀ i j, -2000 <= M3 i j /\ M3 i j <= 2000 := hM3 ▸ oD (fun i j => by have := hb2 i j; omega) (by omega)
   have q3 := hb3 b b
   have hfin : wI es (k + 1) = M4 := by
    rw [hM4, yZ hab h0 h0' hM1 hM2 hM3]
    funext i j
    rw [hM, if_pos (o9.2 ⟨hab, h0⟩)]
   refine gQ fun _ Z=>?_;refine Z9 ?_;refine Z9 ?_;refine aa rfl (x_o (i := a) (j := a) rfl rfl rfl rfl rfl ha (Nat.zero_add _)) rfl ?_;refine aR rfl (mJ rfl rfl rfl rfl (gf ha)) rfl ?_;refine Z9 ?_;refine aa rfl (x_o (i := b) (j := b) rfl rfl rfl rfl rfl hb (Nat.zero_add _)) rfl ?_;refine am rfl (xj (y := -1) rfl rfl (iY rfl ha) hb) rfl rfl rfl ?_;refine eQ Z ?_;clear Z;refine cg (Wk.gset (B := 1000) (S0 := [(35, some (.box (gridC 1000 1 6 6)))]) (E' := [(0, V1 (dPs es)), (1, V1 (dB8 cs)), (5, .val (.one (.own 35 1 0 6))), (7, dI k), (8, dI a), (9, dI b)]) (R' := fun a => cU 6 (M1 a)) ⟨rfl, rfl, rfl, rfl, rfl, rfl, trivial⟩ rfl ha (fun a _ => by rw [hM1]; exact iC a)) ?_;refine gQ fun _ Z=>?_;refine Z9 ?_;refine Z9 ?_;refine aa rfl (x_o (i := b) (j := b) rfl rfl rfl rfl rfl hb (Nat.zero_add _)) rfl ?_;refine aR rfl (mJ rfl rfl rfl rfl (gf hb)) rfl ?_;refine Z9 ?_;refine aa rfl (x_o (i := a) (j := a) rfl rfl rfl rfl rfl ha (Nat.zero_add _)) rfl ?_;refine am rfl (xj (y := -1) rfl rfl (iY rfl hb) ha) rfl rfl rfl ?_;refine eQ Z ?_;clear Z;refine cg (Wk.gset (B := 1000) (S0 := [(35, some (.box (gridC 1000 1 6 6)))]) (E' := [(0, V1 (dPs es)), (1, V1 (dB8 cs)), (5, .val (.one (.own 35 1 0 6))), (7, dI k), (8, dI a), (9, dI b)]) (R' := fun a => cU 6 (M2 a)) ⟨rfl, rfl, rfl, rfl, rfl, rfl, trivial⟩ rfl hb (fun a _ => by rw [hM2]; exact iC a)) ?_;refine gQ fun _ Z=>?_;refine Z9 ?_;refine Z9 ?_;refine aa rfl (x_o (i := a) (j := a) rfl rfl rfl rfl rfl ha (Nat.zero_add _)) rfl ?_;refine aR rfl (mJ rfl rfl rfl rfl (gf ha)) rfl ?_;refine Z9 ?_;refine aa rfl (x_o (i := a) (j := a) rfl rfl rfl rfl rfl ha (Nat.zero_add _)) rfl ?_;refine aR rfl (l_o rfl (iY rfl ha) (em ha) rfl rfl) rfl ?_;refine ah rfl (aC rfl (by omega)) rfl ?_;refine aa rfl (x_o (i := a) (j := a) rfl rfl rfl rfl rfl ha (Nat.zero_add _)) rfl ?_;refine am rfl (xj rfl rfl (iY rfl ha) ha) rfl rfl rfl ?_;refine eQ Z ?_;clear Z;refine cg (Wk.gset (B := 1000) (S0 := [(35, some (.box (gridC 1000 1 6 6)))]) (E' := [(0, V1 (dPs es)), (1, V1 (dB8 cs)), (5, .val (.one (.own 35 1 0 6))), (7, dI k), (8, dI a), (9, dI b)]) (R' := fun a => cU 6 (M3 a)) ⟨rfl, rfl, rfl, rfl, rfl, rfl, trivial⟩ rfl ha (fun a _ => by rw [hM3]; exact iC a)) ?_;refine gR fun _ Z=>?_;refine Z9 ?_;refine Z9 ?_;refine aa rfl (x_o (i := b) (j := b) rfl rfl rfl rfl rfl hb (Nat.zero_add _)) rfl ?_;refine aR rfl (mJ rfl rfl rfl rfl (gf hb)) rfl ?_;refine Z9 ?_;refine aa rfl (x_o (i := b) (j := b) rfl rfl rfl rfl rfl hb (Nat.zero_add _)) rfl ?_;refine aR rfl (l_o rfl (iY rfl hb) (em hb) rfl rfl) rfl ?_;refine ah rfl (aC rfl (by omega)) rfl ?_;refine aa rfl (x_o (i := b) (j := b) rfl rfl rfl rfl rfl hb (Nat.zero_add _)) rfl ?_;refine am rfl (xj rfl rfl (iY rfl hb) hb) rfl rfl rfl ?_;refine eQ Z ?_;clear Z;refine cg (Wk.gset (B := 1000) (S0 := [(35, some (.box (gridC 1000 1 6 6)))]) (E' := [(0, V1 (dPs es)), (1, V1 (dB8 cs)), (5, .val (.one (.own 35 1 0 6))), (7, dI k), (8, dI a), (9, dI b)]) (R' := fun a => cU 6 (M4 a)) ⟨rfl, rfl, rfl, rfl, rfl, rfl, trivial⟩ rfl hb (fun a _ => by rw [hM4]; exact iC a)) ?_;show AWP _ _ _ _ _ _;refine gR fun _ Z=>?_;refine Z9 ?_;refine ah rfl (aC (c := ((k + 1 : Nat) : Int)) (by omega) (by omega)) rfl ?_;refine Z8 ?_;refine eQ Z ?_;clear Z;refine ⟨k + 1, by omega, hg, ?_⟩;rw [hfin];exact Wk.gkeep (B := 1000) ⟨rfl, rfl, rfl, rfl, trivial⟩ ⟨rfl, trivial⟩ rfl (fun q hq => jt rfl hq)
  ·have h0 : ¬ M a b = 0 := of_decide_eq_false h0
   refine ag ?_;show AWP _ _ _ _ _ _;refine gR fun _ Z=>?_;refine Z9 ?_;refine ah rfl (aC (c := ((k + 1 : Nat) : Int)) (by omega) (by omega)) rfl ?_;refine Z8 ?_;refine eQ Z ?_;clear Z;refine ⟨k + 1, by omega, hg, ?_⟩;rw [hkeep (fun h => h0 (o9.1 h).2)];exact Wk.gkeep (B := 1000) ⟨rfl, rfl, rfl, rfl, trivial⟩ ⟨rfl, trivial⟩ rfl (fun q hq => jt rfl hq)
 have hg : k = es.length := by simp at hg; omega
 subst hg
 have hbW := AM hl
 obtain ⟨W, hW⟩ : ∃ W, W = wI es es.length := ⟨_, rfl⟩
 rw [<- hW] at hbW ⊢;refine aw ?_;show AWP _ _ _ _ _ _;refine cg (Wk.gkeep (B := 1000) (E' := [(1, V1 (dB8 cs)), (5, .val (.one (.own 35 1 0 6)))]) (S0 := (35, some (.box (gridC 1000 1 6 6))) :: []) ⟨rfl, rfl, trivial⟩ ⟨rfl, trivial⟩ rfl (fun q hq => jt rfl hq)) ?_;refine cg (Wk.gfreeze (fun i hi => ?_) rfl (by decide) (fun i hi => rfl) (fun i hi => dF 6 (W i))) ?_
 ·simp only [List.all_cons, List.all_nil, SV.noRef, VV.noRef, SC.noRef, Bool.and_true, Bool.true_and, bne_iff_ne, ne_eq]; omega
 refine cg (Wk.toArr (gid := 35) (E' := [(1, V1 (dB8 cs)), (5, .val (.one (.own 35 1 0 6)))]) (S1 := []) (l := (List.range 6).map fun i => .sl (cU 6 (W i))) ⟨rfl, rfl, trivial⟩ (by rw [List.map_map]; rfl) trivial rfl) ?_;refine cg (Wk.rbA (id := 35) rfl) ?_;refine ew [1, 5] [35] 35 [(1, V1 (dB8 cs)), (5, V1 (.sl (((List.range 6).map fun i => DC.sl (cU 6 (W i))).map fun c => [c])))] [] rfl ?_ trivial ?_
 ·exact ⟨rfl, bR rfl (by simp), trivial⟩
 refine gQ fun _ Z=>?_;refine Z8 ?_;refine eQ Z ?_;clear Z;refine gQ fun _ Z=>?_;refine nO (f := _) (v := _) rfl (vO (l := 6) rfl rfl rfl rfl rfl (Nat.le_of_ble_eq_true rfl) rfl rfl (by omega)) rfl rfl ?_;refine Z8 ?_;refine eQ Z ?_;clear Z;refine ab ?_;refine gQ fun _ Z=>?_;refine Z8 ?_;refine eQ Z ?_;clear Z
 have hget : ∀ i, i < 6 -> (((List.range 6).map fun i => DC.sl (cU 6 (W i))).map fun c => [c])[i]? = some [.sl (cU 6 (W i))] := fun i hi => by simp [hi]
 generalize hdW : (((List.range 6).map fun i => DC.sl (cU 6 (W i))).map fun c => [c]) = dW6 at hget ⊢
 obtain ⟨q, hq⟩ : ∃ q : Nat -> Nat -> Bool, q = AI es := ⟨_, rfl⟩
 have hqW : ∀ i j, q i j = decide (W i j ≠ 0) := fun i j => by rw [hq, hW]; rfl
 obtain ⟨F, hF⟩ : ∃ F : Nat -> DC, F = fun i => dRs (AQ 6 W i) := ⟨_, rfl⟩
 refine ac (aG (α := Nat) (fun i => mk 248 [(1, V1 (dB8 cs)), (5, V1 (.sl dW6)), (10, cr 300 2 (prP q 6 i).length), (11, .val (.one (.own 111 1 0 6))), (12, dI i)] [(111, some (.box (qh F 6 i))), (300, cx 2 ((prP q 6 i).map prD) (prP q 6 i).length)] [111]) (fun i => i <= 6) (fun i => 6 - i) 0 ?_ (Nat.zero_le _) ?_)
 ·refine Wk.trans ?_ (Wk.rbE (rb := []) rfl);exact Wk.mk' ⟨rfl, rfl, rfl, rfl, rfl, trivial⟩ ⟨rfl, rfl, trivial⟩
 intro i hi
 refine ab ?_;refine gQ fun _ Z=>?_;refine Z9 ?_;refine Z6 ?_;refine eQ Z ?_;clear Z;refine ai rfl (fun hg => ?_) (fun hg => ?_)
 ·have hg : i < 6 := by simp at hg; omega
  have hlP := jz q 6 i
  obtain ⟨l0, hl0⟩ : ∃ l0, l0 = prP q 6 i := ⟨_, rfl⟩
  rw [<- hl0] at hlP ⊢;refine ag ?_;show AWP _ _ _ _ _ _;refine ab ?_;refine ac ?_;refine gQ fun _ Z=>?_;refine Z8 ?_;refine eQ Z ?_;clear Z;rw [zA hg];refine ac (aG (α := Nat) (fun j => mk 248 [(1, V1 (dB8 cs)), (5, V1 (.sl dW6)), (10, cr 300 2 (l0 ++ prR q i j).length), (11, .val (.one (.own 111 1 0 6))), (12, dI i), (13, dI j)] [(111, some (.box (cy F 6 i (Bl 350 4 j)))), (300, cx 2 ((l0 ++ prR q i j).map prD) (l0 ++ prR q i j).length), (350, cx 4 (((List.range j).map fun j => qzW (W i j : Int)).map RW.dc) j)] [111]) (fun j => j <= 6) (fun j => 6 - j) 0 ?_ (Nat.zero_le _) ?_)
  ·rw [show l0 ++ prR q i 0 = l0 from List.append_nil _];exact Wk.mk' ⟨rfl, rfl, rfl, rfl, rfl, rfl, trivial⟩ ⟨rfl, rfl, rfl, trivial⟩
  intro j hj
  have hlr := lK q i j
  obtain ⟨l, hl⟩ : ∃ l, l = l0 ++ prR q i j := ⟨_, rfl⟩
  have hll : l.length <= 100 := by rw [hl, List.length_append]; omega
  have hs' : l0 ++ prR q i (j + 1) = l ++ if i < j /\ q i j = true then [(i, j)] else [] := by rw [prR, hl, List.append_assoc]
  rw [<- hl]
  obtain ⟨L, hL⟩ : ∃ L, l.length = L := ⟨_, rfl⟩
  rw [hL] at hll ⊢;refine ab ?_;refine gQ fun _ Z=>?_;refine Z9 ?_;refine Z6 ?_;refine eQ Z ?_;clear Z;refine ai rfl (fun hf => ?_) (fun hf => ?_)
  ·have hf : j < 6 := by simp at hf; omega
   have bj := hbW i j
   have cq := i9 (W i j) ⟨by omega, by omega⟩
   have n1 : ((List.range j).map fun j => qzW (W i j : Int)).map RW.dc ++ [(qzW (W i j : Int)).dc] = ((List.range (j + 1)).map fun j => qzW (W i j : Int)).map RW.dc := by
    rw [List.range_succ, List.map_append, List.map_append]; rfl
   have z1 : (((List.range j).map fun j => qzW (W i j : Int)).map RW.dc).length = j := by simp
   have hr := em (r := W i) hf
   have hgi := hget i hg
   generalize ((List.range j).map fun j => qzW (W i j : Int)).map RW.dc = rs at n1 z1 ⊢;refine ag ?_;show AWP _ _ _ _ _ _;refine ab ?_;refine ac ?_;refine aQ tok mixed (A := [[], [], [], [], [], [2, 3], [], [], [], [6, 7], [], [6, 7, 8], [6, 7, 8, 9, 10], [6, 7, 8, 9, 10, 11], [6, 7, 8, 9, 10, 11, 12], [2, 3, 4, 6, 7, 8, 9, 10, 11, 12], [], []]) (an := [{}, {}, {}, {}, {}, {}, {}, {}, {}, {}, {}, {}, {}, {}, {}, {}, {}, {}]) rfl (by kernel_rfl) rfl fun _ Z=>?_;refine Z9 ?_;refine Z9 ?_;refine Z9 ?_;refine Z9 ?_;refine aa rfl (x_o (i := i) (j := i) rfl rfl rfl rfl rfl hg (Nat.zero_add _)) rfl ?_;refine aR rfl (mJ rfl rfl rfl rfl vI) rfl ?_;refine Z9 ?_;refine Z9 ?_;refine aa rfl (x_d rfl rfl rfl rfl hgi rfl) rfl ?_;refine Z7 ?_;refine Z9 ?_;refine aa rfl (x_d rfl rfl rfl rfl hr rfl) rfl ?_;refine Z7 ?_;refine ae rfl rfl (cq) rfl rfl rfl rfl ?_;refine aH rfl rfl (eE (by rcases L with _|L <;> rcases j with _|j <;> rfl) rfl (dp (by rcases j with _|j <;> rfl))) rfl ?_;refine ri rfl (by cases j <;> rfl) rfl rfl rfl rfl rfl rfl rfl (by decide) (Nat.le_of_ble_eq_true rfl) rfl (by simp) (z1.symm) (by simp) (by simp <;> omega) (eE (by rcases L with _|L <;> rcases j with _|j <;> rfl) rfl (dp (by rcases j with _|j <;> rfl))) rfl rfl ?_;refine aa rfl (x_o (i := i) (j := i) rfl rfl rfl rfl rfl hg (Nat.zero_add _)) rfl ?_;refine pQ rfl (uQ rfl rfl rfl (by rw [qi hg]; exact hg)) rfl rfl rfl ?_;refine eQ Z ?_;clear Z;rw [vG];refine cg (Wk.trans (Wk.rbE (rb' := [111]) rfl) (Wk.rnB [1, 5, 10, 11, 12, 13] [111, 135, 300] 135 350 rfl rfl (eE (by rcases L with _ | L <;> rfl) rfl (dp rfl)) (rb' := [111]) (E' := [(1, V1 (dB8 cs)), (5, V1 (.sl dW6)), (10, cr 300 2 L), (11, .val (.one (.own 111 1 0 6))), (12, dI i), (13, dI j)]) (S' := [(111, some (.box (cy F 6 i (.own 350 4 0 (j + 1))))), (300, cx 2 (l.map prD) L), (350, some (.arr 4 (((List.range (j + 1)).map fun j => qzW (W i j : Int)).map RW.dc)))]) ⟨rfl, rfl, by rcases L with _ | L <;> rfl, rfl, rfl, rfl, trivial⟩ ⟨?_, by rcases L with _ | L <;> rfl, ?_, trivial⟩ rfl)) ?_
   ·show some (OO.box ((cy F 6 i (.own 135 4 0 _)).map (iO 135 350))) = _
    rw [vH]
   ·rw [<- n1]; rfl
   by_cases hij : i < j
   ·refine gQ fun _ Z=>?_;refine Z9 ?_;refine Z9 ?_;refine ah rfl (jP (c := true) (decide_eq_true (by omega))) rfl ?_;refine Z9 ?_;refine Z9 ?_;refine Z9 ?_;refine aa rfl (x_d rfl rfl rfl rfl hgi rfl) rfl ?_;refine Z7 ?_;refine Z9 ?_;refine aa rfl (x_d rfl rfl rfl rfl hr rfl) rfl ?_;refine Z7 ?_;refine ah rfl (oh (c := q i j) (by rw [hqW]; by_cases h : W i j = 0 <;> simp [h])) rfl ?_;refine Z4 ?_;refine eQ Z ?_;clear Z;refine ai rfl (fun hx => ?_) (fun hx => ?_)
    ·rw [if_pos ⟨hij, hx⟩] at hs';refine gR fun _ Z=>?_;refine rh rfl AL rfl ?_;refine Z9 ?_;refine Z9 ?_;refine dz rfl rfl rfl ?_;refine aH rfl rfl (eE (by rcases L with _|L <;> rfl) rfl (dp rfl)) rfl ?_;refine ri rfl rfl rfl rfl rfl rfl rfl rfl rfl (by decide) (Nat.le_of_ble_eq_true rfl) rfl (by simp) (by rw [List.length_map, hL]) (by simp) (by simp <;> omega) (eE (by rcases L with _|L <;> rfl) rfl (dp rfl)) rfl rfl ?_;refine Z8 ?_;refine eQ Z ?_;clear Z;show AWP _ _ _ _ _ _;refine gR fun _ Z=>?_;refine Z9 ?_;refine ah rfl (aC (c := ((j + 1 : Nat) : Int)) (by omega) (by omega)) rfl ?_;refine Z8 ?_;refine eQ Z ?_;clear Z;refine ⟨j + 1, by omega, hf, Wk.trans (Wk.rbE (rb' := [111]) rfl) (Wk.rnB [1, 5, 10, 11, 12, 13] [111, 155, 350] 155 300 rfl rfl (eE rfl rfl (dp rfl)) ⟨rfl, rfl, ?_, rfl, rfl, rfl, trivial⟩ ⟨?_, ?_, rfl, trivial⟩ rfl)⟩
     ·rw [hs', qg hL]; rfl
     ·show some (OO.box ((cy F 6 i (.own 350 4 0 _)).map (iO 155 300))) = _
      rw [show (cy F 6 i (.own 350 4 0 (j + 1))).map (iO 155 300) = cy F 6 i (.own 350 4 0 (j + 1)) from tM]; rfl
     ·rw [hs', qV hL]; rfl
    ·rw [if_neg (fun h => by rw [h.2] at hx; cases hx), List.append_nil] at hs';refine ag ?_;show AWP _ _ _ _ _ _;refine gR fun _ Z=>?_;refine Z9 ?_;refine ah rfl (aC (c := ((j + 1 : Nat) : Int)) (by omega) (by omega)) rfl ?_;refine Z8 ?_;refine eQ Z ?_;clear Z;refine ⟨j + 1, by omega, hf, ?_⟩;rw [hs', hL];exact Wk.mk' ⟨rfl, rfl, rfl, rfl, rfl, rfl, trivial⟩ ⟨rfl, rfl, rfl, trivial⟩
   ·rw [if_neg (fun h => hij h.1), List.append_nil] at hs';refine gQ fun _ Z=>?_;refine Z9 ?_;refine Z9 ?_;refine ah rfl (jP (c := false) (decide_eq_false (by omega))) rfl ?_;refine Z9 ?_;refine ar rfl ?_;refine ar rfl ?_;refine ar rfl ?_;refine ar rfl ?_;refine ar rfl ?_;refine ar rfl ?_;refine ar rfl ?_;refine ar rfl ?_;refine Z4 ?_;refine eQ Z ?_;clear Z;refine ai rfl (fun h => by cases h) (fun _ => ?_);refine ag ?_;show AWP _ _ _ _ _ _;refine gR fun _ Z=>?_;refine Z9 ?_;refine ah rfl (aC (c := ((j + 1 : Nat) : Int)) (by omega) (by omega)) rfl ?_;refine Z8 ?_;refine eQ Z ?_;clear Z;refine ⟨j + 1, by omega, hf, ?_⟩;rw [hs', hL];exact Wk.mk' ⟨rfl, rfl, rfl, rfl, rfl, rfl, trivial⟩ ⟨rfl, rfl, rfl, trivial⟩
  have hf : j = 6 := by simp at hf; omega
  subst hf
  refine aw ?_;show AWP _ _ _ _ _ _;refine ew [1, 5, 10, 11, 12] [111, 300, 350] 350 [(1, V1 (dB8 cs)), (5, V1 (.sl dW6)), (10, cr 300 2 L), (11, .val (.one (.own 111 1 0 6))), (12, dI i)] [(111, some (.box (qh F 6 (i + 1)))), (300, cx 2 (l.map prD) L)] rfl ⟨rfl, rfl, by rcases L with _ | L <;> rfl, rfl, rfl, trivial⟩ ⟨?_, by rcases L with _ | L <;> rfl, trivial⟩ ?_
  ·show some (OO.box ((cy F 6 i (.own 350 4 0 6)).map (gS 350 4 _))) = _
   have hz : 6 = (((List.range 6).map fun j => qzW (W i j : Int)).map RW.dc).length := by simp
   rw [<- zB]
   have : cy F 6 i (.own 350 4 0 6) = cy F 6 i (.own 350 4 0 (((List.range 6).map fun j => qzW (W i j : Int)).map RW.dc).length) := by rw [<- hz]
   rw [this, vJ, hF]; rfl
  refine gR fun _ Z=>?_;refine Z9 ?_;refine ah rfl (aC (c := ((i + 1 : Nat) : Int)) (by omega) (by omega)) rfl ?_;refine Z8 ?_;refine eQ Z ?_;clear Z;refine ⟨i + 1, by omega, hg, ?_⟩
  have ee : prP q 6 (i + 1) = l := by rw [hl, hl0]; rfl
  rw [ee, hL];exact Wk.mk' ⟨rfl, rfl, rfl, rfl, rfl, trivial⟩ ⟨rfl, rfl, trivial⟩
 have hg : i = 6 := by simp at hg; omega
 subst hg
 have eps : prP q 6 6 = psF es := by rw [hq]; rfl
 rw [vF, eps];refine aw ?_;show AWP _ _ _ _ _ _;generalize hps : psF es = ps
 have hpl := xF es
 rw [hps] at hpl;refine cg (Wk.toArr (gid := 111) (E' := [(1, V1 (dB8 cs)), (10, cr 300 2 ps.length), (11, .val (.one (.own 111 1 0 6)))]) (S1 := [(300, cx 2 (ps.map prD) ps.length)]) (l := (List.range 6).map F) ⟨rfl, rfl, rfl, trivial⟩ rfl ⟨rfl, trivial⟩ rfl) ?_;refine cg (Wk.rbA (id := 111) rfl) ?_;refine ew [1, 10, 11] [111, 300] 111 [(1, V1 (dB8 cs)), (10, cr 300 2 ps.length), (11, V1 (dMs (mF es)))] [(300, cx 2 (ps.map prD) ps.length)] rfl ⟨rfl, by cases ps <;> rfl, ?_, trivial⟩ ⟨by cases ps <;> rfl, trivial⟩ ?_
 ·have : ((List.range 6).map F).map (fun c => [c]) = (mF es).map cM := by rw [hF, hW]; rfl
  rw [dMs, <- this];exact bR rfl (by simp)
 refine cg (st' := mk 248 [(10, V1 (.sl (ps.map prD))), (1, V1 (dB8 cs)), (11, V1 (dMs (mF es)))] [] []) ?_ ?_
 ·cases ps with
  | nil => exact Wk.trans (Wk.mk' (E' := [(10, .val (.one .nil)), (1, V1 (dB8 cs)), (11, V1 (dMs (mF es)))]) (S' := []) ⟨rfl, rfl, rfl, trivial⟩ trivial) Wk.nilD
  | cons p l =>
   refine Wk.fz [1, 10, 11] [300] 300 (sz := 2) (es := (p :: l).map prD) rfl ?_ ?_
   ·exact ⟨bR rfl (by simp), rfl, rfl, trivial⟩
   ·exact trivial
 -- the factors
 obtain ⟨e', he'⟩ : ∃ e', e' = ordFn (nmI 6 e) := ⟨_, rfl⟩
 have ee : ∀ i, i < 6 -> e' i = e i := fun i hi => by rw [he']; exact AK hi
 have FO : FOrd es (dY (mtv (mF es)) e') e := ⟨fun i j hi hj => by
  show cw (mF es) (e' i) (e' j) = _
  rw [ee i hi, ee j hj, vR (he1 i hi) (he1 j hj)], he1, he2⟩
 have hO : iQ (mF es).length (nmI 6 e) = true := by rw [ja]; exact zE he1 he2
 have hqb : ∀ i j, ql (dY (mtv (mF es)) e' i j) <= 2 := fun i j => oR (yD hl) rfl _ _
 have hS := (jc (B := dY (mtv (mF es)) e') (n := 6) (by omega) FO.sym (fun i j _ _ => hqb i j)).1
 have cF := mm (mF es) (nmI 6 e) (by rw [ja]; omega) (fun r hr => by rw [sO r hr]; omega) ((yD hl).mono rfl) (by simp [nmI]) (fun _ _ => by rw [<- he', ja]; exact hS)
 rw [kS, if_pos (Bo hl), if_pos hO, <- he', ja, tY, if_pos FO.pos, <- sJ] at cF
 have hD := FO.DD
 have hmain := fun i j (hi : i < 6) (hji : j < i) (hL : LL (dY (mtv (mF es)) e') i j ≠ 0) => tX FO hi hji hL
 have cFi := xK 6 (psF es) (vu es) (by rw [hps]; omega) e he1 he2
 have hfl : (qC es e).length <= 36 := jz _ 6 6
 rw [show prP (vN (qE 6 (psF es) e) (eu (psF es) (psF es).length)) 6 6 = qC es e from rfl, hps] at cFi;rw [hps] at hmain;generalize qC es e = fs at cFi hfl hmain;generalize dY (mtv (mF es)) e' = B at *
 have qL : ∀ i j, i < 6 -> j < i -> ql (LL B i j) <= 65536 := fun i j hi h => (hS i hi fun k hk => hD k (by omega)).2 j h
 have hnA : ∀ x ∈ ps.map prD, x.length = 2 := fun x hx => by obtain ⟨p, _, rfl⟩ := List.mem_map.1 hx; rfl
 have hnB : ∀ x ∈ fs.map prD, x.length = 2 := fun x hx => by obtain ⟨p, _, rfl⟩ := List.mem_map.1 hx; rfl
 refine gQ fun _ Z=>?_;refine Z9 ?_;refine ae rfl rfl (cP) rfl rfl rfl rfl ?_;refine Z8 ?_;refine eQ Z ?_;clear Z;refine gQ fun _ Z=>?_;refine Z9 ?_;refine Z9 ?_;refine ae rfl rfl (cF) rfl rfl rfl rfl ?_;refine Z9 ?_;refine aq rfl rfl rfl ?_;refine aq rfl rfl rfl ?_;refine aq rfl rfl rfl ?_;refine Z8 ?_;refine Z8 ?_;refine Z8 ?_;refine eQ Z ?_;clear Z;refine gQ fun _ Z=>?_;refine Z9 ?_;refine Z9 ?_;refine ae rfl rfl (cFi) rfl rfl rfl rfl ?_;refine Z9 ?_;refine aq rfl rfl rfl ?_;refine aq rfl rfl rfl ?_;refine Z8 ?_;refine Z8 ?_;refine eQ Z ?_;clear Z;refine ab ?_;refine gQ fun _ Z=>?_;refine Z9 ?_;refine Z6 ?_;refine Z9 ?_;refine Z9 ?_;refine Z6 ?_;refine Z4 ?_;refine Z9 ?_;refine Z9 ?_;refine az rfl (vS rfl rfl) rfl ?_;refine ah rfl (oh (c := false) (by simp)) rfl ?_;refine Z4 ?_;refine eQ Z ?_;clear Z;refine ai rfl (fun h => by cases h) (fun _ => ?_);refine ag ?_;show AWP _ _ _ _ _ _;refine gQ fun _ Z=>?_;refine aH rfl rfl rfl rfl ?_;refine Z9 ?_;refine bu rfl (nk (es := []) (len := 0) (new := ps.map prD) rfl rfl rfl rfl rfl rfl (by decide) (Nat.le_of_ble_eq_true rfl) rfl hnA rfl rfl rfl (by simp; omega)) rfl rfl rfl ?_;refine Z9 ?_;refine bu rfl (nk (es := [] ++ ps.map prD) (len := ([] ++ ps.map prD).length) (new := fs.map prD) rfl rfl rfl rfl rfl rfl (by decide) (Nat.le_of_ble_eq_true rfl) rfl hnB rfl rfl rfl (by simp; omega)) rfl rfl rfl ?_;refine Z8 ?_;refine eQ Z ?_;clear Z
 obtain ⟨al, hal⟩ : ∃ al, al = ps ++ fs := ⟨_, rfl⟩
 refine ew [14, 15, 20] [186] 186 [(14, V1 (.sl (nmD 6 e))), (15, V1 (dMs (ij B 6))), (20, V1 (.sl (al.map prD)))] [] rfl ⟨rfl, rfl, ?_, trivial⟩ trivial ?_
 ·exact bR (by rw [hal, List.nil_append, List.map_append]) (by rw [hal]; simp)
 rw [<- hal] at hmain
 have hall : al.length <= 100 := by rw [hal, List.length_append]; omega
 clear hnA hnB cF cFi cP hS hqb FO hO;refine ab ?_;refine gQ fun _ Z=>?_;refine Z8 ?_;refine eQ Z ?_;clear Z;refine ac (aG (α := Nat) (fun i => mk 248 [(14, V1 (.sl (nmD 6 e))), (15, V1 (dMs (ij B 6))), (20, V1 (.sl (al.map prD))), (21, dI i)] [] []) (fun i => i <= 6) (fun i => 6 - i) 0 ?_ (Nat.zero_le _) ?_)
 ·exact Wk.mk' ⟨rfl, rfl, rfl, rfl, trivial⟩ trivial
 intro i hi
 refine ab ?_;refine gQ fun _ Z=>?_;refine Z9 ?_;refine Z6 ?_;refine eQ Z ?_;clear Z;refine ai rfl (fun hg => ?_) (fun hg => ?_)
 ·have hg : i < 6 := by simp at hg; omega
  refine ag ?_;show AWP _ _ _ _ _ _;refine ab ?_;refine ac ?_;refine ab ?_;refine gQ fun _ Z=>?_;refine Z9 ?_;refine Z9 ?_;refine aa rfl (pC rfl rfl rfl rfl rfl hg) rfl ?_;refine Z7 ?_;refine az rfl (yG rfl rfl) rfl ?_;refine ah rfl (oh (c := false) (by simp)) rfl ?_;refine eQ Z ?_;clear Z;refine ai rfl (fun h => by cases h) (fun _ => ?_);refine ag ?_;show AWP _ _ _ _ _ _;refine gQ fun _ Z=>?_;refine Z8 ?_;refine eQ Z ?_;clear Z;refine ac (aG (α := Nat) (fun j => mk 248 [(14, V1 (.sl (nmD 6 e))), (15, V1 (dMs (ij B 6))), (20, V1 (.sl (al.map prD))), (21, dI i), (22, dI j)] [] []) (fun j => j <= i) (fun j => i - j) 0 ?_ (Nat.zero_le _) ?_)
  ·exact Wk.mk' ⟨rfl, rfl, rfl, rfl, rfl, trivial⟩ trivial
  intro j hj
  refine ab ?_;refine gQ fun _ Z=>?_;refine Z9 ?_;refine Z9 ?_;refine Z6 ?_;refine eQ Z ?_;clear Z;refine ai rfl (fun hf => ?_) (fun hf => ?_)
  ·have hf : j < i := by simp at hf; omega
   have hj6 : j < 6 := by omega
   have cS := sC (qzW (LL B i j)) ((bg (qL i j hg hf)).mono rfl)
   rw [bp] at cS;refine ag ?_;show AWP _ _ _ _ _ _;refine ab ?_;refine ac ?_;refine ab ?_;refine gQ fun _ Z=>?_;refine Z9 ?_;refine Z9 ?_;refine aa rfl (pC rfl rfl rfl rfl rfl hg) rfl ?_;refine Z7 ?_;refine Z9 ?_;refine aa rfl (x_v rfl rfl rfl rfl rfl hj6) rfl ?_;refine Z7 ?_;refine ae rfl rfl (cS) rfl rfl rfl rfl ?_;refine ah rfl (jQ (c := decide (LL B i j = 0)) (by by_cases h : LL B i j = 0 <;> simp [h, <- mv])) rfl ?_;refine eQ Z ?_;clear Z;refine ai rfl (fun h0 => ?_) (fun h0 => ?_)
   ·refine aw ?_;show AWP _ _ _ _ _ _;refine gR fun _ Z=>?_;refine Z9 ?_;refine ah rfl (aC (c := ((j + 1 : Nat) : Int)) (by omega) (by omega)) rfl ?_;refine Z8 ?_;refine eQ Z ?_;clear Z;exact ⟨j + 1, by omega, hf, Wk.mk' ⟨rfl, rfl, rfl, rfl, rfl, trivial⟩ trivial⟩
   have hin := hmain i j hg hf (of_decide_eq_false h0)
   refine ag ?_;show AWP _ _ _ _ _ _;refine aQ tok mixed (A := [[], [], [], [0, 1], [], [], [], [4, 5], [0, 1, 2, 4, 5, 6], [], [], [], [9, 10], [], [], [], [13, 14], [9, 10, 11, 13, 14, 15], [], []]) (an := [{}, {}, {}, {}, {}, {}, {}, {}, {}, {}, {}, {}, {}, {}, {}, {}, {}, {}, {}, {}]) rfl (by kernel_rfl) rfl fun _ Z=>?_;refine Z9 ?_;refine Z9 ?_;refine aa rfl (x_n rfl rfl rfl rfl rfl hg) rfl ?_;refine Z7 ?_;refine Z9 ?_;refine Z9 ?_;refine aa rfl (x_n rfl rfl rfl rfl rfl hj6) rfl ?_;refine Z7 ?_;refine az rfl (zF _ _) rfl ?_;refine Z9 ?_;refine Z9 ?_;refine aa rfl (x_n rfl rfl rfl rfl rfl hg) rfl ?_;refine Z7 ?_;refine Z9 ?_;refine Z9 ?_;refine aa rfl (x_n rfl rfl rfl rfl rfl hj6) rfl ?_;refine Z7 ?_;refine az rfl (zH _ _) rfl ?_;refine Z8 ?_;refine Z8 ?_;refine eQ Z ?_;clear Z;generalize min (e i) (e j) = a at hin ⊢;generalize max (e i) (e j) = b at hin ⊢;refine gQ fun _ Z=>?_;refine Z8 ?_;refine eQ Z ?_;clear Z;refine ab ?_;refine gQ fun _ Z=>?_;refine Z8 ?_;refine eQ Z ?_;clear Z;refine ac (aG (α := Nat) (fun k => mk 248 [(14, V1 (.sl (nmD 6 e))), (15, V1 (dMs (ij B 6))), (20, V1 (.sl (al.map prD))), (21, dI i), (22, dI j), (23, dI a), (24, dI b), (25, dB (decide ((a, b) ∈ al.take k))), (26, dI k)] [] []) (fun k => k <= al.length) (fun k => al.length - k) 0 ?_ (Nat.zero_le _) ?_)
   ·exact Wk.mk' ⟨rfl, rfl, rfl, rfl, rfl, rfl, rfl, wG (by simp), rfl, trivial⟩ trivial
   intro k hk
   refine ab ?_;refine gQ fun _ Z=>?_;refine Z9 ?_;refine Z9 ?_;refine az rfl (de prD rfl rfl) rfl ?_;refine Z6 ?_;refine eQ Z ?_;clear Z;refine ai rfl (fun hx => ?_) (fun hx => ?_)
   ·have hx : k < al.length := by simp at hx; omega
    have et : al.take (k + 1) = al.take k ++ [al[k]] := by rw [List.take_add_one, List.getElem?_eq_getElem hx]; rfl
    refine ag ?_;show AWP _ _ _ _ _ _;refine ab ?_;refine ac ?_
    by_cases hm : (a, b) ∈ al.take k
    ·rw [decide_eq_true hm];refine gR fun _ Z=>?_;refine Z9 ?_;refine Z9 ?_;refine ar rfl ?_;refine ar rfl ?_;refine ar rfl ?_;refine ar rfl ?_;refine ar rfl ?_;refine ar rfl ?_;refine ar rfl ?_;refine ar rfl ?_;refine Z4 ?_;refine Z8 ?_;refine eQ Z ?_;clear Z;show AWP _ _ _ _ _ _;refine gR fun _ Z=>?_;refine Z9 ?_;refine ah rfl (aC (c := ((k + 1 : Nat) : Int)) (by omega) (by omega)) rfl ?_;refine Z8 ?_;refine eQ Z ?_;clear Z;exact ⟨k + 1, by omega, hx, Wk.mk' ⟨rfl, rfl, rfl, rfl, rfl, rfl, rfl, wG (decide_eq_true (by rw [et]; exact List.mem_append_left _ hm)).symm, rfl, trivial⟩ trivial⟩
    ·rw [decide_eq_false hm];refine jW Aq fun _ Z=>?_;refine Z9 ?_;refine Z9 ?_;refine Z9 ?_;refine Z9 ?_;refine aa rfl (x_m prD rfl rfl rfl rfl hx rfl) rfl ?_;refine Z7 ?_;refine Z9 ?_;refine Z9 ?_;refine dz rfl rfl rfl ?_;refine ah rfl (zZ (q := decide ((al[k].1, al[k].2) = (a, b))) rfl rfl) rfl ?_;refine Z4 ?_;refine Z8 ?_;refine eQ Z ?_;clear Z;show AWP _ _ _ _ _ _;refine gR fun _ Z=>?_;refine Z9 ?_;refine ah rfl (aC (c := ((k + 1 : Nat) : Int)) (by omega) (by omega)) rfl ?_;refine Z8 ?_;refine eQ Z ?_;clear Z;refine ⟨k + 1, by omega, hx, Wk.mk' ⟨rfl, rfl, rfl, rfl, rfl, rfl, rfl, wG ?_, rfl, trivial⟩ trivial⟩;rw [et, Bool.eq_iff_iff];simp only [decide_eq_true_eq, List.mem_append, List.mem_singleton, hm, false_or];exact ⟨fun h => h.symm, fun h => h.symm⟩
   have hx : k = al.length := by simp at hx; omega
   subst hx
   rw [List.take_length, decide_eq_true hin];refine aw ?_;show AWP _ _ _ _ _ _;refine gQ fun _ Z=>?_;refine Z9 ?_;refine g7 rfl rfl rfl ?_;refine eQ Z ?_;clear Z;refine ai rfl (fun h => by cases h) (fun _ => ?_);refine ag ?_;show AWP _ _ _ _ _ _;refine gR fun _ Z=>?_;refine Z9 ?_;refine ah rfl (aC (c := ((j + 1 : Nat) : Int)) (by omega) (by omega)) rfl ?_;refine Z8 ?_;refine eQ Z ?_;clear Z;exact ⟨j + 1, by omega, hf, Wk.mk' ⟨rfl, rfl, rfl, rfl, rfl, trivial⟩ trivial⟩
  have hf : j = i := by simp at hf; omega
  subst hf
  refine aw ?_;show AWP _ _ _ _ _ _;refine gR fun _ Z=>?_;refine Z9 ?_;refine ah rfl (aC (c := ((j + 1 : Nat) : Int)) (by omega) (by omega)) rfl ?_;refine Z8 ?_;refine eQ Z ?_;clear Z;exact ⟨j + 1, by omega, hg, Wk.mk' ⟨rfl, rfl, rfl, rfl, trivial⟩ trivial⟩
 refine aw ?_;show AWP _ _ _ _ _ _;refine gQ fun _ Z=>?_;refine Z8 ?_;refine eQ Z ?_;clear Z;exact aj a6
end Go.Proofs.YtomlkgcfagnngaaGreatDoor
