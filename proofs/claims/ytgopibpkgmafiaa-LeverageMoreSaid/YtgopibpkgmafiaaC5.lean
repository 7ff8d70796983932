/- Part of a proof that a Go function answers true for every input. No condition. -/
import Derived.Test.YtgopibpkgmafiaaC4
set_option linter.unusedVariables false
set_option linter.unusedSimpArgs false
set_option linter.unusedSectionVars false
/- The factors of a matrix. No condition. -/
namespace Go.Proofs.Ytgopibpkgmafiaa
attribute [local irreducible] lexA

theorem ql_ps {b : Rat} {f : Nat → Rat} {M K : Nat} (hb : ql b ≤ K) : ∀ k, (∀ t, t < k → ql (f t) ≤ M) → ql (b - sm k f) ≤ K + k * (M + 1)
  | 0, _ => by
    have : b - sm 0 f = b := by simp only [sm]; grind
    rw [this]; omega
  | k + 1, h => by
    have ih := ql_ps hb k fun t ht => h t (by omega)
    have e : b - sm (k + 1) f = (b - sm k f) - f k := by rw [sm_succ]; grind
    rw [e, Nat.succ_mul];exact Nat.le_trans (ql_sub_le ih (h k (by omega))) (by omega)
theorem ps_succ (b : Rat) (f : Nat → Rat) (k : Nat) {x : Rat} (h : f k = x) : (b - sm k f) - x = b - sm (k + 1) f := by rw [sm_succ, h]; grind
theorem ps_zero (b : Rat) (f : Nat → Rat) : b - sm 0 f = b := by simp only [sm]; grind
section
variable {T : Tab} {t : TypeId} {ti : TI}
theorem l_qv {S : Objs} {id i n : Nat} {G : Nat → RW} {x : RW} (h1 : T t = some ti) (h4 : ti.size = 4) (h5 : ti.agg = true) (hS : S id = some (.arr 4 (rowD n G))) (hi : i < n) (he : G i = x) :
    effLoad T ⟨[], S, []⟩ t (.pe id 4 i 0) = .set (AG x.cs) := he ▸ l_q h1 h4 h5 hS hi
end
/-- The matrix in the order e. -/
def ordB (F : Nat → Nat → RW) (e : Nat → Nat) (i j : Nat) : Rat := (F (e i) (e j)).v
def posB (B : Nat → Nat → Rat) (n : Nat) : Bool := decide (∀ k, k < n → 0 < DD B k)
def facL (B : Nat → Nat → Rat) (n : Nat) : List (List RW) := matW n n fun r c => qzW (LL B r c)
def facD (B : Nat → Nat → Rat) (n : Nat) : List RW := vecW n fun r => qzW (DD B r)
/-- What factor answers. -/
def facV (B : Nat → Nat → Rat) (n : Nat) : List (List RW) × List RW × Bool := if posB B n then (facL B n, facD B n, true) else ([], [], false)
/-- As far as the pivots are positive, the factors are small. -/
def facS (B : Nat → Nat → Rat) (n : Nat) : Prop := ∀ i, i < n → (∀ k, k < i → 0 < DD B k) → ql (DD B i) ≤ 65536 ∧ ∀ j, j < i → ql (LL B i j) ≤ 65536
def zG (s t : Nat) : RW := if t < s then qzW 0 else rw00
def rG (B : Nat → Nat → Rat) (i j t : Nat) : RW := if t < j then qzW (LL B i t) else if t = i then qzW 1 else qzW 0
theorem rowD_z0 (n : Nat) : List.replicate n rw00.dc = rowD n (zG 0) := by rw [rowD_zero]; exact rowD_congr fun i _ => by simp [zG]
theorem rowD_zs (n s : Nat) : rowD n (updW (zG s) s (qzW 0)) = rowD n (zG (s + 1)) := rowD_congr fun i _ => by
  simp only [updW, zG]
  by_cases h : i = s
  · rw [if_pos h, if_pos (by omega)]
  · rw [if_neg h]
    by_cases h2 : i < s
    · rw [if_pos h2, if_pos (by omega)]
    · rw [if_neg h2, if_neg (by omega)]
theorem rowD_r0 (B : Nat → Nat → Rat) (n i : Nat) : rowD n (updW (zG n) i (qzW 1)) = rowD n (rG B i 0) := rowD_congr fun t ht => by
  simp only [updW, zG, rG];rw [if_neg (show ¬ t < 0 by omega), if_pos ht]
theorem rowD_rs (B : Nat → Nat → Rat) (n i j : Nat) : rowD n (updW (rG B i j) j (qzW (LL B i j))) = rowD n (rG B i (j + 1)) := rowD_congr fun t _ => by
  simp only [updW, rG]
  by_cases h : t = j
  · rw [if_pos h, if_pos (by omega), h]
  · rw [if_neg h]
    by_cases h2 : t < j
    · rw [if_pos h2, if_pos (by omega)]
    · rw [if_neg h2, if_neg (show ¬ t < j + 1 by omega)]
theorem rowD_rn (B : Nat → Nat → Rat) (n i : Nat) : rowD n (rG B i i) = rowD n (fun c => qzW (LL B i c)) := rowD_congr fun t _ => by
  simp only [rG]
  by_cases h : t < i
  · rw [if_pos h]
  · rw [if_neg h]
    by_cases h2 : t = i
    · rw [if_pos h2, h2, LL_diag]
    · rw [if_neg h2, LL_hi B (by omega)]
theorem matW_get {n m j : Nat} {F : Nat → Nat → RW} (h : j < n) : ((matW n m F).map cM)[j]? = some (cM (vecW m (F j))) := by simp [matW, h]
theorem matW_mlength (n m : Nat) (F : Nat → Nat → RW) : ((matW n m F).map cM).length = n := by simp [matW]

set_option maxHeartbeats 1000000 in
theorem sFactor_c (n : Nat) (F : Nat → Nat → RW) (e : Nat → Nat) (hn : n ≤ 16) (he : ∀ i, i < n → e i < n) (ok : ∀ i j, i < n → j < n → (F i j).OK 65536) (hS : facS (ordB F e) n) :
    Con Try.prog 96 [V1 (dMs (matW n n F)), V1 (.sl (nmD n e))] { v := .tup [.one (.d (dMs (facV (ordB F e) n).1)), .one (.d (dRs (facV (ordB F e) n).2.1)), .one (.d (.lit (.bool (facV (ordB F e) n).2.2)))] } := by
  obtain ⟨B, hB⟩ : ∃ B, B = ordB F e := ⟨_, rfl⟩
  rw [← hB] at hS ⊢
  have hBv : ∀ i j, B i j = (F (e i) (e j)).v := fun i j => by rw [hB]; rfl
  clear hB;refine con_intro (fn := Try.f96) tok Try.func96 (by kernel_rfl) rfl ?_
  intro w0 X
  rw [entry_mkE _ _ [(0, V1 (dMs (matW n n F))), (1, V1 (.sl (nmD n e)))] rfl rfl];refine AWP_reg_seq tok fun K hK => ?_;refine s_assign rfl rfl rfl ?_;refine s_assign rfl rfl rfl ?_;refine s_assign rfl rfl rfl ?_;refine s_end (hK _ ?_); clear hK K;refine AWP_reg_seq tok fun K hK => ?_;refine s_assign rfl rfl rfl ?_;refine s_end (hK _ ?_); clear hK K;refine AWP_reg_seq tok fun K hK => ?_;refine s_assign rfl rfl rfl ?_;refine s_end (hK _ ?_); clear hK K;refine AWP_seq ?_;refine AWP_reg_seq tok fun K hK => ?_;refine s_move rfl rfl rfl ?_;refine s_blt rfl (len_n rfl rfl) rfl ?_;refine s_move rfl rfl rfl ?_;refine s_end (hK _ ?_); clear hK K;refine AWP_block (a_loop (α := Nat) (fun i => mk 121 [(0, V1 (dMs (matW n n F))), (1, V1 (.sl (nmD n e))), (7, ownN 200 1 i), (8, ownN 201 4 i), (17, V1 (.sl (nmD n e))), (18, dI n), (19, dI i)] [(200, arrN 1 ((matW i n fun r c => qzW (LL B r c)).map cM) i), (201, arrN 4 (rowD i fun r => qzW (DD B r)) i)] []) (fun i => i ≤ n ∧ ∀ k, k < i → 0 < DD B k) (fun i => n - i) 0 ?_ ⟨Nat.zero_le _, fun _ h => by omega⟩ ?_)
  · exact Wk.mk' ⟨rfl, rfl, rfl, rfl, rfl, rfl, rfl, trivial⟩ ⟨rfl, rfl, trivial⟩
  rintro i ⟨hi, hI⟩
  refine AWP_reg_seq tok fun K hK => ?_;refine s_bin rfl rfl rfl ?_;refine s_end (hK _ ?_); clear hK K;refine AWP_seq ?_;refine a_cond rfl (fun hg => ?_) (fun hg => ?_)
  · have hg : i < n := by simp at hg; omega
    have ei := he i hg
    obtain ⟨qD, qL⟩ := hS i hg hI
    have n1 := matW_succ i n (fun r c => qzW (LL B r c))
    have n2 := rowD_succ i (fun r => qzW (DD B r))
    have z1 := matW_mlength i n (fun r c => qzW (LL B r c))
    have z2 := rowD_length i (fun r => qzW (DD B r))
    have g1 : ∀ j, j < i → ((matW i n fun r c => qzW (LL B r c)).map cM)[j]? = some (cM (vecW n fun c => qzW (LL B j c))) := fun j hj => matW_get hj
    generalize (matW i n fun r c => qzW (LL B r c)).map cM = es at n1 z1 g1 ⊢;refine AWP_skip ?_;show AWP _ _ _ _ _ _;refine AWP_seq ?_;refine AWP_block ?_;refine AWP_reg_seq tok fun K hK => ?_;refine s_move rfl rfl rfl ?_;refine s_indexAddr rfl (x_n rfl rfl rfl rfl rfl hg) rfl ?_;refine s_load rfl rfl rfl ?_;refine s_assign rfl rfl rfl ?_;refine s_assign rfl rfl rfl ?_;refine s_end (hK _ ?_); clear hK K;refine AWP_reg_seq tok fun K hK => ?_;refine s_move rfl rfl rfl ?_;refine s_blt rfl (len_n rfl rfl) rfl ?_;refine s_makeSlice (sz := _) (es := _) (f := _) (v := _) rfl (mk_a (l := n) rfl rfl rfl rfl rfl (Nat.le_of_ble_eq_true rfl) (by decide) rfl rfl (by omega)) (by rcases i with _|i <;> rfl) rfl ?_;refine s_assign rfl rfl rfl ?_;refine s_end (hK _ ?_); clear hK K;refine AWP_seq ?_;refine AWP_reg_seq tok fun K hK => ?_;refine s_move rfl rfl rfl ?_;refine s_blt rfl rfl rfl ?_;refine s_move rfl rfl rfl ?_;refine s_end (hK _ ?_); clear hK K;refine AWP_block (a_loop (α := Nat) (fun s => mk 121 [(0, V1 (dMs (matW n n F))), (1, V1 (.sl (nmD n e))), (7, ownN 200 1 i), (8, ownN 201 4 i), (9, dI i), (10, dI (e i)), (11, .val (.one (.own 26 4 0 n))), (17, V1 (.sl (nmD n e))), (18, dI n), (19, dI i), (28, dI n), (29, dI s)] [(26, some (.arr 4 (rowD n (zG s)))), (200, arrN 1 es i), (201, arrN 4 (rowD i fun r => qzW (DD B r)) i)] []) (fun s => s ≤ n) (fun s => n - s) 0 ?_ (Nat.zero_le _) ?_)
    · exact Wk.mk' ⟨rfl, rfl, rfl, rfl, rfl, rfl, rfl, rfl, rfl, rfl, rfl, rfl, trivial⟩ ⟨congrArg (fun x => some (OO.arr 4 x)) (rowD_z0 n), rfl, rfl, trivial⟩
    intro s hs
    refine AWP_reg_seq tok fun K hK => ?_;refine s_bin rfl rfl rfl ?_;refine s_end (hK _ ?_); clear hK K;refine AWP_seq ?_;refine a_cond rfl (fun hf => ?_) (fun hf => ?_)
    · have hf : s < n := by simp at hf; omega
      refine AWP_skip ?_;show AWP _ _ _ _ _ _;refine AWP_seq ?_;refine AWP_block ?_;refine AWP_reg_seq tok fun K hK => ?_;refine s_move rfl rfl rfl ?_;refine s_assign rfl rfl rfl ?_;refine s_end (hK _ ?_); clear hK K;refine AWP_reg tok fun K hK => ?_;refine s_move rfl rfl rfl ?_;refine s_move rfl rfl rfl ?_;refine s_call rfl rfl (sZero_c) rfl rfl rfl rfl ?_;refine s_indexAddr rfl (x_o (i := s) (j := s) rfl rfl rfl rfl rfl hf (Nat.zero_add _)) rfl ?_;refine s_store rfl (st_q (qzW 0) rfl rfl rfl hf) rfl rfl rfl ?_;refine s_end (hK _ ?_); clear hK K;rw [rowD_zs];show AWP _ _ _ _ _ _;refine AWP_reg tok fun K hK => ?_;refine s_bin rfl (e_add (c := ((s + 1 : Nat) : Int)) (by omega) (by omega)) rfl ?_;refine s_move rfl rfl rfl ?_;refine s_end (hK _ ?_); clear hK K;exact ⟨s + 1, by omega, hf, Wk.mk' ⟨rfl, rfl, rfl, rfl, rfl, rfl, rfl, rfl, rfl, rfl, rfl, rfl, trivial⟩ ⟨rfl, rfl, rfl, trivial⟩⟩
    have hf : s = n := by simp at hf; omega
    subst hf
    refine AWP_exit ?_;show AWP _ _ _ _ _ _;refine AWP_reg_seq tok fun K hK => ?_;refine s_move rfl rfl rfl ?_;refine s_move rfl rfl rfl ?_;refine s_call rfl rfl (sOne_c) rfl rfl rfl rfl ?_;refine s_indexAddr rfl (x_o (i := i) (j := i) rfl rfl rfl rfl rfl hg (Nat.zero_add _)) rfl ?_;refine s_store rfl (st_q (qzW 1) rfl rfl rfl hg) rfl rfl rfl ?_;refine s_end (hK _ ?_); clear hK K;rw [rowD_r0 B]
    have cN1 := qNorm_t (F (e i) (e i)) ((ok _ _ ei ei).mono rfl)
    rw [← hBv] at cN1;refine AWP_reg_seq tok fun K hK => ?_;refine s_move rfl rfl rfl ?_;refine s_move rfl rfl rfl ?_;refine s_indexAddr rfl (x_mt rfl rfl rfl rfl rfl ei) rfl ?_;refine s_load rfl rfl rfl ?_;refine s_move rfl rfl rfl ?_;refine s_indexAddr rfl (x_v rfl rfl rfl rfl rfl ei) rfl ?_;refine s_load rfl rfl rfl ?_;refine s_call rfl rfl (cN1) rfl rfl rfl rfl ?_;refine s_alloc rfl rfl rfl rfl rfl (by rcases i with _|i <;> rfl) ?_;refine s_store rfl rfl rfl rfl rfl ?_;refine s_end (hK _ ?_); clear hK K;refine AWP_seq ?_;refine AWP_reg_seq tok fun K hK => ?_;refine s_move rfl rfl rfl ?_;refine s_move rfl rfl rfl ?_;refine s_end (hK _ ?_); clear hK K;refine AWP_block (a_loop (α := Nat) (fun j => mk 121 [(0, V1 (dMs (matW s s F))), (1, V1 (.sl (nmD s e))), (7, ownN 200 1 i), (8, ownN 201 4 i), (10, dI (e i)), (11, .val (.one (.own 26 4 0 s))), (13, .ptr 13 0), (17, V1 (.sl (nmD s e))), (18, dI s), (19, dI i), (49, dI i), (50, dI j)] [(13, some (.box (qzW (B i i - sm j fun t => LL B i t * LL B i t * DD B t)).cs)), (26, some (.arr 4 (rowD s (rG B i j)))), (200, arrN 1 es i), (201, arrN 4 (rowD i fun r => qzW (DD B r)) i)] []) (fun j => j ≤ i) (fun j => i - j) 0 ?_ (Nat.zero_le _) ?_)
    · refine Wk.mk' ⟨rfl, rfl, rfl, rfl, rfl, rfl, rfl, rfl, rfl, rfl, rfl, rfl, trivial⟩ ⟨?_, rfl, rfl, rfl, trivial⟩;rw [ps_zero]; rfl
    intro j hj
    have tr : ∀ t, t < i → ql (LL B i t * LL B i t * DD B t) ≤ 196608 := fun t ht =>
      Nat.le_trans (ql_mul_le (ql_mul_le (qL t ht) (qL t ht)) (hS t (by omega) fun k hk => hI k (by omega)).1) (by decide)
    have qb : ∀ a b, a < s → b < s → ql (B a b) ≤ 65536 := fun a b ha hb => by rw [hBv]; exact (ok _ _ (he a ha) (he b hb)).ql rfl
    refine AWP_reg_seq tok fun K hK => ?_;refine s_bin rfl rfl rfl ?_;refine s_end (hK _ ?_); clear hK K;refine AWP_seq ?_;refine a_cond rfl (fun hf => ?_) (fun hf => ?_)
    · have hf : j < i := by simp at hf; omega
      obtain ⟨i0, hi0⟩ : ∃ i0, i = i0 + 1 := ⟨i - 1, by omega⟩
      have hjs : j < s := by omega
      have ej := he j hjs
      have dj := hI j hf
      obtain ⟨qDj, qLj⟩ := hS j hjs fun k hk => hI k (by omega)
      have cN2 := qNorm_t (F (e i) (e j)) ((ok _ _ ei ej).mono rfl)
      rw [← hBv] at cN2
      have tx : ∀ t, t < j → ql (LL B i t * LL B j t * DD B t) ≤ 196608 := fun t ht =>
        Nat.le_trans (ql_mul_le (ql_mul_le (qL t (by omega)) (qLj t ht)) (hS t (by omega) fun k hk => hI k (by omega)).1) (by decide)
      have hbx : ∀ k, k ≤ j → ql (B i j - sm k fun t => LL B i t * LL B j t * DD B t) ≤ 4194304 := fun k hk =>
        Nat.le_trans (ql_ps (qb i j hg hjs) k fun t ht => tx t (by omega)) (by
          have := Nat.mul_le_mul_right (196608 + 1) (show k ≤ 16 by omega)
          omega)
      have hbr : ql (B i i - sm j fun t => LL B i t * LL B i t * DD B t) ≤ 4194304 :=
        Nat.le_trans (ql_ps (qb i i hg hg) j fun t ht => tr t (by omega)) (by
          have := Nat.mul_le_mul_right (196608 + 1) (show j ≤ 16 by omega)
          omega)
      have hlx : (B i j - sm j fun t => LL B i t * LL B j t * DD B t) = LL B i j * DD B j := (LL_eq B hf (by grind)).symm
      have hr0 := ps_succ (B i i) (fun t => LL B i t * LL B i t * DD B t) j (x := LL B i j * DD B j * LL B i j) (by grind)
      refine AWP_skip ?_;show AWP _ _ _ _ _ _;refine AWP_seq ?_;refine AWP_block ?_
      subst hi0
      refine AWP_reg_seq tok fun K hK => ?_;refine s_move rfl rfl rfl ?_;refine s_assign rfl rfl rfl ?_;refine s_end (hK _ ?_); clear hK K;refine a_draw tok mixed (A := [[], [], [], [0, 1], [], [], [], [4, 5], [0, 1, 2, 4, 5, 6], [0, 1, 2, 3, 4, 5, 6, 7], [0, 1, 2, 3, 4, 5, 6, 7, 8], [], []]) (an := [{}, {}, {}, {}, {}, {}, {}, {}, {}, {}, {}, { c := [63] }, {}]) rfl (by kernel_rfl) rfl fun K hK => ?_;refine s_move rfl rfl rfl ?_;refine s_move rfl rfl rfl ?_;refine s_indexAddr rfl (x_mt rfl rfl rfl rfl rfl ei) rfl ?_;refine s_load rfl rfl rfl ?_;refine s_move rfl rfl rfl ?_;refine s_move rfl rfl rfl ?_;refine s_indexAddr rfl (x_n rfl rfl rfl rfl rfl hjs) rfl ?_;refine s_load rfl rfl rfl ?_;refine s_indexAddr rfl (x_v rfl rfl rfl rfl rfl ej) rfl ?_;refine s_load rfl rfl rfl ?_;refine s_call rfl rfl (cN2) rfl rfl rfl rfl ?_;refine s_alloc rfl rfl rfl rfl rfl rfl ?_;refine s_store rfl rfl rfl rfl rfl ?_;refine s_end (hK _ ?_); clear hK K;refine AWP_seq ?_;refine AWP_reg_seq tok fun K hK => ?_;refine s_move rfl rfl rfl ?_;refine s_move rfl rfl rfl ?_;refine s_end (hK _ ?_); clear hK K;refine AWP_block (a_loop (α := Nat) (fun k => mk 121 [(0, V1 (dMs (matW s s F))), (1, V1 (.sl (nmD s e))), (7, ownN 200 1 (i0 + 1)), (8, ownN 201 4 (i0 + 1)), (10, dI (e (i0 + 1))), (11, .val (.one (.own 26 4 0 s))), (13, .ptr 13 0), (14, dI j), (15, .ptr 15 0), (17, V1 (.sl (nmD s e))), (18, dI s), (19, dI (i0 + 1 : Nat)), (49, dI (i0 + 1 : Nat)), (50, dI j), (64, dI j), (65, dI k)] [(13, some (.box (qzW (B (i0 + 1) (i0 + 1) - sm j fun t => LL B (i0 + 1) t * LL B (i0 + 1) t * DD B t)).cs)), (15, some (.box (qzW (B (i0 + 1) j - sm k fun t => LL B (i0 + 1) t * LL B j t * DD B t)).cs)), (26, some (.arr 4 (rowD s (rG B (i0 + 1) j)))), (200, arrN 1 es (i0 + 1)), (201, arrN 4 (rowD (i0 + 1) fun r => qzW (DD B r)) (i0 + 1))] []) (fun k => k ≤ j) (fun k => j - k) 0 ?_ (Nat.zero_le _) ?_)
      · refine Wk.mk' ⟨rfl, rfl, rfl, rfl, rfl, rfl, rfl, rfl, rfl, rfl, rfl, rfl, rfl, rfl, rfl, rfl, trivial⟩ ⟨rfl, ?_, rfl, rfl, rfl, trivial⟩;rw [ps_zero]; rfl
      intro k hk
      refine AWP_reg_seq tok fun K hK => ?_;refine s_bin rfl rfl rfl ?_;refine s_end (hK _ ?_); clear hK K;refine AWP_seq ?_;refine a_cond rfl (fun hc => ?_) (fun hc => ?_)
      · have hc : k < j := by simp at hc; omega
        have qk := (hS k (by omega) fun k' hk' => hI k' (by omega)).1
        have cm := qMul_t (qzW (LL B (i0 + 1) k)) (qzW (LL B j k)) (LL B (i0 + 1) k * LL B j k) ((qzW_ok (qL k (by omega))).mono rfl) ((qzW_ok (qLj k hc)).mono rfl) (by rw [qzW_v, qzW_v])
        have cl := sLess_c (qzW (B (i0 + 1) j - sm k fun t => LL B (i0 + 1) t * LL B j t * DD B t)) (qzW (LL B (i0 + 1) k * LL B j k)) (qzW (DD B k)) (B (i0 + 1) j - sm (k + 1) fun t => LL B (i0 + 1) t * LL B j t * DD B t) ((qzW_ok (hbx k (by omega))).mono rfl) ((qzW_ok (ql_mul_le (qL k (by omega)) (qLj k hc))).mono rfl) ((qzW_ok qk).mono rfl) (by rw [qzW_v, qzW_v, qzW_v]; exact ps_succ _ _ _ rfl)
        refine AWP_skip ?_;show AWP _ _ _ _ _ _;refine AWP_seq ?_;refine AWP_block ?_;refine AWP_reg_seq tok fun K hK => ?_;refine s_move rfl rfl rfl ?_;refine s_assign rfl rfl rfl ?_;refine s_end (hK _ ?_); clear hK K;refine a_draw1 tok mixed (A := [[], [], [], [], [1, 2], [], [], [], [5, 6], [], [5, 6, 7], [5, 6, 7, 8, 9], [1, 2, 3, 5, 6, 7, 8, 9, 10], [], [], [], [13, 14], [1, 2, 3, 4, 5, 6, 7, 8, 9, 10, 11, 13, 14, 15], []]) (an := [{}, {}, {}, {}, {}, {}, {}, {}, {}, {}, {}, {}, {}, { c := [80] }, { c := [80] }, { c := [80] }, { c := [80] }, {}, {}]) rfl (by kernel_rfl) rfl fun K hK => ?_;refine s_load rfl rfl rfl ?_;refine s_move rfl rfl rfl ?_;refine s_move rfl rfl rfl ?_;refine s_indexAddr rfl (x_o (i := k) (j := k) rfl rfl rfl rfl rfl (show k < s by omega) (Nat.zero_add _)) rfl ?_;refine s_load rfl (l_qv rfl rfl rfl rfl (show k < s by omega) (if_pos hc)) rfl ?_;refine s_move rfl rfl rfl ?_;refine s_move rfl rfl rfl ?_;refine s_indexAddr rfl (x_o (i := j) (j := j) rfl rfl rfl rfl rfl hf (Nat.zero_add _)) rfl ?_;refine s_load rfl (l_o rfl rfl (g1 j hf) rfl rfl) rfl ?_;refine s_move rfl rfl rfl ?_;refine s_indexAddr rfl (x_v rfl rfl rfl rfl rfl (show k < s by omega)) rfl ?_;refine s_load rfl rfl rfl ?_;refine s_call rfl rfl (cm) rfl rfl rfl rfl ?_;refine s_move rfl rfl rfl ?_;refine s_move rfl rfl rfl ?_;refine s_indexAddr rfl (x_o (i := k) (j := k) rfl rfl rfl rfl rfl (show k < i0 + 1 by omega) (Nat.zero_add _)) rfl ?_;refine s_load rfl (l_qv rfl rfl rfl rfl (show k < i0 + 1 by omega) rfl) rfl ?_;refine s_call rfl rfl (cl) rfl rfl rfl rfl ?_;refine s_store rfl rfl rfl rfl rfl ?_;refine s_end (hK _ ?_); clear hK K;show AWP _ _ _ _ _ _;refine AWP_reg tok fun K hK => ?_;refine s_bin rfl (e_add (c := ((k + 1 : Nat) : Int)) (by omega) (by omega)) rfl ?_;refine s_move rfl rfl rfl ?_;refine s_end (hK _ ?_); clear hK K;exact ⟨k + 1, by omega, hc, Wk.mk' ⟨rfl, rfl, rfl, rfl, rfl, rfl, rfl, rfl, rfl, rfl, rfl, rfl, rfl, rfl, rfl, rfl, trivial⟩ ⟨rfl, rfl, rfl, rfl, rfl, trivial⟩⟩
      have hc : k = j := by simp at hc; omega
      subst hc
      refine AWP_exit ?_;show AWP _ _ _ _ _ _;rw [hlx]
      have ox := ql_mul_le (qL k hf) qDj
      have cd := qDiv_t (qzW (LL B (i0 + 1) k * DD B k)) (qzW (DD B k)) (LL B (i0 + 1) k) ((qzW_ok ox).mono rfl) ((qzW_ok qDj).mono rfl) (by rw [qzW_v]; grind) (by rw [qzW_v, qzW_v]; grind)
      have cl := sLess_c (qzW (B (i0 + 1) (i0 + 1) - sm k fun t => LL B (i0 + 1) t * LL B (i0 + 1) t * DD B t)) (qzW (LL B (i0 + 1) k * DD B k)) (qzW (LL B (i0 + 1) k)) (B (i0 + 1) (i0 + 1) - sm (k + 1) fun t => LL B (i0 + 1) t * LL B (i0 + 1) t * DD B t) ((qzW_ok hbr).mono rfl) ((qzW_ok ox).mono rfl) ((qzW_ok (qL k hf)).mono rfl) (by rw [qzW_v, qzW_v, qzW_v]; exact hr0)
      refine a_draw tok mixed (A := [[], [], [], [], [], [], [3, 4], [3, 4, 5], [2, 3, 4, 5, 6], [2, 3, 4, 5, 6, 7], [2, 3, 4, 5, 6, 7], [], []]) (an := [{}, {}, {}, {}, {}, {}, {}, {}, {}, {}, {}, {}, {}]) rfl (by kernel_rfl) rfl fun K hK => ?_;refine s_move rfl rfl rfl ?_;refine s_move rfl rfl rfl ?_;refine s_load rfl rfl rfl ?_;refine s_move rfl rfl rfl ?_;refine s_move rfl rfl rfl ?_;refine s_indexAddr rfl (x_o (i := k) (j := k) rfl rfl rfl rfl rfl hf (Nat.zero_add _)) rfl ?_;refine s_load rfl (l_qv rfl rfl rfl rfl hf rfl) rfl ?_;refine s_call rfl rfl (cd) rfl rfl rfl rfl ?_;refine s_move rfl rfl rfl ?_;refine s_extract rfl rfl rfl ?_;refine s_extract rfl rfl rfl ?_;refine s_indexAddr rfl (x_o (i := k) (j := k) rfl rfl rfl rfl rfl hjs (Nat.zero_add _)) rfl ?_;refine s_store rfl (st_q (qzW (LL B (i0 + 1) k)) rfl rfl rfl hjs) rfl rfl rfl ?_;refine s_end (hK _ ?_); clear hK K;rw [rowD_rs];refine a_draw1 tok mixed (A := [[], [], [], [], [], [2, 3], [2, 3, 4], []]) (an := [{}, {}, {}, {}, {}, {}, {}, {}]) rfl (by kernel_rfl) rfl fun K hK => ?_;refine s_load rfl rfl rfl ?_;refine s_load rfl rfl rfl ?_;refine s_move rfl rfl rfl ?_;refine s_move rfl rfl rfl ?_;refine s_indexAddr rfl (x_o (i := k) (j := k) rfl rfl rfl rfl rfl hjs (Nat.zero_add _)) rfl ?_;refine s_load rfl (l_qv rfl rfl rfl rfl hjs (if_pos (Nat.lt_succ_self k))) rfl ?_;refine s_call rfl rfl (cl) rfl rfl rfl rfl ?_;refine s_store rfl rfl rfl rfl rfl ?_;refine s_end (hK _ ?_); clear hK K;show AWP _ _ _ _ _ _;refine AWP_reg tok fun K hK => ?_;refine s_bin rfl (e_add (c := ((k + 1 : Nat) : Int)) (by omega) (by omega)) rfl ?_;refine s_move rfl rfl rfl ?_;refine s_end (hK _ ?_); clear hK K;exact ⟨k + 1, by omega, hf, Wk.mk' ⟨rfl, rfl, rfl, rfl, rfl, rfl, rfl, rfl, rfl, rfl, rfl, rfl, trivial⟩ ⟨rfl, rfl, rfl, rfl, trivial⟩⟩
    have hf : j = i := by simp at hf; omega
    subst hf
    refine AWP_exit ?_;show AWP _ _ _ _ _ _;rw [← DD_eq B j, rowD_rn]
    have cs := qSign_t (qzW (DD B j)) ((qzW_ok qD).mono rfl)
    rw [qzW_v] at cs;refine AWP_seq ?_;refine AWP_reg_seq tok fun K hK => ?_;refine s_load rfl rfl rfl ?_;refine s_call rfl rfl (cs) rfl rfl rfl rfl ?_;refine s_bin rfl rfl rfl ?_;refine s_end (hK _ ?_); clear hK K;refine a_cond rfl (fun hd => ?_) (fun hd => ?_)
    · have hd : ¬ 0 < DD B j := qSign_le.1 (of_decide_eq_true hd)
      have ef : facV B s = ([], [], false) := by rw [facV, if_neg]; simp only [posB, decide_eq_true_eq]; exact fun h => hd (h j hg)
      rw [ef];refine AWP_reg_seq tok fun K hK => ?_;refine s_assign rfl rfl rfl ?_;refine s_assign rfl rfl rfl ?_;refine s_assign rfl rfl rfl ?_;refine s_end (hK _ ?_); clear hK K;refine AWP_ret ?_
      repeat (with_reducible refine tq_ret ?_)
      exact post_ret (fin_mk (by rfl) (by rfl) (by rfl))
    · have hd : 0 < DD B j := by
        have := of_decide_eq_false hd
        exact Classical.byContradiction fun h => this (qSign_le.2 h)
      refine AWP_skip ?_;show AWP _ _ _ _ _ _
      rcases j with _ | j
      · refine a_fz [0, 1, 7, 8, 11, 13, 17, 18, 19] [13, 26, 200, 201] 26 [(0, V1 (dMs (matW s s F))), (1, V1 (.sl (nmD s e))), (7, ownN 200 1 (0)), (8, ownN 201 4 (0)), (11, V1 (dRs (vecW s fun c => qzW (LL B (0) c)))), (13, .ptr 13 0), (17, V1 (.sl (nmD s e))), (18, dI s), (19, dI (0 : Nat))] [(13, some (.box (qzW (DD B (0))).cs)), (200, arrN 1 es (0)), (201, arrN 4 (rowD (0) fun r => qzW (DD B r)) (0))] rfl ?_ ⟨rfl, rfl, rfl, trivial⟩ ?_
        · exact ⟨rfl, rfl, rfl, rfl, frz_own (vec_dc s _).symm (by simp [vecW]), rfl, rfl, rfl, rfl, trivial⟩
        refine a_draw1 tok mixed (A := [[], [], [], [1], [], [], [], [0, 1, 2, 5], [4, 5, 6], []]) (an := [{}, {}, {}, {}, { c := [112, 113] }, { c := [112, 113] }, { c := [112, 113] }, {}, {}, {}]) rfl (by kernel_rfl) rfl fun K hK => ?_;refine s_move rfl rfl rfl ?_;refine s_move rfl rfl rfl ?_;refine s_buildSlice rfl rfl rfl rfl ?_;refine s_append rfl (ap_nil rfl rfl rfl rfl rfl (by decide) (Nat.le_of_ble_eq_true rfl) rfl (by simp) rfl (by simp) (by simp)) rfl rfl rfl ?_;refine s_move rfl rfl rfl ?_;refine s_load rfl rfl rfl ?_;refine s_buildSlice rfl rfl rfl rfl ?_;refine s_append rfl (ap_nil rfl rfl rfl rfl rfl (by decide) (Nat.le_of_ble_eq_true rfl) rfl (by simp) rfl (by simp) (by simp)) rfl rfl rfl ?_;refine s_assign rfl rfl rfl ?_;refine s_assign rfl rfl rfl ?_;refine s_end (hK _ ?_); clear hK K;refine a_rn [0, 1, 7, 8, 17, 18, 19] [113, 117] 113 200 [(0, V1 (dMs (matW s s F))), (1, V1 (.sl (nmD s e))), (7, ownN 200 1 (0 + 1)), (8, ownN 117 4 (0 + 1)), (17, V1 (.sl (nmD s e))), (18, dI s), (19, dI (0 : Nat))] [(200, arrN 1 ((matW (0 + 1) s fun r c => qzW (LL B r c)).map cM) (0 + 1)), (117, arrN 4 (rowD (0 + 1) fun r => qzW (DD B r)) (0 + 1))] rfl rfl rfl ⟨rfl, rfl, ?_, ?_, rfl, rfl, rfl, trivial⟩ ⟨?_, ?_, trivial⟩ ?_
        · show SV.val (.one (.own 200 1 0 _)) = _
          first
            | rfl
            | (rw [List.length_append, z1]; rfl)
        · show SV.val (.one (.own 117 4 0 _)) = _
          first
            | rfl
            | (rw [List.length_append, z2]; rfl)
        · first
            | (rw [← n1, List.length_eq_zero_iff.1 z1]; rfl)
            | (rw [← n1]; rfl)
        · first
            | (rw [← n2, List.length_eq_zero_iff.1 z2]; rfl)
            | (rw [← n2]; rfl)
        show AWP _ _ _ _ _ _;refine AWP_reg tok fun K hK => ?_;refine s_bin rfl (e_add (c := ((0 + 1 : Nat) : Int)) (by omega) (by omega)) rfl ?_;refine s_move rfl rfl rfl ?_;refine s_end (hK _ ?_); clear hK K;refine ⟨0 + 1, by omega, ⟨hg, fun k hk => ?_⟩, Wk.rn [0, 1, 7, 8, 17, 18, 19] [200, 117] 117 201 rfl rfl rfl ⟨rfl, rfl, rfl, rfl, rfl, rfl, rfl, trivial⟩ ⟨rfl, rfl, trivial⟩⟩
        by_cases e : k = 0
        · rw [e]; exact hd
        · exact hI k (by omega)
      · refine a_fz [0, 1, 7, 8, 11, 13, 17, 18, 19] [13, 26, 200, 201] 26 [(0, V1 (dMs (matW s s F))), (1, V1 (.sl (nmD s e))), (7, ownN 200 1 (j + 1)), (8, ownN 201 4 (j + 1)), (11, V1 (dRs (vecW s fun c => qzW (LL B (j + 1) c)))), (13, .ptr 13 0), (17, V1 (.sl (nmD s e))), (18, dI s), (19, dI (j + 1 : Nat))] [(13, some (.box (qzW (DD B (j + 1))).cs)), (200, arrN 1 es (j + 1)), (201, arrN 4 (rowD (j + 1) fun r => qzW (DD B r)) (j + 1))] rfl ?_ ⟨rfl, rfl, rfl, trivial⟩ ?_
        · exact ⟨rfl, rfl, rfl, rfl, frz_own (vec_dc s _).symm (by simp [vecW]), rfl, rfl, rfl, rfl, trivial⟩
        refine a_draw1 tok mixed (A := [[], [], [], [1], [], [], [], [0, 1, 2, 5], [4, 5, 6], []]) (an := [{}, {}, {}, {}, { c := [112, 113] }, { c := [112, 113] }, { c := [112, 113] }, {}, {}, {}]) rfl (by kernel_rfl) rfl fun K hK => ?_;refine s_move rfl rfl rfl ?_;refine s_move rfl rfl rfl ?_;refine s_buildSlice rfl rfl rfl rfl ?_;refine s_append rfl (ap_o rfl rfl rfl rfl rfl rfl (by decide) (Nat.le_of_ble_eq_true rfl) rfl (by simp) rfl rfl z1.symm (by simp <;> omega)) rfl rfl rfl ?_;refine s_move rfl rfl rfl ?_;refine s_load rfl rfl rfl ?_;refine s_buildSlice rfl rfl rfl rfl ?_;refine s_append rfl (ap_o rfl rfl rfl rfl rfl rfl (by decide) (Nat.le_of_ble_eq_true rfl) rfl (by simp) rfl rfl z2.symm (by simp <;> omega)) rfl rfl rfl ?_;refine s_assign rfl rfl rfl ?_;refine s_assign rfl rfl rfl ?_;refine s_end (hK _ ?_); clear hK K;refine a_rn [0, 1, 7, 8, 17, 18, 19] [113, 117] 113 200 [(0, V1 (dMs (matW s s F))), (1, V1 (.sl (nmD s e))), (7, ownN 200 1 (j + 1 + 1)), (8, ownN 117 4 (j + 1 + 1)), (17, V1 (.sl (nmD s e))), (18, dI s), (19, dI (j + 1 : Nat))] [(200, arrN 1 ((matW (j + 1 + 1) s fun r c => qzW (LL B r c)).map cM) (j + 1 + 1)), (117, arrN 4 (rowD (j + 1 + 1) fun r => qzW (DD B r)) (j + 1 + 1))] rfl rfl rfl ⟨rfl, rfl, ?_, ?_, rfl, rfl, rfl, trivial⟩ ⟨?_, ?_, trivial⟩ ?_
        · show SV.val (.one (.own 200 1 0 _)) = _
          first
            | rfl
            | (rw [List.length_append, z1]; rfl)
        · show SV.val (.one (.own 117 4 0 _)) = _
          first
            | rfl
            | (rw [List.length_append, z2]; rfl)
        · first
            | (rw [← n1, List.length_eq_zero_iff.1 z1]; rfl)
            | (rw [← n1]; rfl)
        · first
            | (rw [← n2, List.length_eq_zero_iff.1 z2]; rfl)
            | (rw [← n2]; rfl)
        show AWP _ _ _ _ _ _;refine AWP_reg tok fun K hK => ?_;refine s_bin rfl (e_add (c := ((j + 1 + 1 : Nat) : Int)) (by omega) (by omega)) rfl ?_;refine s_move rfl rfl rfl ?_;refine s_end (hK _ ?_); clear hK K;refine ⟨j + 1 + 1, by omega, ⟨hg, fun k hk => ?_⟩, Wk.rn [0, 1, 7, 8, 17, 18, 19] [200, 117] 117 201 rfl rfl rfl ⟨rfl, rfl, rfl, rfl, rfl, rfl, rfl, trivial⟩ ⟨rfl, rfl, trivial⟩⟩
        by_cases e : k = j + 1
        · rw [e]; exact hd
        · exact hI k (by omega)
  have hg : i = n := by simp at hg; omega
  subst hg
  refine AWP_exit ?_;show AWP _ _ _ _ _ _
  have ef : facV B i = (facL B i, facD B i, true) := by rw [facV, if_pos]; simp only [posB, decide_eq_true_eq]; exact hI
  rw [ef]
  rcases i with _ | i
  · refine AWP_reg_seq tok fun K hK => ?_;refine s_move rfl rfl rfl ?_;refine s_move rfl rfl rfl ?_;refine s_assign rfl rfl rfl ?_;refine s_assign rfl rfl rfl ?_;refine s_assign rfl rfl rfl ?_;refine s_end (hK _ ?_); clear hK K;refine AWP_ret ?_
    repeat (with_reducible refine tq_ret ?_)
    exact post_ret (fin_mk (by rfl) (by rfl) (by rfl))
  · refine a_fz [7, 8] [200, 201] 200 [(7, V1 (dMs (facL B (i + 1)))), (8, ownN 201 4 (i + 1))] [(201, arrN 4 (rowD (i + 1) fun r => qzW (DD B r)) (i + 1))] rfl ?_ ⟨rfl, trivial⟩ ?_
    · exact ⟨frz_own rfl (matW_mlength _ _ _).symm, rfl, trivial⟩
    refine a_fz [7, 8] [201] 201 [(7, V1 (dMs (facL B (i + 1)))), (8, V1 (dRs (facD B (i + 1))))] [] rfl ?_ trivial ?_
    · exact ⟨rfl, frz_own (vec_dc _ _).symm (by simp [facD, vecW]), trivial⟩
    refine AWP_reg_seq tok fun K hK => ?_;refine s_move rfl rfl rfl ?_;refine s_move rfl rfl rfl ?_;refine s_assign rfl rfl rfl ?_;refine s_assign rfl rfl rfl ?_;refine s_assign rfl rfl rfl ?_;refine s_end (hK _ ?_); clear hK K;refine AWP_ret ?_
    repeat (with_reducible refine tq_ret ?_)
    exact post_ret (fin_mk (by rfl) (by rfl) (by rfl))
end Go.Proofs.Ytgopibpkgmafiaa

/- Systems of equations. No condition. -/
namespace Go.Proofs.Ytgopibpkgmafiaa
attribute [local irreducible] lexA

theorem bsx_val {L : Nat → Nat → Rat} {b : Nat → Rat} {n m : Nat} (hm : m < n) : bsx L b n n m = b m - sm n (fun j => if m < j then L j m * bsx L b n n j else 0) := by
  rw [bsx_keep L b (m := n) (s := n - m) (by omega) (by omega)]
  obtain ⟨s, hs⟩ : ∃ s, n - m = s + 1 := ⟨n - m - 1, by omega⟩
  rw [hs];simp only [bsx]
  rw [if_pos (by omega), sm_congr (f := fun j => if m < j then L j m * bsx L b n s j else 0) (g := fun j => if m < j then L j m * bsx L b n n j else 0) (fun j hj => by
    by_cases h : m < j
    · rw [if_pos h, if_pos h, bsx_keep L b (m := n) (s := s) (i := j) (by omega) (by omega)]
    · rw [if_neg h, if_neg h])]
theorem ql_div_le {x y : Rat} {k l : Nat} (hx : ql x ≤ k) (hy : ql y ≤ l) : ql (x / y) ≤ k + l := by
  by_cases h : y = 0
  · subst h
    have : x / 0 = 0 := by rw [Rat.div_def, Rat.inv_zero, Rat.mul_zero]
    rw [this]
    have h1 := ql_pos x
    exact Nat.le_trans ql_zero (by omega)
  · have h1 := (ivW_ok hy).ql (k := l) (Nat.ble_eq_true_of_le (Nat.le_trans (ql_pos y) hy))
    rw [ivW_v] at h1;rw [Rat.div_def];exact ql_mul_le hx h1
def rhsV (b : List RW) (i : Nat) : Rat := (b.getD i rw00).v
def matV (m : List (List RW)) (i j : Nat) : Rat := (mtv m i j).v
def slvL (B : Nat → Nat → Rat) (b : Nat → Rat) (n : Nat) : List RW := vecW n fun i => qzW (slv B b n i)
/-- What Solve answers. -/
def solveV (m : List (List RW)) (b : List RW) : List RW × Int :=
  if validM m = true ∧ b.length = m.length then (if posB (matV m) m.length then (slvL (matV m) (rhsV b) m.length, 0) else ([], 10)) else ([], 1)
def solS (B : Nat → Nat → Rat) (b : Nat → Rat) (n : Nat) : Prop := (∀ i, i < n → ql (fwv (LL B) b i) ≤ 655360) ∧ ∀ i, i < n → ql (slv B b n i) ≤ 65536
theorem vecW_of {b : List RW} {n : Nat} (hn : b.length = n) : b = vecW n fun i => b.getD i rw00 := by
  apply List.ext_getElem?
  intro i
  rcases Nat.lt_or_ge i n with hi | hi
  · have : i < b.length := by omega
    simp [vecW, hi, this]
  · rw [List.getElem?_eq_none (by omega), List.getElem?_eq_none (by simp [vecW]; omega)]
section
variable (B : Nat → Nat → Rat) (b : Nat → Rat)
def fwG (i t : Nat) : RW := if t < i then qzW (fwv (LL B) b t) else rw00
def fwR (i k t : Nat) : RW := if t < i then qzW (fwv (LL B) b t) else if t = i then qzW (b i - sm k fun j => LL B i j * fwv (LL B) b j) else rw00
def dvG (i t : Nat) : RW := if t < i then qzW (fwv (LL B) b t / DD B t) else qzW (fwv (LL B) b t)
def bkG (n s t : Nat) : RW := if n ≤ t + s then qzW (slv B b n t) else qzW (fwv (LL B) b t / DD B t)
def bkF (n i j : Nat) : Rat := if i < j then LL B j i * slv B b n j else 0
def bkR (n i m t : Nat) : RW := if i < t then qzW (slv B b n t) else if t = i then qzW (fwv (LL B) b i / DD B i - sm m (bkF B b n i)) else qzW (fwv (LL B) b t / DD B t)
theorem fw0 (n : Nat) : List.replicate n rw00.dc = rowD n (fwG B b 0) := by rw [rowD_zero]; exact rowD_congr fun i _ => by simp [fwG]
theorem fw1 (n i : Nat) : rowD n (updW (fwG B b i) i (qzW (b i))) = rowD n (fwR B b i 0) := rowD_congr fun t _ => by
  simp only [updW, fwG, fwR]
  by_cases h : t = i
  · rw [if_pos h, if_neg (by omega), if_pos h, ps_zero]
  · rw [if_neg h, if_neg h]
theorem fw2 (n i k : Nat) : rowD n (updW (fwR B b i k) i (qzW (b i - sm (k + 1) fun j => LL B i j * fwv (LL B) b j))) = rowD n (fwR B b i (k + 1)) := rowD_congr fun t _ => by
  simp only [updW, fwR]
  by_cases h : t = i
  · rw [if_pos h, if_neg (by omega), if_pos h]
  · rw [if_neg h, if_neg h, if_neg h]
theorem fw3 (n i : Nat) : rowD n (fwR B b i i) = rowD n (fwG B b (i + 1)) := rowD_congr fun t _ => by
  simp only [fwR, fwG];rw [← fwv_eq]
  by_cases h : t < i
  · rw [if_pos h, if_pos (by omega)]
  · rw [if_neg h]
    by_cases h2 : t = i
    · rw [if_pos h2, if_pos (by omega), h2]
    · rw [if_neg h2, if_neg (by omega)]
theorem dv0 (n : Nat) : rowD n (fwG B b n) = rowD n (dvG B b 0) := rowD_congr fun t ht => by simp [fwG, dvG, ht]
theorem dv1 (n i : Nat) : rowD n (updW (dvG B b i) i (qzW (fwv (LL B) b i / DD B i))) = rowD n (dvG B b (i + 1)) := rowD_congr fun t _ => by
  simp only [updW, dvG]
  by_cases h : t = i
  · rw [if_pos h, if_pos (by omega), h]
  · rw [if_neg h]
    by_cases h2 : t < i
    · rw [if_pos h2, if_pos (by omega)]
    · rw [if_neg h2, if_neg (by omega)]
theorem bk0 (n : Nat) : rowD n (dvG B b n) = rowD n (bkG B b n 0) := rowD_congr fun t ht => by
  simp only [dvG, bkG];rw [if_pos ht, if_neg (by omega)]
theorem bkF_zero (n i : Nat) : sm (i + 1) (bkF B b n i) = 0 := sm_zero' fun j hj => by simp only [bkF]; rw [if_neg (by omega)]
theorem bk1 {n i s : Nat} (h : n = i + s + 1) : rowD n (bkG B b n s) = rowD n (bkR B b n i (i + 1)) := rowD_congr fun t ht => by
  simp only [bkG, bkR];rw [bkF_zero]
  by_cases h1 : i < t
  · rw [if_pos (by omega), if_pos h1]
  · rw [if_neg (by omega), if_neg h1]
    by_cases h2 : t = i
    · rw [if_pos h2, h2]; congr 1; grind
    · rw [if_neg h2]
theorem bk2 (n i m : Nat) : rowD n (updW (bkR B b n i m) i (qzW (fwv (LL B) b i / DD B i - sm (m + 1) (bkF B b n i)))) = rowD n (bkR B b n i (m + 1)) := rowD_congr fun t _ => by
  simp only [updW, bkR]
  by_cases h : t = i
  · rw [if_pos h, if_neg (by omega), if_pos h]
  · rw [if_neg h, if_neg h, if_neg h]
theorem bk3 {n i s : Nat} (h : n = i + s + 1) : rowD n (bkR B b n i n) = rowD n (bkG B b n (s + 1)) := rowD_congr fun t ht => by
  have e : slv B b n i = fwv (LL B) b i / DD B i - sm n (bkF B b n i) := bsx_val (L := LL B) (b := fun k => fwv (LL B) b k / DD B k) (show i < n by omega)
  simp only [bkG, bkR];rw [← e]
  by_cases h1 : i < t
  · rw [if_pos h1, if_pos (by omega)]
  · rw [if_neg h1]
    by_cases h2 : t = i
    · rw [if_pos h2, if_pos (by omega), h2]
    · rw [if_neg h2, if_neg (by omega)]
theorem bk4 (n : Nat) : rowD n (bkG B b n n) = rowD n (fun i => qzW (slv B b n i)) := rowD_congr fun t _ => by
  simp only [bkG]; rw [if_pos (by omega)]
end

set_option maxHeartbeats 1000000 in
theorem sSolve_c (m : List (List RW)) (b : List RW) (hl : m.length ≤ 9223372036854775806) (hlb : b.length ≤ 9223372036854775806) (hr : ∀ r ∈ m, r.length ≤ 9223372036854775806) (ok : okM 65536 m) (ob : ∀ x ∈ b, x.OK 65536)
    (hF : validM m = true → b.length = m.length → facS (matV m) m.length ∧ (posB (matV m) m.length = true → solS (matV m) (rhsV b) m.length)) :
    Con Try.prog 68 [V1 (dMs m), V1 (dRs b)] { v := .tup [.one (.d (dRs (solveV m b).1)), .one (.d (lI (solveV m b).2))] } := by
  refine con_intro (fn := Try.f68) tok Try.func68 (by kernel_rfl) rfl ?_
  intro w0 X
  rw [entry_mkE _ _ [(0, V1 (dMs m)), (1, V1 (dRs b))] rfl rfl];refine AWP_reg_seq tok fun K hK => ?_;refine s_assign rfl rfl rfl ?_;refine s_assign rfl rfl rfl ?_;refine s_end (hK _ ?_); clear hK K;refine AWP_seq ?_;refine a_join (α := Bool) (fun c => mk 133 [(0, V1 (dMs m)), (1, V1 (dRs b)), (24, dB c)] [] []) (fun c => c = !(validM m && decide (b.length = m.length))) ?_ ?_
  · refine AWP_regW fun K hK => ?_;refine w_step tok rfl ?_;refine s_move rfl rfl rfl ?_;refine s_end ?_;refine w_step tok rfl ?_;refine s_call rfl rfl (sValid_c m hl hr ok) rfl rfl rfl rfl ?_;refine s_end ?_;refine w_step tok rfl ?_;refine s_un rfl rfl rfl ?_;refine s_end ?_;refine w_step tok rfl ?_;refine s_move rfl rfl rfl ?_;refine s_end ?_;refine w_split (fun h0 => ?_) (fun h0 => ?_)
    · refine w_skip rfl rfl ?_;refine w_skip rfl rfl ?_;refine w_skip rfl rfl ?_;refine w_skip rfl rfl ?_;refine w_skip rfl rfl ?_;refine w_step tok rfl ?_;refine s_pick rfl rfl rfl ?_;refine s_end ?_;refine w_end rfl (hK _ ?_); clear hK K;exact ⟨_, (by simp only [Bool.not_eq_true', Bool.not_eq_false'] at h0; rw [h0]; first|rfl|(rw [Bool.eq_iff_iff]; simp only [Bool.true_and, bne_iff_ne, ne_eq, Bool.not_eq_true', decide_eq_false_iff_not]; omega)), Wk.mk' ⟨rfl, rfl, rfl, trivial⟩ trivial⟩
    · refine w_step tok rfl ?_;refine s_move rfl rfl rfl ?_;refine s_end ?_;refine w_step tok rfl ?_;refine s_blt rfl (len_m RW.dc rfl rfl) rfl ?_;refine s_end ?_;refine w_step tok rfl ?_;refine s_move rfl rfl rfl ?_;refine s_end ?_;refine w_step tok rfl ?_;refine s_blt rfl (len_m cM rfl rfl) rfl ?_;refine s_end ?_;refine w_step tok rfl ?_;refine s_bin rfl rfl rfl ?_;refine s_end ?_;refine w_step tok rfl ?_;refine s_pick rfl rfl rfl ?_;refine s_end ?_;refine w_end rfl (hK _ ?_); clear hK K;exact ⟨_, (by simp only [Bool.not_eq_true', Bool.not_eq_false'] at h0; rw [h0]; first|rfl|(rw [Bool.eq_iff_iff]; simp only [Bool.true_and, bne_iff_ne, ne_eq, Bool.not_eq_true', decide_eq_false_iff_not]; omega)), Wk.mk' ⟨rfl, rfl, rfl, trivial⟩ trivial⟩
  rintro c rfl
  refine a_cond rfl (fun hc => ?_) (fun hc => ?_)
  · have e : solveV m b = ([], 1) := by rw [solveV, if_neg]; intro h; simp [h.1, h.2] at hc
    rw [e];refine AWP_reg_seq tok fun K hK => ?_;refine s_assign rfl rfl rfl ?_;refine s_assign rfl rfl rfl ?_;refine s_end (hK _ ?_); clear hK K;refine AWP_ret ?_
    repeat (with_reducible refine tq_ret ?_)
    exact post_ret (fin_mk (by rfl) (by rfl) (by rfl))
  have hc : validM m = true ∧ b.length = m.length := by simpa using hc
  obtain ⟨hF1, hF2⟩ := hF hc.1 hc.2
  rw [solveV, if_pos hc]
  have hV := of_decide_eq_true hc.1
  obtain ⟨hv1, hv2, _⟩ := hV
  obtain ⟨n, hn⟩ : ∃ n, m.length = n := ⟨_, rfl⟩
  have hm : m = matW n n (mtv m) := matW_of hn (fun r hr => (hv2 r hr).trans hn)
  have hbl : b.length = n := hc.2.trans hn
  have oF : ∀ i j, i < n → j < n → (mtv m i j).OK 65536 := fun i j hi hj => by rw [hm] at ok; exact okM_mat ok hi hj
  obtain ⟨G, hG⟩ : ∃ G : Nat → RW, G = fun i => b.getD i rw00 := ⟨_, rfl⟩
  have hb : b = vecW n G := by rw [hG]; exact vecW_of hbl
  have oG : ∀ i, i < n → (G i).OK 65536 := fun i hi => by
    have hib : i < b.length := by omega
    have : G i = b[i] := by rw [hG]; simp [hib]
    rw [this]; exact ob _ (List.getElem_mem hib)
  have hbv : ∀ i, rhsV b i = (G i).v := fun i => by rw [hG]; rfl
  rw [hn] at hF1 hF2 hv1
  have cF := sFactor_c n (mtv m) (fun i => i) hv1 (fun i hi => hi) oF hF1
  rw [← hm] at cF
  have eB : ordB (mtv m) (fun i => i) = matV m := rfl
  rw [eB] at cF;generalize rhsV b = bv at hF2 hbv ⊢;generalize matV m = B at cF hF1 hF2 ⊢;refine AWP_skip ?_;show AWP _ _ _ _ _ _;rw [hn];refine AWP_reg_seq tok fun K hK => ?_;refine s_move rfl rfl rfl ?_;refine s_move rfl rfl rfl ?_;refine s_blt rfl (len_d (n := n) rfl rfl (by rw [List.length_map]; exact hn)) rfl ?_;refine s_call rfl rfl (sStraight_c n (by omega)) rfl rfl rfl rfl ?_;refine s_call rfl rfl (cF) rfl rfl rfl rfl ?_;refine s_move rfl rfl rfl ?_;refine s_extract rfl rfl rfl ?_;refine s_extract rfl rfl rfl ?_;refine s_extract rfl rfl rfl ?_;refine s_assign rfl rfl rfl ?_;refine s_assign rfl rfl rfl ?_;refine s_assign rfl rfl rfl ?_;refine s_end (hK _ ?_); clear hK K
  cases hp : posB B n with
  | false =>
    have e : facV B n = ([], [], false) := by rw [facV, hp]; rfl
    rw [e];refine AWP_seq ?_;refine AWP_reg_seq tok fun K hK => ?_;refine s_move rfl rfl rfl ?_;refine s_un rfl rfl rfl ?_;refine s_end (hK _ ?_); clear hK K;refine a_cond rfl (fun _ => ?_) (fun h => by cases h);refine AWP_reg_seq tok fun K hK => ?_;refine s_assign rfl rfl rfl ?_;refine s_assign rfl rfl rfl ?_;refine s_end (hK _ ?_); clear hK K;refine AWP_ret ?_
    repeat (with_reducible refine tq_ret ?_)
    exact post_ret (fin_mk (by rfl) (by rfl) (by rfl))
  | true =>
  obtain ⟨hS1, hS2⟩ := hF2 hp
  have hD := of_decide_eq_true hp
  have e : facV B n = (facL B n, facD B n, true) := by rw [facV, hp]; rfl
  have qL : ∀ i j, i < n → j < i → ql (LL B i j) ≤ 65536 := fun i j hi hj => (hF1 i hi fun k hk => hD k (by omega)).2 j hj
  have qD : ∀ i, i < n → ql (DD B i) ≤ 65536 := fun i hi => (hF1 i hi fun k hk => hD k (by omega)).1
  rw [e];refine AWP_seq ?_;refine AWP_reg_seq tok fun K hK => ?_;refine s_move rfl rfl rfl ?_;refine s_un rfl rfl rfl ?_;refine s_end (hK _ ?_); clear hK K;refine a_cond rfl (fun h => by cases h) (fun _ => ?_);refine AWP_skip ?_;show AWP _ _ _ _ _ _;rw [hb];refine AWP_reg_seq tok fun K hK => ?_;refine s_move rfl rfl rfl ?_;refine s_blt rfl (len_v rfl rfl) rfl ?_;refine s_makeSlice (sz := _) (es := _) (f := _) (v := _) rfl (mk_a (l := n) rfl rfl rfl rfl rfl (Nat.le_of_ble_eq_true rfl) (by decide) rfl rfl (by omega)) rfl rfl ?_;refine s_assign rfl rfl rfl ?_;refine s_end (hK _ ?_); clear hK K;refine AWP_seq ?_;refine AWP_reg_seq tok fun K hK => ?_;refine s_move rfl rfl rfl ?_;refine s_blt rfl rfl rfl ?_;refine s_move rfl rfl rfl ?_;refine s_end (hK _ ?_); clear hK K;refine AWP_block (a_loop (α := Nat) (fun i => mk 133 [(1, V1 (dRs (vecW n G))), (6, V1 (dMs (facL B n))), (7, V1 (dRs (facD B n))), (9, .val (.one (.own 38 4 0 n))), (40, dI n), (41, dI i)] [(38, some (.arr 4 (rowD n (fwG B bv i))))] []) (fun i => i ≤ n) (fun i => n - i) 0 ?_ (Nat.zero_le _) ?_)
  · exact Wk.mk' ⟨rfl, rfl, rfl, rfl, rfl, rfl, trivial⟩ ⟨congrArg (fun x => some (OO.arr 4 x)) (fw0 B bv n), trivial⟩
  intro i hi
  refine AWP_reg_seq tok fun K hK => ?_;refine s_bin rfl rfl rfl ?_;refine s_end (hK _ ?_); clear hK K;refine AWP_seq ?_;refine a_cond rfl (fun hg => ?_) (fun hg => ?_)
  · have hg : i < n := by simp at hg; omega
    have c1 := qNorm_t (G i) ((oG i hg).mono rfl)
    have qb := (oG i hg).ql rfl
    rw [← hbv] at c1 qb
    have tf : ∀ j, j < i → ql (LL B i j * fwv (LL B) bv j) ≤ 720896 := fun j hj => Nat.le_trans (ql_mul_le (qL i j hg hj) (hS1 j (by omega))) (by decide)
    have qx : ∀ k, k ≤ i → ql (bv i - sm k fun j => LL B i j * fwv (LL B) bv j) ≤ 16777215 := fun k hk => Nat.le_trans (ql_ps qb k fun t ht => tf t (by omega)) (by
      have := Nat.mul_le_mul_right (720896 + 1) (show k ≤ 16 by omega)
      omega)
    refine AWP_skip ?_;show AWP _ _ _ _ _ _;refine AWP_seq ?_;refine AWP_block ?_;refine AWP_reg_seq tok fun K hK => ?_;refine s_move rfl rfl rfl ?_;refine s_assign rfl rfl rfl ?_;refine s_end (hK _ ?_); clear hK K;refine AWP_reg_seq tok fun K hK => ?_;refine s_move rfl rfl rfl ?_;refine s_move rfl rfl rfl ?_;refine s_move rfl rfl rfl ?_;refine s_move rfl rfl rfl ?_;refine s_indexAddr rfl (x_v rfl rfl rfl rfl rfl hg) rfl ?_;refine s_load rfl rfl rfl ?_;refine s_call rfl rfl (c1) rfl rfl rfl rfl ?_;refine s_indexAddr rfl (x_o (i := i) (j := i) rfl rfl rfl rfl rfl hg (Nat.zero_add _)) rfl ?_;refine s_store rfl (st_q (qzW (bv i)) rfl rfl rfl hg) rfl rfl rfl ?_;refine s_end (hK _ ?_); clear hK K;rw [fw1];refine AWP_reg_seq tok fun K hK => ?_;refine s_move rfl rfl rfl ?_;refine s_move rfl rfl rfl ?_;refine s_end (hK _ ?_); clear hK K;refine AWP_block (a_loop (α := Nat) (fun k => mk 133 [(1, V1 (dRs (vecW n G))), (6, V1 (dMs (facL B n))), (7, V1 (dRs (facD B n))), (9, .val (.one (.own 38 4 0 n))), (10, dI i), (40, dI n), (41, dI i), (52, dI i), (53, dI k)] [(38, some (.arr 4 (rowD n (fwR B bv i k))))] []) (fun k => k ≤ i) (fun k => i - k) 0 ?_ (Nat.zero_le _) ?_)
    · exact Wk.mk' ⟨rfl, rfl, rfl, rfl, rfl, rfl, rfl, rfl, rfl, trivial⟩ ⟨rfl, trivial⟩
    intro k hk
    refine AWP_reg_seq tok fun K hK => ?_;refine s_bin rfl rfl rfl ?_;refine s_end (hK _ ?_); clear hK K;refine AWP_seq ?_;refine a_cond rfl (fun hf => ?_) (fun hf => ?_)
    · have hf : k < i := by simp at hf; omega
      have cl := sLess_c (qzW (bv i - sm k fun j => LL B i j * fwv (LL B) bv j)) (qzW (LL B i k)) (qzW (fwv (LL B) bv k)) (bv i - sm (k + 1) fun j => LL B i j * fwv (LL B) bv j) (qzW_ok (qx k hk)) ((qzW_ok (qL i k hg hf)).mono rfl) ((qzW_ok (hS1 k (by omega))).mono rfl) (by rw [qzW_v, qzW_v, qzW_v]; exact ps_succ _ _ _ rfl)
      refine AWP_skip ?_;show AWP _ _ _ _ _ _;refine AWP_seq ?_;refine AWP_block ?_;refine AWP_reg_seq tok fun K hK => ?_;refine s_move rfl rfl rfl ?_;refine s_assign rfl rfl rfl ?_;refine s_end (hK _ ?_); clear hK K;refine a_draw1 tok mixed (A := [[], [], [], [], [], [2, 3], [], [], [], [6, 7], [], [6, 7, 8], [6, 7, 8, 9, 10], [], [], [], [13, 14], [2, 3, 4, 6, 7, 8, 9, 10, 11, 13, 14, 15], [], []]) (an := [{}, {}, {}, {}, {}, {}, {}, {}, {}, {}, {}, {}, {}, {}, {}, {}, {}, {}, {}, {}]) rfl (by kernel_rfl) rfl fun K hK => ?_;refine s_move rfl rfl rfl ?_;refine s_move rfl rfl rfl ?_;refine s_move rfl rfl rfl ?_;refine s_move rfl rfl rfl ?_;refine s_indexAddr rfl (x_o (i := i) (j := i) rfl rfl rfl rfl rfl hg (Nat.zero_add _)) rfl ?_;refine s_load rfl (l_qv (x := qzW (bv i - sm k fun j => LL B i j * fwv (LL B) bv j)) rfl rfl rfl rfl hg (by simp [fwR])) rfl ?_;refine s_move rfl rfl rfl ?_;refine s_move rfl rfl rfl ?_;refine s_indexAddr rfl (x_mt rfl rfl rfl rfl rfl hg) rfl ?_;refine s_load rfl rfl rfl ?_;refine s_move rfl rfl rfl ?_;refine s_indexAddr rfl (x_v rfl rfl rfl rfl rfl (show k < n by omega)) rfl ?_;refine s_load rfl rfl rfl ?_;refine s_move rfl rfl rfl ?_;refine s_move rfl rfl rfl ?_;refine s_indexAddr rfl (x_o (i := k) (j := k) rfl rfl rfl rfl rfl (show k < n by omega) (Nat.zero_add _)) rfl ?_;refine s_load rfl (l_qv (x := qzW (fwv (LL B) bv k)) rfl rfl rfl rfl (show k < n by omega) (if_pos hf)) rfl ?_;refine s_call rfl rfl (cl) rfl rfl rfl rfl ?_;refine s_indexAddr rfl (x_o (i := i) (j := i) rfl rfl rfl rfl rfl hg (Nat.zero_add _)) rfl ?_;refine s_store rfl (st_q (qzW (bv i - sm (k + 1) fun j => LL B i j * fwv (LL B) bv j)) rfl rfl rfl hg) rfl rfl rfl ?_;refine s_end (hK _ ?_); clear hK K;rw [fw2];show AWP _ _ _ _ _ _;refine AWP_reg tok fun K hK => ?_;refine s_bin rfl (e_add (c := ((k + 1 : Nat) : Int)) (by omega) (by omega)) rfl ?_;refine s_move rfl rfl rfl ?_;refine s_end (hK _ ?_); clear hK K;exact ⟨k + 1, by omega, hf, Wk.mk' ⟨rfl, rfl, rfl, rfl, rfl, rfl, rfl, rfl, rfl, trivial⟩ ⟨rfl, trivial⟩⟩
    have hf : k = i := by simp at hf; omega
    subst hf
    refine AWP_exit ?_;show AWP _ _ _ _ _ _;rw [fw3];refine AWP_reg tok fun K hK => ?_;refine s_bin rfl (e_add (c := ((k + 1 : Nat) : Int)) (by omega) (by omega)) rfl ?_;refine s_move rfl rfl rfl ?_;refine s_end (hK _ ?_); clear hK K;exact ⟨k + 1, by omega, hg, Wk.mk' ⟨rfl, rfl, rfl, rfl, rfl, rfl, trivial⟩ ⟨rfl, trivial⟩⟩
  have hg : i = n := by simp at hg; omega
  subst hg
  refine AWP_exit ?_;show AWP _ _ _ _ _ _;rw [dv0];refine AWP_seq ?_;refine AWP_reg_seq tok fun K hK => ?_;refine s_move rfl rfl rfl ?_;refine s_blt rfl rfl rfl ?_;refine s_move rfl rfl rfl ?_;refine s_end (hK _ ?_); clear hK K;refine AWP_block (a_loop (α := Nat) (fun k => mk 133 [(6, V1 (dMs (facL B i))), (7, V1 (dRs (facD B i))), (9, .val (.one (.own 38 4 0 i))), (78, dI i), (79, dI k)] [(38, some (.arr 4 (rowD i (dvG B bv k))))] []) (fun k => k ≤ i) (fun k => i - k) 0 ?_ (Nat.zero_le _) ?_)
  · exact Wk.mk' ⟨rfl, rfl, rfl, rfl, rfl, trivial⟩ ⟨rfl, trivial⟩
  intro k hk
  refine AWP_reg_seq tok fun K hK => ?_;refine s_bin rfl rfl rfl ?_;refine s_end (hK _ ?_); clear hK K;refine AWP_seq ?_;refine a_cond rfl (fun hf => ?_) (fun hf => ?_)
  · have hf : k < i := by simp at hf; omega
    have dk := hD k hf
    have cd := qDiv_t (qzW (fwv (LL B) bv k)) (qzW (DD B k)) (fwv (LL B) bv k / DD B k) ((qzW_ok (hS1 k hf)).mono rfl) ((qzW_ok (qD k hf)).mono rfl) (by rw [qzW_v]; grind) (by rw [qzW_v, qzW_v])
    refine AWP_skip ?_;show AWP _ _ _ _ _ _;refine AWP_seq ?_;refine AWP_block ?_;refine AWP_reg_seq tok fun K hK => ?_;refine s_move rfl rfl rfl ?_;refine s_assign rfl rfl rfl ?_;refine s_end (hK _ ?_); clear hK K;refine a_draw1 tok mixed (A := [[], [], [], [], [], [2, 3], [], [], [], [6, 7], [2, 3, 4, 6, 7, 8], [2, 3, 4, 5, 6, 7, 8, 9], [2, 3, 4, 5, 6, 7, 8, 9, 10], [2, 3, 4, 5, 6, 7, 8, 9, 10], [], []]) (an := [{}, {}, {}, {}, {}, {}, {}, {}, {}, {}, {}, {}, {}, {}, {}, {}]) rfl (by kernel_rfl) rfl fun K hK => ?_;refine s_move rfl rfl rfl ?_;refine s_move rfl rfl rfl ?_;refine s_move rfl rfl rfl ?_;refine s_move rfl rfl rfl ?_;refine s_indexAddr rfl (x_o (i := k) (j := k) rfl rfl rfl rfl rfl hf (Nat.zero_add _)) rfl ?_;refine s_load rfl (l_qv (x := qzW (fwv (LL B) bv k)) rfl rfl rfl rfl hf (if_neg (Nat.lt_irrefl k))) rfl ?_;refine s_move rfl rfl rfl ?_;refine s_move rfl rfl rfl ?_;refine s_indexAddr rfl (x_v rfl rfl rfl rfl rfl hf) rfl ?_;refine s_load rfl rfl rfl ?_;refine s_call rfl rfl (cd) rfl rfl rfl rfl ?_;refine s_move rfl rfl rfl ?_;refine s_extract rfl rfl rfl ?_;refine s_extract rfl rfl rfl ?_;refine s_indexAddr rfl (x_o (i := k) (j := k) rfl rfl rfl rfl rfl hf (Nat.zero_add _)) rfl ?_;refine s_store rfl (st_q (qzW (fwv (LL B) bv k / DD B k)) rfl rfl rfl hf) rfl rfl rfl ?_;refine s_end (hK _ ?_); clear hK K;rw [dv1];show AWP _ _ _ _ _ _;refine AWP_reg tok fun K hK => ?_;refine s_bin rfl (e_add (c := ((k + 1 : Nat) : Int)) (by omega) (by omega)) rfl ?_;refine s_move rfl rfl rfl ?_;refine s_end (hK _ ?_); clear hK K;exact ⟨k + 1, by omega, hf, Wk.mk' ⟨rfl, rfl, rfl, rfl, rfl, trivial⟩ ⟨rfl, trivial⟩⟩
  have hf : k = i := by simp at hf; omega
  subst hf
  refine AWP_exit ?_;show AWP _ _ _ _ _ _;rw [bk0]
  have qc : ∀ i, i < k → ql (fwv (LL B) bv i / DD B i) ≤ 720896 := fun i hi => ql_div_le (hS1 i hi) (qD i hi)
  refine AWP_seq ?_;refine AWP_reg_seq tok fun K hK => ?_;refine s_move rfl rfl rfl ?_;refine s_blt rfl rfl rfl ?_;refine s_bin rfl (e_sub (c := (k : Int) - 1 - (0 : Nat)) (by omega) (by omega)) rfl ?_;refine s_assign rfl rfl rfl ?_;refine s_end (hK _ ?_); clear hK K;refine AWP_block (a_loop (α := Nat) (fun s => mk 133 [(6, V1 (dMs (facL B k))), (9, .val (.one (.own 38 4 0 k))), (13, dI ((k : Int) - 1 - s))] [(38, some (.arr 4 (rowD k (bkG B bv k s))))] []) (fun s => s ≤ k) (fun s => k - s) 0 ?_ (Nat.zero_le _) ?_)
  · exact Wk.mk' ⟨rfl, rfl, rfl, trivial⟩ ⟨rfl, trivial⟩
  intro s hs
  refine AWP_seq ?_;refine AWP_reg_seq tok fun K hK => ?_;refine s_move rfl rfl rfl ?_;refine s_bin rfl rfl rfl ?_;refine s_end (hK _ ?_); clear hK K;refine a_cond rfl (fun hd => ?_) (fun hd => ?_)
  · obtain ⟨j, hj⟩ : ∃ j, k = j + s + 1 := ⟨k - s - 1, by simp at hd; omega⟩
    have hjk : j < k := by omega
    have ej : (k : Int) - 1 - s = (j : Int) := by omega
    rw [ej, bk1 B bv hj]
    have tg : ∀ t, t < k → ql (bkF B bv k j t) ≤ 131072 := fun t ht => by
      simp only [bkF]; split
      · exact Nat.le_trans (ql_mul_le (qL t j ht (by omega)) (hS2 t ht)) (by decide)
      · exact Nat.le_trans ql_zero (by decide)
    have qx : ∀ p, p ≤ k → ql (fwv (LL B) bv j / DD B j - sm p (bkF B bv k j)) ≤ 16777215 := fun p hp => Nat.le_trans (ql_ps (qc j hjk) p fun t ht => tg t (by omega)) (by
      have := Nat.mul_le_mul_right (131072 + 1) (show p ≤ 16 by omega)
      omega)
    refine AWP_skip ?_;show AWP _ _ _ _ _ _;refine AWP_seq ?_;refine AWP_block ?_;refine AWP_reg_seq tok fun K hK => ?_;refine s_move rfl rfl rfl ?_;refine s_bin rfl (e_add (c := ((j + 1 : Nat) : Int)) (by omega) (by omega)) rfl ?_;refine s_assign rfl rfl rfl ?_;refine s_end (hK _ ?_); clear hK K;refine AWP_block (a_loop (α := Nat) (fun p => mk 133 [(6, V1 (dMs (facL B k))), (9, .val (.one (.own 38 4 0 k))), (13, dI j), (14, dI p)] [(38, some (.arr 4 (rowD k (bkR B bv k j p))))] []) (fun p => j + 1 ≤ p ∧ p ≤ k) (fun p => k - p) (j + 1) ?_ ⟨Nat.le_refl _, hjk⟩ ?_)
    · exact Wk.mk' ⟨rfl, rfl, rfl, rfl, trivial⟩ ⟨rfl, trivial⟩
    rintro p ⟨hp1, hp2⟩
    refine AWP_seq ?_;refine AWP_reg_seq tok fun K hK => ?_;refine s_move rfl rfl rfl ?_;refine s_move rfl rfl rfl ?_;refine s_blt rfl rfl rfl ?_;refine s_bin rfl rfl rfl ?_;refine s_end (hK _ ?_); clear hK K;refine a_cond rfl (fun hx => ?_) (fun hx => ?_)
    · have hx : p < k := by simp at hx; omega
      have cl := sLess_c (qzW (fwv (LL B) bv j / DD B j - sm p (bkF B bv k j))) (qzW (LL B p j)) (qzW (slv B bv k p)) (fwv (LL B) bv j / DD B j - sm (p + 1) (bkF B bv k j)) (qzW_ok (qx p hp2)) ((qzW_ok (qL p j hx (by omega))).mono rfl) ((qzW_ok (hS2 p hx)).mono rfl) (by rw [qzW_v, qzW_v, qzW_v]; exact ps_succ _ _ _ (if_pos (by omega)))
      refine AWP_skip ?_;show AWP _ _ _ _ _ _;refine AWP_seq ?_;refine AWP_block ?_;refine a_draw1 tok mixed (A := [[], [], [], [], [], [2, 3], [], [], [], [6, 7], [], [6, 7, 8], [6, 7, 8, 9, 10], [], [], [], [13, 14], [2, 3, 4, 6, 7, 8, 9, 10, 11, 13, 14, 15], [], []]) (an := [{}, {}, {}, {}, {}, {}, {}, {}, {}, {}, {}, {}, {}, {}, {}, {}, {}, {}, {}, {}]) rfl (by kernel_rfl) rfl fun K hK => ?_;refine s_move rfl rfl rfl ?_;refine s_move rfl rfl rfl ?_;refine s_move rfl rfl rfl ?_;refine s_move rfl rfl rfl ?_;refine s_indexAddr rfl (x_o (i := j) (j := j) rfl rfl rfl rfl rfl hjk (Nat.zero_add _)) rfl ?_;refine s_load rfl (l_qv (x := qzW (fwv (LL B) bv j / DD B j - sm p (bkF B bv k j))) rfl rfl rfl rfl hjk (by simp [bkR])) rfl ?_;refine s_move rfl rfl rfl ?_;refine s_move rfl rfl rfl ?_;refine s_indexAddr rfl (x_mt rfl rfl rfl rfl rfl hx) rfl ?_;refine s_load rfl rfl rfl ?_;refine s_move rfl rfl rfl ?_;refine s_indexAddr rfl (x_v rfl rfl rfl rfl rfl hjk) rfl ?_;refine s_load rfl rfl rfl ?_;refine s_move rfl rfl rfl ?_;refine s_move rfl rfl rfl ?_;refine s_indexAddr rfl (x_o (i := p) (j := p) rfl rfl rfl rfl rfl hx (Nat.zero_add _)) rfl ?_;refine s_load rfl (l_qv (x := qzW (slv B bv k p)) rfl rfl rfl rfl hx (if_pos (by omega))) rfl ?_;refine s_call rfl rfl (cl) rfl rfl rfl rfl ?_;refine s_indexAddr rfl (x_o (i := j) (j := j) rfl rfl rfl rfl rfl hjk (Nat.zero_add _)) rfl ?_;refine s_store rfl (st_q (qzW (fwv (LL B) bv j / DD B j - sm (p + 1) (bkF B bv k j))) rfl rfl rfl hjk) rfl rfl rfl ?_;refine s_end (hK _ ?_); clear hK K;rw [bk2];show AWP _ _ _ _ _ _;refine AWP_reg tok fun K hK => ?_;refine s_move rfl rfl rfl ?_;refine s_bin rfl (e_add (c := ((p + 1 : Nat) : Int)) (by omega) (by omega)) rfl ?_;refine s_assign rfl rfl rfl ?_;refine s_end (hK _ ?_); clear hK K;exact ⟨p + 1, by omega, ⟨by omega, hx⟩, Wk.mk' ⟨rfl, rfl, rfl, rfl, trivial⟩ ⟨rfl, trivial⟩⟩
    have hx : p = k := by simp at hx; omega
    subst hx
    refine AWP_exit ?_;show AWP _ _ _ _ _ _;rw [bk3 B bv hj];refine AWP_reg tok fun K hK => ?_;refine s_move rfl rfl rfl ?_;refine s_bin rfl (e_sub (c := (p : Int) - 1 - (s + 1 : Nat)) (by omega) (by omega)) rfl ?_;refine s_assign rfl rfl rfl ?_;refine s_end (hK _ ?_); clear hK K;exact ⟨s + 1, by omega, by omega, Wk.mk' ⟨rfl, rfl, rfl, trivial⟩ ⟨rfl, trivial⟩⟩
  have hd : s = k := by simp at hd; omega
  subst hd
  refine AWP_exit ?_;show AWP _ _ _ _ _ _;rw [bk4];refine a_fz [9] [38] 38 [(9, V1 (dRs (slvL B bv s)))] [] rfl ?_ trivial ?_
  · exact ⟨frz_own (vec_dc _ _).symm (by simp [slvL, vecW]), trivial⟩
  rw [if_pos rfl];refine AWP_reg_seq tok fun K hK => ?_;refine s_move rfl rfl rfl ?_;refine s_assign rfl rfl rfl ?_;refine s_assign rfl rfl rfl ?_;refine s_end (hK _ ?_); clear hK K;refine AWP_ret ?_
  repeat (with_reducible refine tq_ret ?_)
  exact post_ret (fin_mk (by rfl) (by rfl) (by rfl))
end Go.Proofs.Ytgopibpkgmafiaa

/- Determinants by elimination. No condition. -/
namespace Go.Proofs.Ytgopibpkgmafiaa
attribute [local irreducible] lexA

theorem sCloneQ_c (n : Nat) (G : Nat → RW) (h0 : 0 < n) (hn : n ≤ 1048576) : Con Try.prog 84 [V1 (dRs (vecW n G))] { v := .val (.one (.own 0 4 0 n)), ob := some (4, rowD n G) } := by
  have hne : ∀ l : List (List DC), l.length = n → l ≠ [] := fun l h e => by rw [e] at h; simp at h; omega
  refine con_intro (fn := Try.f84) tok Try.func84 (by kernel_rfl) rfl ?_
  intro w0 X
  rw [entry_mkE _ _ [(0, V1 (dRs (vecW n G)))] rfl rfl];refine AWP_reg_seq tok fun K hK => ?_;refine s_assign rfl rfl rfl ?_;refine s_end (hK _ ?_); clear hK K;refine AWP_seq ?_;refine AWP_isNil (es := (vecW n G).map RW.dc) tok rfl rfl rfl rfl rfl rfl rfl rfl rfl rfl fun b hb => ?_;rw [put_mk, put_mk];refine a_cond rfl (fun hc => ?_) (fun hc => ?_)
  · exact absurd (hb hc) (hne _ (by simp [vecW]))
  · refine AWP_skip ?_;show AWP _ _ _ _ _ _;refine AWP_reg_seq tok fun K hK => ?_;refine s_buildSlice rfl rfl rfl rfl ?_;refine s_move rfl rfl rfl ?_;refine s_append rfl (ap_o (es := []) rfl rfl rfl rfl rfl rfl (by decide) (Nat.le_of_ble_eq_true rfl) rfl (fun e he => by obtain ⟨x, _, rfl⟩ := List.mem_map.1 he; rfl) rfl rfl rfl (by simp [vecW]; omega)) rfl rfl rfl ?_;refine s_assign rfl rfl rfl ?_;refine s_end (hK _ ?_); clear hK K;refine a_keep [(2, .val (.one (.own 7 4 0 n)))] [(7, some (.arr 4 (rowD n G)))] ⟨?_, trivial⟩ ⟨?_, trivial⟩ ?_
    · show SV.val (.one (.own 7 4 0 (([] : List (List DC)) ++ (vecW n G).map RW.dc).length)) = _
      rw [List.nil_append, vec_dc, rowD_length]
    · show some (OO.arr 4 (([] : List (List DC)) ++ (vecW n G).map RW.dc)) = _
      rw [List.nil_append, vec_dc]
    refine AWP_ret ?_;exact post_ret (fin_own (by rfl) rfl)

theorem qNeg_z (q : Rat) (h : ql q ≤ 16777216) : Con Try.prog 58 [AG (qzW q).cs] { v := AG (qzW (-q)).cs } := by
  have := qNeg_t (qzW q) (qzW_ok h)
  rwa [qzW_v] at this

/-- What Det answers. -/
def detV (m : List (List RW)) : RW × Int := if validM m = true then (qzW (dt m.length (matV m)), 0) else (rw00, 1)
def box0 : OO := .box [.d (.lit (.bool false)), .nil, .d (.lit (.bool false)), .nil]
def gB (n : Nat) : Nat → Option OO
  | 0 => none
  | i + 1 => some (.box (gridC 1000 4 n (i + 1)))
/-- A row in the making. -/
def wV (V : Nat → Nat → RW) (s i j : Nat) (f : Nat → Rat) : Nat → Nat → RW := fun q c => if q = s then (if i ≤ c ∧ c < j then qzW (f c) else V q c) else V q c
theorem wV_0 (V : Nat → Nat → RW) (s i : Nat) (f : Nat → Rat) (q : Nat) : wV V s i i f q = V q := by
  funext c; unfold wV; split
  · rw [if_neg (by omega)]
  · rfl
theorem wV_s (V : Nat → Nat → RW) {n s i j : Nat} (hij : i ≤ j) (f : Nat → Rat) : rowD n (updW (wV V s i j f s) j (qzW (f j))) = rowD n (wV V s i (j + 1) f s) := rowD_congr fun c _ => by
  simp only [updW, wV, if_true]
  by_cases h : c = j
  · subst h; rw [if_pos rfl, if_pos ⟨hij, by omega⟩]
  · rw [if_neg h]
    by_cases h2 : i ≤ c ∧ c < j
    · rw [if_pos h2, if_pos (by omega)]
    · rw [if_neg h2, if_neg (by omega)]
/-- The state of an elimination: the rows stand in the order σ; those from i on are A. -/
structure EL (n i : Nat) (V : Nat → Nat → RW) (σ : Nat → Nat) (A : Nat → Nat → Rat) : Prop where
  lt : ∀ r, r < n → σ r < n
  inj : ∀ r s, r < n → s < n → σ r = σ s → r = s
  ok : ∀ r c, i ≤ r → r < n → i ≤ c → c < n → (V (σ r) c).OK 65536
  v : ∀ r c, i ≤ r → r < n → i ≤ c → c < n → (V (σ r) c).v = A r c
/-- Behind the exchange: the rows below r are done. -/
structure ER (n i k r : Nat) (V : Nat → Nat → RW) (σ : Nat → Nat) (A : Nat → Nat → Rat) : Prop where
  lt : ∀ r, r < n → σ r < n
  inj : ∀ r s, r < n → s < n → σ r = σ s → r = s
  ok : ∀ p c, i ≤ p → p < n → i ≤ c → c < n → (V (σ p) c).OK 65536
  v : ∀ p c, i ≤ p → p < n → i ≤ c → c < n → (V (σ p) c).v = if p < r then stp i k A p c else A (swp i k p) c
theorem EL.swap {n i k : Nat} {V : Nat → Nat → RW} {σ : Nat → Nat} {A : Nat → Nat → Rat} (h : EL n i V σ A) (hi : i < n) (hik : i ≤ k) (hk : k < n) : ER n i k (i + 1) V (fun r => σ (swp i k r)) A := by
  have hs : ∀ p, p < n → swp i k p < n := fun p hp => swp_lt hi hk hp
  have hs2 : ∀ p, i ≤ p → i ≤ swp i k p := fun p hp => by unfold swp; (repeat' split) <;> omega
  refine ⟨fun r hr => h.lt _ (hs r hr), fun r s hr hs' e => ?_, fun p c h1 h2 h3 h4 => h.ok _ c (hs2 p h1) (hs p h2) h3 h4, fun p c h1 h2 h3 h4 => ?_⟩
  · have := h.inj _ _ (hs r hr) (hs s hs') e
    have := congrArg (swp i k) this
    rwa [swp_swp, swp_swp] at this
  · rw [h.v _ c (hs2 p h1) (hs p h2) h3 h4]
    by_cases hp : p < i + 1
    · rw [if_pos hp]; simp only [stp]; rw [if_neg (by omega)]
    · rw [if_neg hp]
theorem ER.row {n i k r : Nat} {V : Nat → Nat → RW} {σ : Nat → Nat} {A : Nat → Nat → Rat} (h : ER n i k r V σ A) (hir : i < r) (hr : r < n) (hq : ∀ c, i ≤ c → c < n → ql (stp i k A r c) ≤ 65536) :
    ER n i k (r + 1) (wV V (σ r) i n (fun c => stp i k A r c)) σ A := by
  refine ⟨h.lt, h.inj, fun p c h1 h2 h3 h4 => ?_, fun p c h1 h2 h3 h4 => ?_⟩
  · by_cases e : p = r
    · subst e; simp only [wV, if_true]; rw [if_pos ⟨h3, h4⟩]; exact qzW_ok (hq c h3 h4)
    · have : σ p ≠ σ r := fun e' => e (h.inj p r h2 hr e')
      simp only [wV]; rw [if_neg this]; exact h.ok p c h1 h2 h3 h4
  · by_cases e : p = r
    · subst e; simp only [wV, if_true]; rw [if_pos ⟨h3, h4⟩, if_pos (by omega), qzW_v]
    · have : σ p ≠ σ r := fun e' => e (h.inj p r h2 hr e')
      simp only [wV]; rw [if_neg this, h.v p c h1 h2 h3 h4]
      by_cases hp : p < r
      · rw [if_pos hp, if_pos (by omega)]
      · rw [if_neg hp, if_neg (by omega)]
theorem ER.done {n i k : Nat} {V : Nat → Nat → RW} {σ : Nat → Nat} {A : Nat → Nat → Rat} (h : ER n i k n V σ A) : EL n (i + 1) V σ (stp i k A) :=
  ⟨h.lt, h.inj, fun r c h1 h2 h3 h4 => h.ok r c (by omega) h2 (by omega) h4, fun r c h1 h2 h3 h4 => by rw [h.v r c (by omega) h2 (by omega) h4, if_pos h2]⟩

set_option maxHeartbeats 2000000 in
theorem sDet_c (m : List (List RW)) (hl : m.length ≤ 9223372036854775806) (hr : ∀ r ∈ m, r.length ≤ 9223372036854775806) (ok : okM 65536 m) (hE : validM m = true → elB m.length m.length 0 (matV m)) :
    Con Try.prog 50 [V1 (dMs m)] { v := .tup [.agg (detV m).1.cs, .one (.d (lI (detV m).2))] } := by
  refine con_intro (fn := Try.f50) tok Try.func50 (by kernel_rfl) rfl ?_
  intro w0 X
  rw [entry_mkE _ _ [(0, V1 (dMs m))] rfl rfl];refine AWP_reg_seq tok fun K hK => ?_;refine s_alloc rfl rfl rfl rfl rfl rfl ?_;refine s_assign rfl rfl rfl ?_;refine s_end (hK _ ?_); clear hK K;refine AWP_seq ?_;refine AWP_reg_seq tok fun K hK => ?_;refine s_move rfl rfl rfl ?_;refine s_call rfl rfl (sValid_c m hl hr ok) rfl rfl rfl rfl ?_;refine s_un rfl rfl rfl ?_;refine s_end (hK _ ?_); clear hK K;refine a_cond rfl (fun hc => ?_) (fun hc => ?_)
  · have e : detV m = (rw00, 1) := by rw [detV, if_neg]; intro h; rw [h] at hc; cases hc
    rw [e];refine AWP_reg_seq tok fun K hK => ?_;refine s_build rfl rfl rfl ?_;refine s_store rfl rfl rfl rfl rfl ?_;refine s_assign rfl rfl rfl ?_;refine s_end (hK _ ?_); clear hK K;refine AWP_ret ?_
    repeat (with_reducible refine tq_ret ?_)
    exact post_ret (fin_mk (by rfl) (by rfl) (by rfl))
  have hc : validM m = true := by simpa using hc
  have hE1 := hE hc
  clear hE;rw [detV, if_pos hc]
  obtain ⟨hv1, hv2, _⟩ := of_decide_eq_true hc
  obtain ⟨n, hn⟩ : ∃ n, m.length = n := ⟨_, rfl⟩
  have hm : m = matW n n (mtv m) := matW_of hn (fun r hr => (hv2 r hr).trans hn)
  have oF : ∀ i j, i < n → j < n → (mtv m i j).OK 65536 := fun i j hi hj => by rw [hm] at ok; exact okM_mat ok hi hj
  have hF : ∀ i j, matV m i j = (mtv m i j).v := fun _ _ => rfl
  rw [hn] at hv1 hE1 ⊢;rw [← elS_dt];generalize matV m = A at *;generalize mtv m = F at *;clear hv2 hc hr hl ok hn
  subst hm
  refine AWP_skip ?_;show AWP _ _ _ _ _ _;refine AWP_reg_seq tok fun K hK => ?_;refine s_assign rfl rfl rfl ?_;refine s_end (hK _ ?_); clear hK K;refine AWP_seq ?_;refine AWP_reg_seq tok fun K hK => ?_;refine s_move rfl rfl rfl ?_;refine s_blt rfl (len_mt rfl rfl) rfl ?_;refine s_move rfl rfl rfl ?_;refine s_end (hK _ ?_); clear hK K;refine AWP_block (a_loop (α := Nat) (fun i => mk 138 [(2, .ptr 2 0), (4, ownN 17 1 i), (19, V1 (dMs (matW n n F))), (20, dI n), (21, dI i)] (((17, gB n i) :: [(2, some box0)]) ++ rowsO 1000 4 i (fun s => rowD n (F s))) [17]) (fun i => i ≤ n) (fun i => n - i) 0 ?_ (Nat.zero_le _) ?_)
  · exact Wk.trans (Wk.mk' (E' := [(2, .ptr 2 0), (4, ownN 17 1 0), (19, V1 (dMs (matW n n F))), (20, dI n), (21, dI (0 : Nat))]) (S' := [(17, none), (2, some box0)]) ⟨rfl, rfl, rfl, rfl, rfl, trivial⟩ ⟨rfl, rfl, trivial⟩) (Wk.rbE (rb := []) rfl)
  intro i hi
  refine AWP_reg_seq tok fun K hK => ?_;refine s_bin rfl rfl rfl ?_;refine s_end (hK _ ?_); clear hK K;refine AWP_seq ?_;refine a_cond rfl (fun hg => ?_) (fun hg => ?_)
  · have hg : i < n := by simp at hg; omega
    have cl := sCloneQ_c n (F i) (by omega) (by omega)
    refine AWP_skip ?_;show AWP _ _ _ _ _ _;refine AWP_seq ?_;refine AWP_block ?_;refine AWP_reg_seq tok fun K hK => ?_;refine s_indexAddr rfl (x_mt rfl rfl rfl rfl rfl hg) rfl ?_;refine s_load rfl rfl rfl ?_;refine s_assign rfl rfl rfl ?_;refine s_end (hK _ ?_); clear hK K
    rcases i with _ | i
    · refine AWP_regW fun K hK => ?_;refine w_step tok rfl ?_;refine s_move rfl rfl rfl ?_;refine s_end ?_;refine w_step tok rfl ?_;refine s_move rfl rfl rfl ?_;refine s_end ?_;refine w_step tok rfl ?_;refine s_callN rfl rfl (cl) (Or.inl rfl) rfl rfl rfl rfl ?_;refine s_end ?_;refine w_buildB tok rfl rfl rfl rfl rfl rfl rfl rfl rfl ?_;refine w_appB0 (B := 1000) (m := 0) (sz := 4) (id := 17) (R := fun s => rowD n (F s)) tok [(2, .ptr 2 0), (19, V1 (dMs (matW n n F))), (20, dI n), (21, dI (0 : Nat))] [(2, some box0), (27, some (.arr 4 (rowD n (F 0))))] rfl rfl rfl rfl rfl rfl rfl (Nat.le_of_ble_eq_true rfl) rfl rfl rfl rfl (by decide) (by decide) ⟨rfl, rfl, rfl, rfl, trivial⟩ ⟨rfl, rfl, trivial⟩ rfl (fun q hq => ?_) rfl rfl rfl rfl rfl rfl rfl rfl rfl ?_
      · rw [so_cons, if_neg (by omega), so_cons, if_neg (by omega), so_hi rfl hq]
      refine w_step tok rfl ?_;refine s_assign rfl rfl rfl ?_;refine s_end ?_;refine w_end rfl (hK _ ?_); clear hK K;show AWP _ _ _ _ _ _;refine AWP_reg tok fun K hK => ?_;refine s_bin rfl (e_add (c := ((0 + 1 : Nat) : Int)) (by omega) (by omega)) rfl ?_;refine s_move rfl rfl rfl ?_;refine s_end (hK _ ?_); clear hK K;exact ⟨0 + 1, by omega, hg, Wk.gpush0 (B := 1000) (m := 0) (d := 27) (gid := 17) (S1 := [(2, some box0)]) (R := fun s => rowD n (F s)) ⟨rfl, rfl, rfl, rfl, rfl, trivial⟩ rfl rfl ⟨rfl, trivial⟩ rfl (by decide) (by decide) (by decide) rfl rfl rfl rfl (fun q hq => by rw [so_cons, if_neg (by omega), so_hi rfl hq]) (fun a _ => by split <;> rename_i e; rw [e]; rfl)⟩
    · refine AWP_regW fun K hK => ?_;refine w_step tok rfl ?_;refine s_move rfl rfl rfl ?_;refine s_end ?_;refine w_step tok rfl ?_;refine s_move rfl rfl rfl ?_;refine s_end ?_;refine w_step tok rfl ?_;refine s_callN rfl rfl (cl) (Or.inl rfl) rfl rfl (nr_grid rfl rfl (gridC_noRef (Or.inl (by decide)))) rfl ?_;refine s_end ?_;refine w_buildB tok rfl rfl rfl rfl rfl rfl rfl rfl (nr_grid rfl rfl (gridC_noRef (Or.inl (by decide)))) ?_;refine w_appB (B := 1000) (m := i + 1) (sz := 4) (id := 17) (R := fun s => rowD n (F s)) tok [(2, .ptr 2 0), (19, V1 (dMs (matW n n F))), (20, dI n), (21, dI (i + 1 : Nat))] [(2, some box0), (27, some (.arr 4 (rowD n (F (i + 1)))))] rfl rfl rfl rfl rfl rfl rfl (Nat.le_of_ble_eq_true rfl) rfl rfl (gridC_length _ _ _ _).symm (by omega) rfl rfl rfl (by decide) (by decide) ⟨rfl, rfl, rfl, rfl, trivial⟩ ⟨rfl, rfl, trivial⟩ rfl (fun q hq => ?_) rfl rfl rfl rfl rfl rfl (gridC_noRef (Or.inl (by decide))) (gridC_noRef (Or.inl (by decide))) rfl rfl rfl rfl ?_
      · rw [so_cons, if_neg (by omega), so_cons, if_neg (by omega), so_hi rfl hq]
      refine w_step tok rfl ?_;refine s_assign rfl rfl rfl ?_;refine s_end ?_;refine w_end rfl (hK _ ?_); clear hK K;show AWP _ _ _ _ _ _;refine AWP_reg tok fun K hK => ?_;refine s_bin rfl (e_add (c := ((i + 1 + 1 : Nat) : Int)) (by omega) (by omega)) rfl ?_;refine s_move rfl rfl rfl ?_;refine s_end (hK _ ?_); clear hK K;exact ⟨i + 1 + 1, by omega, hg, Wk.gpush0 (B := 1000) (m := i + 1) (d := 27) (gid := 17) (S1 := [(2, some box0)]) (R := fun s => rowD n (F s)) ⟨rfl, rfl, rfl, rfl, rfl, trivial⟩ rfl (allE_cons (ptr_nr (by omega)) (allE_cons (own_nr (by omega)) (allE_cons rfl (allE_cons rfl (allE_cons rfl allE_nil))))) ⟨rfl, trivial⟩ rfl (by decide) (by decide) (by decide) rfl rfl rfl rfl (fun q hq => by rw [so_cons, if_neg (by omega), so_hi rfl hq]) (fun a _ => by split <;> rename_i e; rw [e]; rfl)⟩
  have hg : n = i := by simp at hg; omega
  subst hg
  refine AWP_exit ?_;show AWP _ _ _ _ _ _
  rcases n with _ | n
  · refine AWP_wk (Wk.mk' (E' := [(2, .ptr 2 0), (4, .val (.one .nil))]) (S' := [(2, some box0)]) ⟨rfl, rfl, trivial⟩ ⟨rfl, trivial⟩) ?_;refine AWP_wk (Wk.rb (rb' := []) (st := mk 138 _ [(2, some box0)] [17]) fun k hk => Or.inr fun cs hc => ?_) ?_
    · have hk : k ∈ [17] := hk
      simp at hk; subst hk
      have : so [(2, some box0)] 17 = some (.box cs) := hc
      cases this
    refine AWP_reg_seq tok fun K hK => ?_;refine s_call rfl rfl (sOne_c) rfl rfl rfl rfl ?_;refine s_alloc rfl rfl rfl rfl rfl rfl ?_;refine s_store rfl rfl rfl rfl rfl ?_;refine s_end (hK _ ?_); clear hK K;refine AWP_seq ?_;refine AWP_reg_seq tok fun K hK => ?_;refine s_move rfl rfl rfl ?_;refine s_blt rfl rfl rfl ?_;refine s_move rfl rfl rfl ?_;refine s_end (hK _ ?_); clear hK K;refine AWP_block (a_loop (α := Unit) (fun _ => mk 138 [(2, .ptr 2 0), (7, .ptr 7 0), (33, dI 0), (34, dI 0)] [(2, some box0), (7, some (.box (qzW 1).cs))] []) (fun _ => True) (fun _ => 0) () ?_ trivial ?_)
    · exact Wk.mk' ⟨rfl, rfl, rfl, rfl, trivial⟩ ⟨rfl, rfl, trivial⟩
    rintro - -
    refine AWP_reg_seq tok fun K hK => ?_;refine s_bin rfl rfl rfl ?_;refine s_end (hK _ ?_); clear hK K;refine AWP_seq ?_;refine a_cond rfl (fun h => by cases h) (fun _ => ?_);refine AWP_exit ?_;show AWP _ _ _ _ _ _;refine AWP_reg_seq tok fun K hK => ?_;refine s_load rfl rfl rfl ?_;refine s_store rfl rfl rfl rfl rfl ?_;refine s_assign rfl rfl rfl ?_;refine s_end (hK _ ?_); clear hK K;refine AWP_ret ?_
    repeat (with_reducible refine tq_ret ?_)
    exact post_ret (fin_mk (by rfl) (by rfl) (by rfl))
  have hok0 : EL (n + 1) 0 F (fun r => r) A := ⟨fun _ h => h, fun _ _ _ _ h => h, fun r c _ hr _ hc => oF r c hr hc, fun r c _ hr _ hc => (hF r c).symm⟩
  clear hF oF hg hi;refine AWP_wk (Wk.gkeep (B := 1000) (E' := [(2, .ptr 2 0), (4, .val (.one (.own 17 1 0 (n + 1))))]) (S0 := [(2, some box0), (17, some (.box (permC 1000 4 (n + 1) (n + 1) (fun r => r))))]) ⟨rfl, rfl, trivial⟩ ⟨rfl, rfl, trivial⟩ rfl (fun q hq => so_hi rfl hq)) ?_;generalize n + 1 = n at *
  obtain ⟨D, hD⟩ : ∃ D, D = elS n n 0 A 1 := ⟨_, rfl⟩
  rw [← hD];refine AWP_reg_seq tok fun K hK => ?_;refine s_call rfl rfl (sOne_c) rfl rfl rfl rfl ?_;refine s_alloc rfl rfl rfl rfl rfl (nr_grid rfl rfl (permC_noRef (by decide))) ?_;refine s_store rfl rfl rfl rfl rfl ?_;refine s_end (hK _ ?_); clear hK K;refine AWP_seq ?_;refine AWP_reg_seq tok fun K hK => ?_;refine s_move rfl rfl rfl ?_;refine s_blt rfl rfl rfl ?_;refine s_move rfl rfl rfl ?_;refine s_end (hK _ ?_); clear hK K
  refine AWP_block (a_loop (α := Nat × Rat × (Nat → Nat → RW) × (Nat → Nat) × (Nat → Nat → Rat)) (fun p => mk 138 [(2, .ptr 2 0), (4, .val (.one (.own 17 1 0 n))), (7, .ptr 7 0), (33, dI n), (34, dI p.1)] ([(2, some box0), (7, some (.box (qzW p.2.1).cs)), (17, some (.box (permC 1000 4 n n p.2.2.2.1)))] ++ rowsO 1000 4 n (fun s => rowD n (p.2.2.1 s))) [17])
    (fun p => p.1 ≤ n ∧ EL n p.1 p.2.2.1 p.2.2.2.1 p.2.2.2.2 ∧ elB n (n - p.1) p.1 p.2.2.2.2 ∧ elS n (n - p.1) p.1 p.2.2.2.2 p.2.1 = D ∧ ql p.2.1 ≤ 1 + p.1 * 65536) (fun p => n - p.1) (0, 1, F, (fun r => r), A) ?_ ⟨Nat.zero_le _, hok0, hE1, hD.symm, (by show ql (1 : Rat) ≤ 1 + 0 * 65536; decide)⟩ ?_)
  · exact Wk.gkeep (B := 1000) ⟨rfl, rfl, rfl, rfl, rfl, trivial⟩ ⟨rfl, rfl, rfl, trivial⟩ rfl (fun q hq => by rw [so_cons, if_neg (by omega), so_cons, if_neg (by omega), so_hi rfl hq])
  clear hok0 hE1 hD
  rintro ⟨i, det, V, σ, A'⟩ ⟨hi, hEL, hB, hD, hq⟩
  simp only at hi hEL hB hD hq ⊢
  refine AWP_reg_seq tok fun K hK => ?_;refine s_bin rfl rfl rfl ?_;refine s_end (hK _ ?_); clear hK K;refine AWP_seq ?_;refine a_cond rfl (fun hg => ?_) (fun hg => ?_)
  · have hg : i < n := by simp at hg; omega
    obtain ⟨d, hd⟩ : ∃ d, n - i = d + 1 := ⟨n - i - 1, by omega⟩
    rw [hd] at hB hD;refine AWP_skip ?_;show AWP _ _ _ _ _ _;refine AWP_seq ?_;refine AWP_block ?_;refine AWP_reg_seq tok fun K hK => ?_;refine s_move rfl rfl rfl ?_;refine s_assign rfl rfl rfl ?_;refine s_end (hK _ ?_); clear hK K;refine AWP_reg_seq tok fun K hK => ?_;refine s_move rfl rfl rfl ?_;refine s_assign rfl rfl rfl ?_;refine s_end (hK _ ?_); clear hK K;refine AWP_seq ?_
    refine AWP_block (a_loop (α := Nat) (fun k => mk 138 [(2, .ptr 2 0), (4, .val (.one (.own 17 1 0 n))), (7, .ptr 7 0), (8, dI i), (9, dI k), (33, dI n), (34, dI i)] ([(2, some box0), (7, some (.box (qzW det).cs)), (17, some (.box (permC 1000 4 n n σ)))] ++ rowsO 1000 4 n (fun s => rowD n (V s))) [17])
      (fun k => i ≤ k ∧ k ≤ n ∧ ∀ r, i ≤ r → r < k → A' r i = 0) (fun k => n - k) i ?_ ⟨Nat.le_refl _, hi, fun r h1 h2 => by omega⟩ ?_)
    · exact Wk.gkeep (B := 1000) ⟨rfl, rfl, rfl, rfl, rfl, rfl, rfl, trivial⟩ ⟨rfl, rfl, rfl, trivial⟩ rfl (fun q hq => so_hi rfl hq)
    rintro k ⟨hik, hkn, hz⟩
    have lt : decide ((k : Int) < n) = true → k < n := fun h => by simp at h; omega
    have okk : decide ((k : Int) < n) = true → (V (σ k) i).OK 16777216 := fun h => (hEL.ok k i hik (lt h) (Nat.le_refl _) hg).mono rfl
    have P1 : decide ((k : Int) < n) = true → ((V (σ k) i).v.num.sign == 0) = decide (k < n ∧ A' k i = 0) := fun h => by
      rw [hEL.v k i hik (lt h) (Nat.le_refl _) hg, Bool.eq_iff_iff, beq_iff_eq, decide_eq_true_eq, qSign_zero];exact ⟨fun e => ⟨lt h, e⟩, fun e => e.2⟩
    have P2 : decide ((k : Int) < n) = false → false = decide (k < n ∧ A' k i = 0) := fun h => (decide_eq_false fun e => by simp at h; omega).symm
    refine AWP_seq ?_;refine a_join (α := Bool) (fun c => mk 138 [(2, .ptr 2 0), (4, .val (.one (.own 17 1 0 n))), (7, .ptr 7 0), (8, dI i), (9, dI k), (33, dI n), (34, dI i), (52, dB c)] ([(2, some box0), (7, some (.box (qzW det).cs)), (17, some (.box (permC 1000 4 n n σ)))] ++ rowsO 1000 4 n (fun s => rowD n (V s))) [17]) (fun c => c = decide (k < n ∧ A' k i = 0)) ?_ ?_
    · refine AWP_regW fun K hK => ?_;refine w_step tok rfl ?_;refine s_move rfl rfl rfl ?_;refine s_end ?_;refine w_step tok rfl ?_;refine s_move rfl rfl rfl ?_;refine s_end ?_;refine w_step tok rfl ?_;refine s_blt rfl rfl rfl ?_;refine s_end ?_;refine w_step tok rfl ?_;refine s_bin rfl rfl rfl ?_;refine s_end ?_;refine w_step tok rfl ?_;refine s_move rfl rfl rfl ?_;refine s_end ?_;refine w_split (fun h0 => ?_) (fun h0 => ?_)
      · refine w_step tok rfl ?_;refine s_move rfl rfl rfl ?_;refine s_end ?_;refine w_step tok rfl ?_;refine s_move rfl rfl rfl ?_;refine s_end ?_;refine w_step tok rfl ?_;refine s_indexAddr rfl (x_o (i := k) (j := k) rfl rfl rfl rfl rfl (lt h0) (Nat.zero_add _)) rfl ?_;refine s_end ?_;refine w_step tok rfl ?_;refine s_load rfl (l_box rfl rfl rfl rfl (permC_get (lt h0))) rfl ?_;refine s_end ?_;refine w_step tok rfl ?_;refine s_move rfl rfl rfl ?_;refine s_end ?_;refine w_step tok rfl ?_;refine s_indexAddr rfl (x_o (i := i) (j := i) rfl rfl rfl rfl rfl hg (Nat.zero_add _)) rfl ?_;refine s_end ?_;refine w_step tok rfl ?_;refine s_load rfl (l_q rfl rfl rfl (so_row rfl (hEL.lt k (lt h0))) hg) rfl ?_;refine s_end ?_;refine w_step tok rfl ?_;refine s_call rfl rfl (qSign_t _ (okk h0)) rfl rfl rfl rfl ?_;refine s_end ?_;refine w_step tok rfl ?_;refine s_bin rfl rfl rfl ?_;refine s_end ?_;refine w_step tok rfl ?_;refine s_pick rfl rfl rfl ?_;refine s_end ?_;refine w_end rfl (hK _ ?_); clear hK K;exact ⟨_, (by first|exact P1 h0|exact P2 h0), Wk.gkeep (B := 1000) ⟨rfl, rfl, rfl, rfl, rfl, rfl, rfl, rfl, trivial⟩ ⟨rfl, rfl, rfl, trivial⟩ rfl (fun q hq => so_hi rfl hq)⟩
      · refine w_skip rfl rfl ?_;refine w_skip rfl rfl ?_;refine w_skip rfl rfl ?_;refine w_skip rfl rfl ?_;refine w_skip rfl rfl ?_;refine w_skip rfl rfl ?_;refine w_skip rfl rfl ?_;refine w_skip rfl rfl ?_;refine w_skip rfl rfl ?_;refine w_step tok rfl ?_;refine s_pick rfl rfl rfl ?_;refine s_end ?_;refine w_end rfl (hK _ ?_); clear hK K;exact ⟨_, (by first|exact P1 h0|exact P2 h0), Wk.gkeep (B := 1000) ⟨rfl, rfl, rfl, rfl, rfl, rfl, rfl, rfl, trivial⟩ ⟨rfl, rfl, rfl, trivial⟩ rfl (fun q hq => so_hi rfl hq)⟩
    rintro c rfl
    refine a_cond rfl (fun hc => ?_) (fun hc => ?_)
    · obtain ⟨hc1, hc2⟩ := of_decide_eq_true hc
      refine AWP_skip ?_;show AWP _ _ _ _ _ _;refine AWP_block ?_;refine AWP_reg tok fun K hK => ?_;refine s_move rfl rfl rfl ?_;refine s_bin rfl (e_add (c := ((k + 1 : Nat) : Int)) (by omega) (by omega)) rfl ?_;refine s_assign rfl rfl rfl ?_;refine s_end (hK _ ?_); clear hK K;refine ⟨k + 1, by omega, ⟨by omega, hc1, fun r h1 h2 => ?_⟩, Wk.gkeep (B := 1000) ⟨rfl, rfl, rfl, rfl, rfl, rfl, rfl, trivial⟩ ⟨rfl, rfl, rfl, trivial⟩ rfl (fun q hq => so_hi rfl hq)⟩
      by_cases e : r = k
      · rw [e]; exact hc2
      · exact hz r h1 (by omega)
    have hc := of_decide_eq_false hc
    refine AWP_exit ?_;show AWP _ _ _ _ _ _
    have hpk : piv (fun r => A' r i) n (d + 1) i = k := piv_eq (d + 1) i (by omega) hik hkn hz (by
      by_cases e : k = n
      · exact Or.inl e
      · exact Or.inr fun e' => hc ⟨by omega, e'⟩)
    clear lt okk P1 P2;refine AWP_seq ?_;refine AWP_reg_seq tok fun K hK => ?_;refine s_move rfl rfl rfl ?_;refine s_move rfl rfl rfl ?_;refine s_blt rfl rfl rfl ?_;refine s_bin rfl rfl rfl ?_;refine s_end (hK _ ?_); clear hK K;refine a_cond rfl (fun hk => ?_) (fun hk => ?_)
    · have hk : k = n := by simp at hk; omega
      have eD : D = 0 := by rw [← hD]; simp only [elS]; rw [hpk, if_pos hk]
      rw [eD];refine AWP_reg_seq tok fun K hK => ?_;refine s_call rfl rfl (sZero_c) rfl rfl rfl rfl ?_;refine s_store rfl rfl rfl rfl rfl ?_;refine s_assign rfl rfl rfl ?_;refine s_end (hK _ ?_); clear hK K;refine AWP_ret ?_
      repeat (with_reducible refine tq_ret ?_)
      exact post_ret (fin_mk (by rfl) (by rfl) (by rfl))
    have hk : k < n := by simp at hk; omega
    have hnz : A' k i ≠ 0 := fun e => hc ⟨hk, e⟩
    have hD : elS n d (i + 1) (stp i k A') ((if k = i then det else -det) * A' k i) = D := by rw [← hD]; simp only [elS]; rw [hpk, if_neg (show ¬ k = n by omega)]
    have hB1 := hB.1
    have hB2 := hB.2
    rw [hpk] at hB2
    have hB2 := hB2 hk
    clear hB hpk hc hz
    have hER := hEL.swap hg hik hk
    have qn : ql (-det) ≤ 1 + i * 65536 := ql_neg_le hq
    refine AWP_skip ?_;show AWP _ _ _ _ _ _;refine a_join (α := Unit) (fun _ => mk 138 [(2, .ptr 2 0), (4, .val (.one (.own 17 1 0 n))), (7, .ptr 7 0), (8, dI i), (33, dI n), (34, dI i)] ([(2, some box0), (7, some (.box (qzW (if k = i then det else -det)).cs)), (17, some (.box (permC 1000 4 n n (fun r => σ (swp i k r)))))] ++ rowsO 1000 4 n (fun s => rowD n (V s))) [17]) (fun _ => True) ?_ ?_
    · refine AWP_reg_seq tok fun K hK => ?_;refine s_move rfl rfl rfl ?_;refine s_move rfl rfl rfl ?_;refine s_bin rfl rfl rfl ?_;refine s_end (hK _ ?_); clear hK K;refine a_cond rfl (fun hx => ?_) (fun hx => ?_)
      · have hx : k ≠ i := by simp at hx; omega
        have cn := qNeg_z det (by omega)
        rw [if_neg hx];refine a_draw tok mixed (A := [[], [], [], [], [], [], [], [4, 5], [], [], [], [8, 9], [8, 9, 10], [8, 9, 10], [], []]) (an := [{}, {}, {}, {}, {}, {}, {}, {}, {}, {}, {}, {}, {}, {}, {}, {}]) rfl (by kernel_rfl) rfl fun K hK => ?_;refine s_move rfl rfl rfl ?_;refine s_move rfl rfl rfl ?_;refine s_move rfl rfl rfl ?_;refine s_move rfl rfl rfl ?_;refine s_move rfl rfl rfl ?_;refine s_move rfl rfl rfl ?_;refine s_indexAddr rfl (x_o (i := k) (j := k) rfl rfl rfl rfl rfl hk (Nat.zero_add _)) rfl ?_;refine s_load rfl (l_box rfl rfl rfl rfl (permC_get hk)) rfl ?_;refine s_move rfl rfl rfl ?_;refine s_move rfl rfl rfl ?_;refine s_indexAddr rfl (x_o (i := i) (j := i) rfl rfl rfl rfl rfl hg (Nat.zero_add _)) rfl ?_;refine s_load rfl (l_box rfl rfl rfl rfl (permC_get hg)) rfl ?_;refine s_indexAddr rfl (x_o (i := i) (j := i) rfl rfl rfl rfl rfl hg (Nat.zero_add _)) rfl ?_;refine s_storeB rfl (st_box rfl rfl rfl (by rw [permC_length]; exact hg)) rfl rfl rfl ?_;refine s_indexAddr rfl (x_o (i := k) (j := k) rfl rfl rfl rfl rfl hk (Nat.zero_add _)) rfl ?_;refine s_storeB rfl (st_box rfl rfl rfl (by rw [List.length_set, permC_length]; exact hk)) rfl rfl rfl ?_;refine s_end (hK _ ?_); clear hK K;refine AWP_reg tok fun K hK => ?_;refine s_load rfl rfl rfl ?_;refine s_call rfl rfl (cn) rfl rfl rfl rfl ?_;refine s_store rfl rfl rfl rfl rfl ?_;refine s_end (hK _ ?_); clear hK K;refine ⟨(), trivial, Wk.trans (Wk.rbE (rb' := [17]) rfl) (Wk.gkeep (B := 1000) ⟨rfl, rfl, rfl, rfl, rfl, rfl, trivial⟩ ⟨rfl, rfl, ?_, trivial⟩ rfl (fun q hq => by rw [so_cons, if_neg (by omega), so_cons, if_neg (by omega), so_cons, if_neg (by omega), so_hi rfl hq]))⟩;exact congrArg (fun l => some (OO.box l)) (permC_set (by show σ (swp i k i) = σ k; unfold swp; rw [if_pos rfl]) (by show σ (swp i k k) = σ i; unfold swp; rw [if_neg hx, if_pos rfl]) (fun r h1 h2 => by show σ (swp i k r) = σ r; unfold swp; rw [if_neg h1, if_neg h2]))
      · have hx : k = i := by simp at hx; omega
        rw [if_pos hx];refine AWP_skip ?_;refine ⟨(), trivial, Wk.gkeep (B := 1000) ⟨rfl, rfl, rfl, rfl, rfl, rfl, trivial⟩ ⟨rfl, rfl, ?_, trivial⟩ rfl (fun q hq => so_hi rfl hq)⟩
        exact congrArg (fun l => some (OO.box l)) (permC_congr fun r _ => by
          have : swp i k r = r := by unfold swp; (repeat' split) <;> omega
          rw [this])
    rintro - -
    have qd : ql (if k = i then det else -det) ≤ 1 + i * 65536 := by split <;> assumption
    generalize (if k = i then det else -det) = det1 at hD qd ⊢;generalize hτ : (fun r => σ (swp i k r)) = τ at hER ⊢
    have hvk : ∀ W, ER n i k (i + 1) W τ A' → (W (τ i) i).v = A' k i := fun W h => by
      rw [h.v i i (Nat.le_refl _) hg (Nat.le_refl _) hg, if_pos (by omega)];simp only [stp]; rw [if_neg (by omega)]
      have : swp i k i = k := by unfold swp; rw [if_pos rfl]
      rw [this]
    have qki : ql (A' k i) ≤ 65536 := hB1 k i hik hk (Nat.le_refl _) hg
    have cm := qMul_t (qzW det1) (V (τ i) i) (det1 * A' k i) ((qzW_ok (Nat.le_trans qd (by omega))).mono (k := 16777216) rfl) ((hER.ok i i (Nat.le_refl _) hg (Nat.le_refl _) hg).mono rfl) (by rw [qzW_v, hvk V hER])
    have qd2 : ql (det1 * A' k i) ≤ 1 + (i + 1) * 65536 := Nat.le_trans (ql_mul_le qd qki) (by rw [Nat.succ_mul]; omega)
    refine a_draw tok mixed (A := [[], [], [], [], [1, 2], [], [1, 2, 3], [1, 2, 3, 4, 5], [1, 2, 3, 4, 5, 6], []]) (an := [{}, {}, {}, {}, {}, {}, {}, {}, {}, {}]) rfl (by kernel_rfl) rfl fun K hK => ?_;refine s_load rfl rfl rfl ?_;refine s_move rfl rfl rfl ?_;refine s_move rfl rfl rfl ?_;refine s_indexAddr rfl (x_o (i := i) (j := i) rfl rfl rfl rfl rfl hg (Nat.zero_add _)) rfl ?_;refine s_load rfl (l_box rfl rfl rfl rfl (permC_get hg)) rfl ?_;refine s_move rfl rfl rfl ?_;refine s_indexAddr rfl (x_o (i := i) (j := i) rfl rfl rfl rfl rfl hg (Nat.zero_add _)) rfl ?_;refine s_load rfl (l_q rfl rfl rfl (so_row rfl (hER.lt i hg)) hg) rfl ?_;refine s_call rfl rfl (cm) rfl rfl rfl rfl ?_;refine s_store rfl rfl rfl rfl rfl ?_;refine s_end (hK _ ?_); clear hK K;refine AWP_reg_seq tok fun K hK => ?_;refine s_move rfl rfl rfl ?_;refine s_move rfl rfl rfl ?_;refine s_bin rfl (e_add (c := ((i + 1 : Nat) : Int)) (by omega) (by omega)) rfl ?_;refine s_slice rfl rfl rfl (sl_tl (i := i) rfl rfl rfl rfl hg rfl rfl) rfl ?_;refine s_blt rfl (len_tl rfl rfl hg) rfl ?_;refine s_move rfl rfl rfl ?_;refine s_end (hK _ ?_); clear hK K
    refine AWP_block (a_loop (α := Nat × (Nat → Nat → RW)) (fun p => mk 138 [(2, .ptr 2 0), (4, .val (.one (.own 17 1 0 n))), (7, .ptr 7 0), (8, dI i), (33, dI n), (34, dI i), (91, tlS 17 n i), (92, dI (n - (i + 1) : Nat)), (93, dI p.1)] ([(2, some box0), (7, some (.box (qzW (det1 * A' k i)).cs)), (17, some (.box (permC 1000 4 n n τ)))] ++ rowsO 1000 4 n (fun s => rowD n (p.2 s))) [17])
      (fun p => p.1 ≤ n - (i + 1) ∧ ER n i k (i + 1 + p.1) p.2 τ A') (fun p => n - (i + 1) - p.1) (0, V) ?_ ⟨Nat.zero_le _, hER⟩ ?_)
    · exact Wk.gkeep (B := 1000) ⟨rfl, rfl, rfl, rfl, rfl, rfl, rfl, rfl, rfl, trivial⟩ ⟨rfl, rfl, rfl, trivial⟩ rfl (fun q hq => by rw [so_cons, if_neg (by omega), so_hi rfl hq])
    clear cm hEL hER hvk
    rintro ⟨p, W⟩ ⟨hp, hER⟩
    simp only at hp hER ⊢
    refine AWP_reg_seq tok fun K hK => ?_;refine s_bin rfl rfl rfl ?_;refine s_end (hK _ ?_); clear hK K;refine AWP_seq ?_;refine a_cond rfl (fun hx => ?_) (fun hx => ?_)
    · have hx : p < n - (i + 1) := by simp at hx; omega
      obtain ⟨r, hr⟩ : ∃ r, r = i + 1 + p := ⟨_, rfl⟩
      have hrn : r < n := by omega
      have hir : i < r := by omega
      rw [← hr] at hER
      have li := hER.lt i hg
      have lr := hER.lt r hrn
      have hne : τ r ≠ τ i := fun e => by have := hER.inj r i hrn hg e; omega
      have vi : ∀ c, i ≤ c → c < n → (W (τ i) c).v = A' k c := fun c h1 h2 => by
        rw [hER.v i c (Nat.le_refl _) hg h1 h2, if_pos hir];simp only [stp]; rw [if_neg (by omega)]
        have : swp i k i = k := by unfold swp; rw [if_pos rfl]
        rw [this]
      have vr : ∀ c, i ≤ c → c < n → (W (τ r) c).v = A' (swp i k r) c := fun c h1 h2 => by
        rw [hER.v r c (by omega) hrn h1 h2, if_neg (by omega)]
      have oi := fun c (h1 : i ≤ c) (h2 : c < n) => hER.ok i c (Nat.le_refl _) hg h1 h2
      have orr := fun c (h1 : i ≤ c) (h2 : c < n) => hER.ok r c (by omega) hrn h1 h2
      have hsr : i ≤ swp i k r ∧ swp i k r < n := by unfold swp; (repeat' split) <;> omega
      have q1 := hB1 (swp i k r) i hsr.1 hsr.2 (Nat.le_refl _) hg
      have qq : ql (A' (swp i k r) i / A' k i) ≤ 131072 := ql_div_le q1 qki
      have cd := qDiv_t (W (τ r) i) (W (τ i) i) (A' (swp i k r) i / A' k i) ((orr i (Nat.le_refl _) hg).mono rfl) ((oi i (Nat.le_refl _) hg).mono rfl) (by rw [vi i (Nat.le_refl _) hg]; exact hnz) (by rw [vi i (Nat.le_refl _) hg, vr i (Nat.le_refl _) hg])
      have hsq : ∀ c, i ≤ c → c < n → ql (stp i k A' r c) ≤ 65536 := fun c h1 h2 => by
        by_cases e : c = i
        · subst e
          have : stp c k A' r c = 0 := by simp only [stp]; rw [if_pos ⟨hir, Nat.le_refl _⟩]; grind
          rw [this]; exact Nat.le_trans ql_zero (by decide)
        · rcases d with _ | d
          · omega
          · exact hB2.1 r c (by omega) hrn (by omega) h2
      refine AWP_skip ?_;show AWP _ _ _ _ _ _;refine AWP_seq ?_;refine AWP_block ?_;refine AWP_reg_seq tok fun K hK => ?_;refine s_indexAddr rfl (x_tl rfl rfl rfl rfl rfl hx) rfl ?_;refine s_load rfl (l_box rfl rfl rfl rfl (by rw [← hr]; exact permC_get hrn)) rfl ?_;refine s_assign rfl rfl rfl ?_;refine s_end (hK _ ?_); clear hK K;refine a_draw tok mixed (A := [[], [], [], [0, 1], [], [], [], [4, 5], [], [4, 5, 6], [4, 5, 6, 7, 8], [0, 1, 2, 4, 5, 6, 7, 8, 9], [0, 1, 2, 3, 4, 5, 6, 7, 8, 9, 10], [0, 1, 2, 3, 4, 5, 6, 7, 8, 9, 10, 11], [0, 1, 2, 3, 4, 5, 6, 7, 8, 9, 10, 11], [], [], []]) (an := [{}, {}, {}, {}, {}, {}, {}, {}, {}, {}, {}, {}, {}, {}, {}, { c := [109] }, {}, {}]) rfl (by kernel_rfl) rfl fun K hK => ?_;refine s_move rfl rfl rfl ?_;refine s_move rfl rfl rfl ?_;refine s_indexAddr rfl (x_o (i := i) (j := i) rfl rfl rfl rfl rfl hg (Nat.zero_add _)) rfl ?_;refine s_load rfl (l_q rfl rfl rfl (so_row rfl lr) hg) rfl ?_;refine s_move rfl rfl rfl ?_;refine s_move rfl rfl rfl ?_;refine s_indexAddr rfl (x_o (i := i) (j := i) rfl rfl rfl rfl rfl hg (Nat.zero_add _)) rfl ?_;refine s_load rfl (l_box rfl rfl rfl rfl (permC_get hg)) rfl ?_;refine s_move rfl rfl rfl ?_;refine s_indexAddr rfl (x_o (i := i) (j := i) rfl rfl rfl rfl rfl hg (Nat.zero_add _)) rfl ?_;refine s_load rfl (l_q rfl rfl rfl (so_row rfl li) hg) rfl ?_;refine s_call rfl rfl (cd) rfl rfl rfl rfl ?_;refine s_move rfl rfl rfl ?_;refine s_extract rfl rfl rfl ?_;refine s_extract rfl rfl rfl ?_;refine s_alloc rfl rfl rfl rfl rfl (nr_grid (by repeat (first|exact allE_nil|refine allE_cons rfl ?_|refine allE_cons (own_nr (by omega)) ?_|refine allE_cons (pe_nr (by omega)) ?_|refine allE_cons (tl_nr (by decide)) ?_)) rfl (permC_noRef (by decide))) ?_;refine s_store rfl rfl rfl rfl rfl ?_;refine s_assign rfl rfl rfl ?_;refine s_end (hK _ ?_); clear hK K;refine AWP_reg_seq tok fun K hK => ?_;refine s_move rfl rfl rfl ?_;refine s_assign rfl rfl rfl ?_;refine s_end (hK _ ?_); clear hK K
      refine AWP_block (a_loop (α := Nat) (fun j => mk 138 [(2, .ptr 2 0), (4, .val (.one (.own 17 1 0 n))), (7, .ptr 7 0), (8, dI i), (11, .val (.one (.own (1000 + τ r) 4 0 n))), (12, .ptr 12 0), (14, dI j), (33, dI n), (34, dI i), (91, tlS 17 n i), (92, dI (n - (i + 1) : Nat)), (93, dI p)] ([(2, some box0), (7, some (.box (qzW (det1 * A' k i)).cs)), (12, some (.box (qzW (A' (swp i k r) i / A' k i)).cs)), (17, some (.box (permC 1000 4 n n τ)))] ++ rowsO 1000 4 n (fun s => rowD n (wV W (τ r) i j (fun c => stp i k A' r c) s))) [17])
        (fun j => i ≤ j ∧ j ≤ n) (fun j => n - j) i ?_ ⟨Nat.le_refl _, hi⟩ ?_)
      · simp only [wV_0];exact Wk.gkeep (B := 1000) ⟨rfl, rfl, rfl, rfl, rfl, rfl, rfl, rfl, rfl, rfl, rfl, rfl, trivial⟩ ⟨rfl, rfl, rfl, rfl, trivial⟩ rfl (fun q hq => by rw [so_cons, if_neg (by omega), so_cons, if_neg (by omega), so_hi rfl hq])
      rintro j ⟨hij, hjn⟩
      refine AWP_seq ?_;refine AWP_reg_seq tok fun K hK => ?_;refine s_move rfl rfl rfl ?_;refine s_move rfl rfl rfl ?_;refine s_blt rfl rfl rfl ?_;refine s_bin rfl rfl rfl ?_;refine s_end (hK _ ?_); clear hK K;refine a_cond rfl (fun hy => ?_) (fun hy => ?_)
      · have hy : j < n := by simp at hy; omega
        have cl := sLess_c (W (τ r) j) (qzW (A' (swp i k r) i / A' k i)) (W (τ i) j) (stp i k A' r j) ((orr j hij hy).mono rfl) ((qzW_ok qq).mono rfl) ((oi j hij hy).mono rfl) (by rw [qzW_v, vr j hij hy, vi j hij hy]; simp only [stp]; rw [if_pos ⟨hir, hij⟩])
        refine AWP_skip ?_;show AWP _ _ _ _ _ _;refine AWP_seq ?_;refine AWP_block ?_;refine a_draw1 tok mixed (A := [[], [], [], [], [], [2, 3], [], [], [], [], [7, 8], [], [7, 8, 9], [7, 8, 9, 10, 11], [2, 3, 4, 7, 8, 9, 10, 11, 12], [], []]) (an := [{}, {}, {}, {}, {}, {}, {}, {}, {}, {}, {}, {}, {}, {}, {}, {}, {}]) rfl (by kernel_rfl) rfl fun K hK => ?_;refine s_move rfl rfl rfl ?_;refine s_move rfl rfl rfl ?_;refine s_move rfl rfl rfl ?_;refine s_move rfl rfl rfl ?_;refine s_indexAddr rfl (x_o (i := j) (j := j) rfl rfl rfl rfl rfl hy (Nat.zero_add _)) rfl ?_;refine s_load rfl (l_qv (x := W (τ r) j) rfl rfl rfl (so_row rfl lr) hy (by simp only [wV, if_true]; rw [if_neg (by omega)])) rfl ?_;refine s_load rfl rfl rfl ?_;refine s_move rfl rfl rfl ?_;refine s_move rfl rfl rfl ?_;refine s_indexAddr rfl (x_o (i := i) (j := i) rfl rfl rfl rfl rfl hg (Nat.zero_add _)) rfl ?_;refine s_load rfl (l_box rfl rfl rfl rfl (permC_get hg)) rfl ?_;refine s_move rfl rfl rfl ?_;refine s_indexAddr rfl (x_o (i := j) (j := j) rfl rfl rfl rfl rfl hy (Nat.zero_add _)) rfl ?_;refine s_load rfl (l_qv (x := W (τ i) j) rfl rfl rfl (so_row rfl li) hy (by simp only [wV]; rw [if_neg (Ne.symm hne)])) rfl ?_;refine s_call rfl rfl (cl) rfl rfl rfl rfl ?_;refine s_indexAddr rfl (x_o (i := j) (j := j) rfl rfl rfl rfl rfl hy (Nat.zero_add _)) rfl ?_;refine s_store rfl (st_q (qzW (stp i k A' r j)) rfl rfl (so_row rfl lr) hy) rfl rfl rfl ?_;refine s_end (hK _ ?_); clear hK K;refine AWP_wk (Wk.gset (B := 1000) (f := τ r) (R' := fun s => rowD n (wV W (τ r) i (j + 1) (fun c => stp i k A' r c) s)) (S0 := [(2, some box0), (7, some (.box (qzW (det1 * A' k i)).cs)), (12, some (.box (qzW (A' (swp i k r) i / A' k i)).cs)), (17, some (.box (permC 1000 4 n n τ)))]) (E' := [(2, .ptr 2 0), (4, .val (.one (.own 17 1 0 n))), (7, .ptr 7 0), (8, dI i), (11, .val (.one (.own (1000 + τ r) 4 0 n))), (12, .ptr 12 0), (14, dI j), (33, dI n), (34, dI i), (91, tlS 17 n i), (92, dI (n - (i + 1) : Nat)), (93, dI p)]) ⟨rfl, rfl, rfl, rfl, rfl, rfl, rfl, rfl, rfl, rfl, rfl, rfl, trivial⟩ rfl lr (fun s _ => ?_)) ?_
        · by_cases e : s = τ r
          · rw [if_pos e, e]; exact (wV_s W hij (fun c => stp i k A' r c)).symm
          · rw [if_neg e];refine rowD_congr fun c _ => ?_;simp only [wV]; rw [if_neg e, if_neg e]
        show AWP _ _ _ _ _ _;refine AWP_reg tok fun K hK => ?_;refine s_move rfl rfl rfl ?_;refine s_bin rfl (e_add (c := ((j + 1 : Nat) : Int)) (by omega) (by omega)) rfl ?_;refine s_assign rfl rfl rfl ?_;refine s_end (hK _ ?_); clear hK K;exact ⟨j + 1, by omega, ⟨by omega, hy⟩, Wk.gkeep (B := 1000) ⟨rfl, rfl, rfl, rfl, rfl, rfl, rfl, rfl, rfl, rfl, rfl, rfl, trivial⟩ ⟨rfl, rfl, rfl, rfl, trivial⟩ rfl (fun q hq => so_hi rfl hq)⟩
      have hy : j = n := by simp at hy; omega
      subst hy
      refine AWP_exit ?_;show AWP _ _ _ _ _ _;refine AWP_reg tok fun K hK => ?_;refine s_bin rfl (e_add (c := ((p + 1 : Nat) : Int)) (by omega) (by omega)) rfl ?_;refine s_move rfl rfl rfl ?_;refine s_end (hK _ ?_); clear hK K;exact ⟨(p + 1, wV W (τ r) i j (fun c => stp i k A' r c)), by show j - (i + 1) - (p + 1) < j - (i + 1) - p; omega, ⟨by show p + 1 ≤ j - (i + 1); omega, by show ER j i k (i + 1 + (p + 1)) _ τ A'; rw [show i + 1 + (p + 1) = r + 1 by omega]; exact hER.row hir hrn hsq⟩, Wk.gkeep (B := 1000) ⟨rfl, rfl, rfl, rfl, rfl, rfl, rfl, rfl, rfl, trivial⟩ ⟨rfl, rfl, rfl, trivial⟩ rfl (fun q hq => so_hi rfl hq)⟩
    have hx : i + 1 + p = n := by simp at hx; omega
    rw [hx] at hER;refine AWP_exit ?_;show AWP _ _ _ _ _ _;refine AWP_reg tok fun K hK => ?_;refine s_bin rfl (e_add (c := ((i + 1 : Nat) : Int)) (by omega) (by omega)) rfl ?_;refine s_move rfl rfl rfl ?_;refine s_end (hK _ ?_); clear hK K
    have hd' : n - (i + 1) = d := by omega
    exact ⟨(i + 1, det1 * A' k i, W, τ, stp i k A'), by show n - (i + 1) < n - i; omega, ⟨hg, hER.done, by show elB n (n - (i + 1)) (i + 1) _; rw [hd']; exact hB2, by show elS n (n - (i + 1)) (i + 1) _ _ = D; rw [hd']; exact hD, qd2⟩, Wk.gkeep (B := 1000) ⟨rfl, rfl, rfl, rfl, rfl, trivial⟩ ⟨rfl, rfl, rfl, trivial⟩ rfl (fun q hq => so_hi rfl hq)⟩
  · have hg : i = n := by simp at hg; omega
    subst hg
    have hD : det = D := by rw [Nat.sub_self] at hD; exact hD
    rw [hD];refine AWP_exit ?_;show AWP _ _ _ _ _ _;refine AWP_reg_seq tok fun K hK => ?_;refine s_load rfl rfl rfl ?_;refine s_store rfl rfl rfl rfl rfl ?_;refine s_assign rfl rfl rfl ?_;refine s_end (hK _ ?_); clear hK K;refine AWP_ret ?_
    repeat (with_reducible refine tq_ret ?_)
    exact post_ret (fin_mk (by rfl) (by rfl) (by rfl))
end Go.Proofs.Ytgopibpkgmafiaa

/- Minors. No condition. -/
namespace Go.Proofs.Ytgopibpkgmafiaa
attribute [local irreducible] lexA

/-- How many of the first i numbers are kept if d is left out. -/
def kc (d i : Nat) : Nat := if i ≤ d then i else i - 1
theorem sk_kc {d i : Nat} (h : i ≠ d) : sk d (kc d i) = i := by unfold sk kc; split <;> split <;> omega
theorem kc_succ {d i : Nat} (h : i ≠ d) : kc d (i + 1) = kc d i + 1 := by unfold kc; split <;> split <;> omega
theorem kc_same (d : Nat) : kc d (d + 1) = kc d d := by unfold kc; split <;> split <;> omega
theorem kc_le {d n : Nat} (h : d < n) {i : Nat} (hi : i ≤ n) : kc d i ≤ n - 1 := by unfold kc; split <;> omega
theorem kc_n {d n : Nat} (h : d < n) : kc d n = n - 1 := by unfold kc; split <;> omega
def minF (F : Nat → Nat → RW) (d a b : Nat) : RW := qzW (F (sk d a) (sk d b)).v
/-- What Minor answers. -/
def minorV (m : List (List RW)) (drop : Int) : List (List RW) × Int :=
  if validM m = true then (if 0 ≤ drop ∧ drop < (m.length : Int) then (matW (m.length - 1) (m.length - 1) (minF (mtv m) drop.toNat), 0) else ([], 2)) else ([], 1)

set_option maxHeartbeats 1000000 in
theorem sMinor_c (m : List (List RW)) (drop : Int) (hl : m.length ≤ 9223372036854775806) (hr : ∀ r ∈ m, r.length ≤ 9223372036854775806) (ok : okM 65536 m) :
    Con Try.prog 49 [V1 (dMs m), dI drop] { v := .tup [.one (.d (dMs (minorV m drop).1)), .one (.d (lI (minorV m drop).2))] } := by
  refine con_intro (fn := Try.f49) tok Try.func49 (by kernel_rfl) rfl ?_
  intro w0 X
  rw [entry_mkE _ _ [(0, V1 (dMs m)), (1, dI drop)] rfl rfl];refine AWP_reg_seq tok fun K hK => ?_;refine s_assign rfl rfl rfl ?_;refine s_assign rfl rfl rfl ?_;refine s_end (hK _ ?_); clear hK K;refine AWP_seq ?_;refine AWP_block ?_;refine AWP_reg_seq tok fun K hK => ?_;refine s_move rfl rfl rfl ?_;refine s_call rfl rfl (sValid_c m hl hr ok) rfl rfl rfl rfl ?_;refine s_un rfl rfl rfl ?_;refine s_assign rfl rfl rfl ?_;refine s_end (hK _ ?_); clear hK K;refine a_cond rfl (fun hc => ?_) (fun hc => ?_)
  · have e : minorV m drop = ([], 1) := by rw [minorV, if_neg]; intro h; rw [h] at hc; cases hc
    rw [e];refine AWP_reg_seq tok fun K hK => ?_;refine s_assign rfl rfl rfl ?_;refine s_assign rfl rfl rfl ?_;refine s_end (hK _ ?_); clear hK K;refine AWP_ret ?_
    repeat (with_reducible refine tq_ret ?_)
    exact post_ret (fin_mk (by rfl) (by rfl) (by rfl))
  have hc : validM m = true := by simpa using hc
  rw [minorV, if_pos hc]
  obtain ⟨hv1, hv2, _⟩ := of_decide_eq_true hc
  obtain ⟨n, hn⟩ : ∃ n, m.length = n := ⟨_, rfl⟩
  have hm : m = matW n n (mtv m) := matW_of hn (fun r hr => (hv2 r hr).trans hn)
  have oF : ∀ i j, i < n → j < n → (mtv m i j).OK 65536 := fun i j hi hj => by rw [hm] at ok; exact okM_mat ok hi hj
  rw [hn] at hv1 ⊢;generalize mtv m = F at *;clear hv2 hc hr hl ok hn
  subst hm
  refine a_join (α := Bool) (fun c => mk 57 [(0, V1 (dMs (matW n n F))), (1, dI drop), (16, dB c)] [] []) (fun c => c = !decide (0 ≤ drop ∧ drop < (n : Int))) ?_ ?_
  · refine AWP_regW fun K hK => ?_;refine w_step tok rfl ?_;refine s_move rfl rfl rfl ?_;refine s_end ?_;refine w_step tok rfl ?_;refine s_bin rfl rfl rfl ?_;refine s_end ?_;refine w_step tok rfl ?_;refine s_move rfl rfl rfl ?_;refine s_end ?_;refine w_split (fun h0 => ?_) (fun h0 => ?_)
    · refine w_skip rfl rfl ?_;refine w_skip rfl rfl ?_;refine w_skip rfl rfl ?_;refine w_skip rfl rfl ?_;refine w_step tok rfl ?_;refine s_pick rfl rfl rfl ?_;refine s_end ?_;refine w_step tok rfl ?_;refine s_assign rfl rfl rfl ?_;refine s_end ?_;refine w_end rfl (hK _ ?_); clear hK K;exact ⟨_, (by simp only [decide_eq_true_eq, decide_eq_false_iff_not, Int.not_lt] at h0; rw [Bool.eq_iff_iff]; simp only [Bool.not_eq_true', decide_eq_false_iff_not, decide_eq_true_eq, true_iff, ge_iff_le]; omega), Wk.mk' ⟨rfl, rfl, rfl, trivial⟩ trivial⟩
    · refine w_step tok rfl ?_;refine s_move rfl rfl rfl ?_;refine s_end ?_;refine w_step tok rfl ?_;refine s_move rfl rfl rfl ?_;refine s_end ?_;refine w_step tok rfl ?_;refine s_blt rfl (len_mt rfl rfl) rfl ?_;refine s_end ?_;refine w_step tok rfl ?_;refine s_bin rfl rfl rfl ?_;refine s_end ?_;refine w_step tok rfl ?_;refine s_pick rfl rfl rfl ?_;refine s_end ?_;refine w_step tok rfl ?_;refine s_assign rfl rfl rfl ?_;refine s_end ?_;refine w_end rfl (hK _ ?_); clear hK K;exact ⟨_, (by simp only [decide_eq_true_eq, decide_eq_false_iff_not, Int.not_lt] at h0; rw [Bool.eq_iff_iff]; simp only [Bool.not_eq_true', decide_eq_false_iff_not, decide_eq_true_eq, true_iff, ge_iff_le]; omega), Wk.mk' ⟨rfl, rfl, rfl, trivial⟩ trivial⟩
  rintro c rfl
  refine a_cond rfl (fun hd => ?_) (fun hd => ?_)
  · rw [Bool.not_eq_true'] at hd
    have hd : ¬ (0 ≤ drop ∧ drop < (n : Int)) := of_decide_eq_false hd
    rw [if_neg hd];refine AWP_reg_seq tok fun K hK => ?_;refine s_assign rfl rfl rfl ?_;refine s_assign rfl rfl rfl ?_;refine s_end (hK _ ?_); clear hK K;refine AWP_ret ?_
    repeat (with_reducible refine tq_ret ?_)
    exact post_ret (fin_mk (by rfl) (by rfl) (by rfl))
  rw [Bool.not_eq_false'] at hd
  have hd : 0 ≤ drop ∧ drop < (n : Int) := of_decide_eq_true hd
  rw [if_pos hd]
  obtain ⟨d, rfl⟩ : ∃ d : Nat, drop = d := ⟨drop.toNat, by omega⟩
  have hdn : d < n := by omega
  rw [Int.toNat_natCast];refine AWP_skip ?_;show AWP _ _ _ _ _ _;refine AWP_reg_seq tok fun K hK => ?_;refine s_assign rfl rfl rfl ?_;refine s_end (hK _ ?_); clear hK K;refine AWP_seq ?_;refine AWP_reg_seq tok fun K hK => ?_;refine s_move rfl rfl rfl ?_;refine s_blt rfl (len_mt rfl rfl) rfl ?_;refine s_move rfl rfl rfl ?_;refine s_end (hK _ ?_); clear hK K;refine AWP_block (a_loop (α := Nat) (fun i => mk 57 [(1, dI d), (6, ownN 200 1 (kc d i)), (25, V1 (dMs (matW n n F))), (26, dI n), (27, dI i)] [(200, arrN 1 ((matW (kc d i) (n - 1) (minF F d)).map cM) (kc d i))] []) (fun i => i ≤ n) (fun i => n - i) 0 ?_ (Nat.zero_le _) ?_)
  · have e0 : kc d 0 = 0 := by unfold kc; rw [if_pos (by omega)]
    rw [e0];exact Wk.mk' ⟨rfl, rfl, rfl, rfl, rfl, trivial⟩ ⟨rfl, trivial⟩
  intro i hi
  refine AWP_reg_seq tok fun K hK => ?_;refine s_bin rfl rfl rfl ?_;refine s_end (hK _ ?_); clear hK K;refine AWP_seq ?_;refine a_cond rfl (fun hg => ?_) (fun hg => ?_)
  · have hg : i < n := by simp at hg; omega
    have n1 := matW_succ (kc d i) (n - 1) (minF F d)
    have z1 := matW_mlength (kc d i) (n - 1) (minF F d)
    refine AWP_skip ?_;show AWP _ _ _ _ _ _;refine AWP_seq ?_;refine AWP_block ?_;refine AWP_reg_seq tok fun K hK => ?_;refine s_move rfl rfl rfl ?_;refine s_indexAddr rfl (x_mt rfl rfl rfl rfl rfl hg) rfl ?_;refine s_load rfl rfl rfl ?_;refine s_assign rfl rfl rfl ?_;refine s_assign rfl rfl rfl ?_;refine s_end (hK _ ?_); clear hK K;refine AWP_seq ?_;refine AWP_reg_seq tok fun K hK => ?_;refine s_move rfl rfl rfl ?_;refine s_move rfl rfl rfl ?_;refine s_bin rfl rfl rfl ?_;refine s_end (hK _ ?_); clear hK K;refine a_cond rfl (fun hx => ?_) (fun hx => ?_)
    · have hx : i = d := by simp at hx; omega
      subst hx
      refine AWP_exit ?_;show AWP _ _ _ _ _ _;refine AWP_reg tok fun K hK => ?_;refine s_bin rfl (e_add (c := ((i + 1 : Nat) : Int)) (by omega) (by omega)) rfl ?_;refine s_move rfl rfl rfl ?_;refine s_end (hK _ ?_); clear hK K;refine ⟨i + 1, by omega, hg, ?_⟩;rw [kc_same];exact Wk.mk' ⟨rfl, rfl, rfl, rfl, rfl, trivial⟩ ⟨rfl, trivial⟩
    have hx : i ≠ d := by simp at hx; omega
    have hsk := sk_kc hx
    have hks := kc_succ hx
    rw [← hks] at n1;generalize (matW (kc d i) (n - 1) (minF F d)).map cM = es at n1 z1 ⊢
    obtain ⟨a, ha⟩ : ∃ a, a = kc d i := ⟨_, rfl⟩
    rw [← ha] at hsk hks n1 z1 ⊢;refine AWP_skip ?_;show AWP _ _ _ _ _ _;refine AWP_reg_seq tok fun K hK => ?_;refine s_assign rfl rfl rfl ?_;refine s_end (hK _ ?_); clear hK K;refine AWP_seq ?_;refine AWP_reg_seq tok fun K hK => ?_;refine s_move rfl rfl rfl ?_;refine s_blt rfl (len_v rfl rfl) rfl ?_;refine s_move rfl rfl rfl ?_;refine s_end (hK _ ?_); clear hK K;refine AWP_block (a_loop (α := Nat) (fun j => mk 57 [(1, dI d), (6, ownN 200 1 a), (9, ownN 201 4 (kc d j)), (25, V1 (dMs (matW n n F))), (26, dI n), (27, dI i), (35, V1 (dRs (vecW n (F i)))), (36, dI n), (37, dI j)] [(200, arrN 1 es a), (201, arrN 4 (rowD (kc d j) (minF F d a)) (kc d j))] []) (fun j => j ≤ n) (fun j => n - j) 0 ?_ (Nat.zero_le _) ?_)
    · have e0 : kc d 0 = 0 := by unfold kc; rw [if_pos (by omega)]
      rw [e0];exact Wk.mk' ⟨rfl, rfl, rfl, rfl, rfl, rfl, rfl, rfl, rfl, trivial⟩ ⟨rfl, rfl, trivial⟩
    intro j hj
    refine AWP_reg_seq tok fun K hK => ?_;refine s_bin rfl rfl rfl ?_;refine s_end (hK _ ?_); clear hK K;refine AWP_seq ?_;refine a_cond rfl (fun hf => ?_) (fun hf => ?_)
    · have hf : j < n := by simp at hf; omega
      have n2 := rowD_succ (kc d j) (minF F d a)
      have z2 := rowD_length (kc d j) (minF F d a)
      obtain ⟨b, hb⟩ : ∃ b, b = kc d j := ⟨_, rfl⟩
      have hb1 := kc_le hdn hj
      rw [← hb] at n2 z2 hb1 ⊢
      have cn := qNorm_t (F i j) ((oF i j hg hf).mono rfl)
      refine AWP_skip ?_;show AWP _ _ _ _ _ _;refine AWP_seq ?_;refine AWP_block ?_;refine AWP_reg_seq tok fun K hK => ?_;refine s_move rfl rfl rfl ?_;refine s_indexAddr rfl (x_v rfl rfl rfl rfl rfl hf) rfl ?_;refine s_load rfl rfl rfl ?_;refine s_alloc rfl rfl rfl rfl rfl (by rcases a with _|a <;> rcases b with _|b <;> rfl) ?_;refine s_assign rfl rfl rfl ?_;refine s_store rfl rfl rfl rfl rfl ?_;refine s_end (hK _ ?_); clear hK K;refine AWP_reg_seq tok fun K hK => ?_;refine s_move rfl rfl rfl ?_;refine s_move rfl rfl rfl ?_;refine s_bin rfl rfl rfl ?_;refine s_end (hK _ ?_); clear hK K;refine a_cond rfl (fun hy => ?_) (fun hy => ?_)
      · have hy : j ≠ d := by simp at hy; omega
        have hskj := sk_kc hy
        have hksj := kc_succ hy
        rw [← hb] at hskj hksj
        have ev : minF F d a b = qzW (F i j).v := by unfold minF; rw [hsk, hskj]
        rw [ev, ← hksj] at n2;generalize rowD b (minF F d a) = rs at n2 z2 ⊢
        rcases b with _ | b
        · refine AWP_reg tok fun K hK => ?_;refine s_move rfl rfl rfl ?_;refine s_load rfl rfl rfl ?_;refine s_call rfl rfl (cn) rfl rfl rfl rfl ?_;refine s_buildSlice rfl rfl (by rcases a with _|a <;> rfl) rfl ?_;refine s_append rfl (ap_nil rfl rfl rfl rfl rfl (by decide) (Nat.le_of_ble_eq_true rfl) rfl (by simp) rfl (by simp) (by simp)) (by rcases a with _|a <;> rfl) rfl rfl ?_;refine s_assign rfl rfl rfl ?_;refine s_end (hK _ ?_); clear hK K;show AWP _ _ _ _ _ _;refine AWP_reg tok fun K hK => ?_;refine s_bin rfl (e_add (c := ((j + 1 : Nat) : Int)) (by omega) (by omega)) rfl ?_;refine s_move rfl rfl rfl ?_;refine s_end (hK _ ?_); clear hK K;refine ⟨j + 1, by omega, hf, ?_⟩;rw [hksj] at n2 ⊢;refine Wk.rn [1, 6, 9, 25, 26, 27, 35, 36, 37] [200, 49] 49 201 rfl rfl (by rcases a with _|a <;> rfl) ⟨rfl, (by rcases a with _|a <;> rfl), ?_, rfl, rfl, rfl, rfl, rfl, rfl, trivial⟩ ⟨(by rcases a with _|a <;> rfl), ?_, trivial⟩
          · first
              | rfl
              | (show SV.val (.one (.own 201 4 0 _)) = _
                 rw [List.length_append, z2]; rfl)
          · first
              | (rw [← n2, List.length_eq_zero_iff.1 z2]; rfl)
              | (rw [← n2]; rfl)
        · refine AWP_reg tok fun K hK => ?_;refine s_move rfl rfl rfl ?_;refine s_load rfl rfl rfl ?_;refine s_call rfl rfl (cn) rfl rfl rfl rfl ?_;refine s_buildSlice rfl rfl (by rcases a with _|a <;> rfl) rfl ?_;refine s_append rfl (ap_o rfl rfl rfl rfl rfl rfl (by decide) (Nat.le_of_ble_eq_true rfl) rfl (by simp) rfl rfl z2.symm (by simp <;> omega)) (by rcases a with _|a <;> rfl) rfl rfl ?_;refine s_assign rfl rfl rfl ?_;refine s_end (hK _ ?_); clear hK K;show AWP _ _ _ _ _ _;refine AWP_reg tok fun K hK => ?_;refine s_bin rfl (e_add (c := ((j + 1 : Nat) : Int)) (by omega) (by omega)) rfl ?_;refine s_move rfl rfl rfl ?_;refine s_end (hK _ ?_); clear hK K;refine ⟨j + 1, by omega, hf, ?_⟩;rw [hksj] at n2 ⊢;refine Wk.rn [1, 6, 9, 25, 26, 27, 35, 36, 37] [200, 49] 49 201 rfl rfl (by rcases a with _|a <;> rfl) ⟨rfl, (by rcases a with _|a <;> rfl), ?_, rfl, rfl, rfl, rfl, rfl, rfl, trivial⟩ ⟨(by rcases a with _|a <;> rfl), ?_, trivial⟩
          · first
              | rfl
              | (show SV.val (.one (.own 201 4 0 _)) = _
                 rw [List.length_append, z2]; rfl)
          · first
              | (rw [← n2, List.length_eq_zero_iff.1 z2]; rfl)
              | (rw [← n2]; rfl)
      · have hy : j = d := by simp at hy; omega
        subst hy
        refine AWP_skip ?_;show AWP _ _ _ _ _ _;refine AWP_reg tok fun K hK => ?_;refine s_bin rfl (e_add (c := ((j + 1 : Nat) : Int)) (by omega) (by omega)) rfl ?_;refine s_move rfl rfl rfl ?_;refine s_end (hK _ ?_); clear hK K;refine ⟨j + 1, by omega, hf, ?_⟩;rw [kc_same, ← hb];exact Wk.mk' ⟨rfl, rfl, rfl, rfl, rfl, rfl, rfl, rfl, rfl, trivial⟩ ⟨rfl, rfl, trivial⟩
    have hf : j = n := by simp at hf; omega
    subst hf
    refine AWP_exit ?_;show AWP _ _ _ _ _ _;rw [kc_n hdn]
    obtain ⟨p, hp⟩ : ∃ p, j - 1 = p + 1 := ⟨j - 2, by omega⟩
    have ha1 : a ≤ j - 1 := by rw [ha]; exact kc_le hdn (by omega)
    rw [hp] at n1 ⊢
    rcases a with _ | a
    · refine a_fz [1, 6, 9, 25, 26, 27] [200, 201] 201 [(1, dI d), (6, ownN 200 1 (0)), (9, V1 (dRs (vecW (p + 1) (minF F d (0))))), (25, V1 (dMs (matW j j F))), (26, dI j), (27, dI i)] [(200, arrN 1 es (0))] rfl ?_ ⟨rfl, trivial⟩ ?_
      · exact ⟨rfl, rfl, frz_own (vec_dc _ _).symm (by simp [vecW]), rfl, rfl, rfl, trivial⟩
      refine AWP_reg tok fun K hK => ?_;refine s_move rfl rfl rfl ?_;refine s_move rfl rfl rfl ?_;refine s_buildSlice rfl rfl rfl rfl ?_;refine s_append rfl (ap_nil rfl rfl rfl rfl rfl (by decide) (Nat.le_of_ble_eq_true rfl) rfl (by simp) rfl (by simp) (by simp)) rfl rfl rfl ?_;refine s_assign rfl rfl rfl ?_;refine s_end (hK _ ?_); clear hK K;show AWP _ _ _ _ _ _;refine AWP_reg tok fun K hK => ?_;refine s_bin rfl (e_add (c := ((i + 1 : Nat) : Int)) (by omega) (by omega)) rfl ?_;refine s_move rfl rfl rfl ?_;refine s_end (hK _ ?_); clear hK K;refine ⟨i + 1, by omega, hg, ?_⟩;rw [hks] at n1 ⊢;refine Wk.rn [1, 6, 25, 26, 27] [54] 54 200 rfl rfl rfl ⟨rfl, ?_, rfl, rfl, rfl, trivial⟩ ⟨?_, trivial⟩
      · first
          | rfl
          | (show SV.val (.one (.own 200 1 0 _)) = _
             rw [List.length_append, z1]; rfl)
      · first
          | (rw [← n1, List.length_eq_zero_iff.1 z1]; rfl)
          | (rw [← n1]; rfl)
    · refine a_fz [1, 6, 9, 25, 26, 27] [200, 201] 201 [(1, dI d), (6, ownN 200 1 (a + 1)), (9, V1 (dRs (vecW (p + 1) (minF F d (a + 1))))), (25, V1 (dMs (matW j j F))), (26, dI j), (27, dI i)] [(200, arrN 1 es (a + 1))] rfl ?_ ⟨rfl, trivial⟩ ?_
      · exact ⟨rfl, rfl, frz_own (vec_dc _ _).symm (by simp [vecW]), rfl, rfl, rfl, trivial⟩
      refine AWP_reg tok fun K hK => ?_;refine s_move rfl rfl rfl ?_;refine s_move rfl rfl rfl ?_;refine s_buildSlice rfl rfl rfl rfl ?_;refine s_append rfl (ap_o rfl rfl rfl rfl rfl rfl (by decide) (Nat.le_of_ble_eq_true rfl) rfl (by simp) rfl rfl z1.symm (by simp <;> omega)) rfl rfl rfl ?_;refine s_assign rfl rfl rfl ?_;refine s_end (hK _ ?_); clear hK K;show AWP _ _ _ _ _ _;refine AWP_reg tok fun K hK => ?_;refine s_bin rfl (e_add (c := ((i + 1 : Nat) : Int)) (by omega) (by omega)) rfl ?_;refine s_move rfl rfl rfl ?_;refine s_end (hK _ ?_); clear hK K;refine ⟨i + 1, by omega, hg, ?_⟩;rw [hks] at n1 ⊢;refine Wk.rn [1, 6, 25, 26, 27] [54] 54 200 rfl rfl rfl ⟨rfl, ?_, rfl, rfl, rfl, trivial⟩ ⟨?_, trivial⟩
      · first
          | rfl
          | (show SV.val (.one (.own 200 1 0 _)) = _
             rw [List.length_append, z1]; rfl)
      · first
          | (rw [← n1, List.length_eq_zero_iff.1 z1]; rfl)
          | (rw [← n1]; rfl)
  have hg : i = n := by simp at hg; omega
  subst hg
  refine AWP_exit ?_;show AWP _ _ _ _ _ _;rw [kc_n hdn]
  obtain ⟨p, hp⟩ : ∃ p, p = i - 1 := ⟨_, rfl⟩
  rw [← hp]
  rcases p with _ | p
  · refine AWP_reg_seq tok fun K hK => ?_;refine s_move rfl rfl rfl ?_;refine s_assign rfl rfl rfl ?_;refine s_assign rfl rfl rfl ?_;refine s_end (hK _ ?_); clear hK K;refine AWP_ret ?_
    repeat (with_reducible refine tq_ret ?_)
    exact post_ret (fin_mk (by rfl) (by rfl) (by rfl))
  · refine a_fz [6] [200] 200 [(6, V1 (dMs (matW (p + 1) (p + 1) (minF F d))))] [] rfl ?_ trivial ?_
    · exact ⟨frz_own rfl (matW_mlength _ _ _).symm, trivial⟩
    refine AWP_reg_seq tok fun K hK => ?_;refine s_move rfl rfl rfl ?_;refine s_assign rfl rfl rfl ?_;refine s_assign rfl rfl rfl ?_;refine s_end (hK _ ?_); clear hK K;refine AWP_ret ?_
    repeat (with_reducible refine tq_ret ?_)
    exact post_ret (fin_mk (by rfl) (by rfl) (by rfl))
end Go.Proofs.Ytgopibpkgmafiaa

/- The graph's resistances, plainly. No condition. -/
namespace Go.Proofs.Ytgopibpkgmafiaa
attribute [local irreducible] lexA

def wlk (l : LK) : WL := ⟨l.f.toNat, l.t.toNat, ((l.w : Int) : Rat)⟩
def wls (ls : List LK) : List WL := ls.map wlk
theorem lpl_snoc (p : Nat → Nat) (x : WL) (i j : Nat) : ∀ xs : List WL, lpl p (xs ++ [x]) i j = lpl p xs i j + x.w * (uu p x i * uu p x j)
  | [] => by simp only [List.nil_append, lpl]
  | y :: ys => by simp only [List.cons_append, lpl]; rw [lpl_snoc p x i j ys]; grind
theorem lapD_uu {f t : Nat} {w : Int} (h : f ≠ t) (i j : Nat) : ((lapD f t w i j : Int) : Rat) = (w : Rat) * (uu id ⟨f, t, (w : Rat)⟩ i * uu id ⟨f, t, (w : Rat)⟩ j) := by
  unfold lapD uu
  simp only [id]
  repeat' split
  all_goals first
    | (exfalso; omega)
    | (try simp only [Rat.intCast_neg, Rat.intCast_zero]
       grind)
theorem lap_lpl {n : Nat} {ls : List LK} (h : ∀ l ∈ ls, LV n l) (i j : Nat) : ((lapM ls i j : Int) : Rat) = lpl id (wls ls) i j := by
  have : ∀ k, k ≤ ls.length → ((lapM (ls.take k) i j : Int) : Rat) = lpl id (wls (ls.take k)) i j := by
    intro k
    induction k with
    | zero => intro _; rfl
    | succ k ih =>
      intro hk
      have lv := h ls[k] (List.getElem_mem (by omega))
      have hne : ls[k].f.toNat ≠ ls[k].t.toNat := by have := lv.f; have := lv.t; have := lv.ne; omega
      have e : wls (ls.take (k + 1)) = wls (ls.take k) ++ [wlk ls[k]] := by rw [wls, List.take_succ_eq_append_getElem (by omega), List.map_append]; rfl
      rw [lapM_snoc (by omega), lapS_eq hne, e, lpl_snoc, Rat.intCast_add, ih (by omega), lapD_uu hne]
      rfl
  have h := this ls.length (Nat.le_refl _)
  rwa [List.take_length] at h
section
variable {g : GR} (gv : GV g)
include gv
theorem gLV : ∀ l ∈ g.links, LV g.nodes.length l := fun l hl => linkB_iff.1 (gv.lk l hl)
theorem wls_w : ∀ x ∈ wls g.links, 0 < x.w := fun x hx => by
  obtain ⟨l, hl, rfl⟩ := List.mem_map.1 hx
  have := (gLV gv l hl).w
  show (0 : Rat) < ((l.w : Int) : Rat)
  have h : (0 : Int) < l.w := by omega
  exact_mod_cast h
theorem wls_l : ∀ x ∈ wls g.links, x.f < g.nodes.length ∧ x.t < g.nodes.length := fun x hx => by
  obtain ⟨l, hl, rfl⟩ := List.mem_map.1 hx
  have h1 := (gLV gv l hl).f
  have h2 := (gLV gv l hl).t
  exact ⟨by show l.f.toNat < _; omega, by show l.t.toNat < _; omega⟩
end
theorem wls_prs (ls : List LK) : (wls ls).map (fun x => (x.f, x.t)) = prs ls := by rw [wls, List.map_map]; rfl
/-- The number of a node's component. -/
def lab (g : GR) (v : Nat) : Nat := (partsV g).1.getD v 0
def rootN (g : GR) (v : Nat) : Nat := fd (partsR g) v
section
variable {g : GR} (gv : GV g)
include gv
theorem lab_labF (v : Nat) : lab g v = labF (partsR g) g.nodes.length v := by
  unfold lab labF; rw [partsV, if_pos (validB_iff.2 gv)]
theorem prs_lt : ∀ p ∈ prs g.links, p.1 < g.nodes.length ∧ p.2 < g.nodes.length := fun p hp => by
  rw [← wls_prs] at hp
  obtain ⟨x, hx, rfl⟩ := List.mem_map.1 hp
  exact wls_l gv x hx
theorem lab_iff' {u v : Nat} (hu : u < g.nodes.length) (hv : v < g.nodes.length) : lab g u = lab g v ↔ rootN g u = rootN g v := by
  rw [lab_labF gv, lab_labF gv]; exact lab_iff (partsL_ok _ _).1 hu hv
theorem lab_cnn {u v : Nat} (hu : u < g.nodes.length) (hv : v < g.nodes.length) : lab g u = lab g v ↔ Cnn (prs g.links) u v := by
  rw [lab_iff' gv hu hv]
  unfold rootN partsR
  rw [partsL_uniL];exact uniL_iff _ _ (prs_lt gv) u v hu hv
theorem parts_length : (partsV g).1.length = g.nodes.length := by rw [partsV, if_pos (validB_iff.2 gv)]; exact num_length _ _
theorem lab_link {x : WL} (hx : x ∈ wls g.links) : lab g x.f = lab g x.t := by
  obtain ⟨h1, h2⟩ := wls_l gv x hx
  rw [lab_cnn gv h1 h2, ← wls_prs];exact .one (Or.inl (List.mem_map.2 ⟨x, hx, rfl⟩))
end
/-- The nodes of j's component, but j. -/
def grS (g : GR) (j v : Nat) : Bool := decide (lab g v = lab g j) && decide (v ≠ j)
def grL (g : GR) (j k : Nat) : List Nat := (List.range k).filter (grS g j)
def resRow (g : GR) (j v : Nat) : List RW := (grL g j g.nodes.length).map fun w => qzW ((lapM g.links v w : Int) : Rat)
def resM (g : GR) (j : Nat) : List (List RW) := (grL g j g.nodes.length).map (resRow g j)
def resK (g : GR) (j : Nat) : Nat := kN g.nodes.length (grS g j)
def resA (g : GR) (i j : Nat) : Nat := kN i (grS g j)
def resD (g : GR) (i j : Nat) : List RW := vecW (resK g j) fun t => if t = resA g i j then qzW 1 else qzW 0
def resQ (g : GR) (i j : Nat) : Rat := if i = j then 0 else slv (matV (resM g j)) (rhsV (resD g i j)) (resK g j) (resA g i j)
theorem grS_iff {g : GR} {j v : Nat} : grS g j v = true ↔ lab g v = lab g j ∧ v ≠ j := by simp [grS]
theorem resM_length (g : GR) (j : Nat) : (resM g j).length = resK g j := by simp [resM, resK, grL, kN]
theorem mapD {α β : Type} {l : List α} {f : α → β} {a : Nat} {x : α} {d : β} (h : a < l.length) : (l.map f).getD a d = f (l.getD a x) := by simp [h]
theorem resM_at {g : GR} {j a b : Nat} (ha : a < resK g j) (hb : b < resK g j) : mtv (resM g j) a b = qzW ((lapM g.links (vL g.nodes.length (grS g j) a) (vL g.nodes.length (grS g j) b) : Int) : Rat) := by
  have hl : (grL g j g.nodes.length).length = resK g j := rfl
  unfold mtv resM
  rw [mapD (x := 0) (by omega)]
  unfold resRow
  rw [mapD (x := 0) (by omega)]
  rfl
theorem resD_at {g : GR} {i j a : Nat} (ha : a < resK g j) : rhsV (resD g i j) a = if a = resA g i j then 1 else 0 := by
  unfold rhsV resD vecW
  have : ((List.range (resK g j)).map fun t => if t = resA g i j then qzW 1 else qzW 0).getD a rw00 = if a = resA g i j then qzW 1 else qzW 0 := by simp [ha]
  rw [this]
  split
  · exact qzW_v 1
  · exact qzW_v 0
structure RES (g : GR) (i j : Nat) : Prop where
  val : validM (resM g j) = true
  ok : okM 65536 (resM g j)
  fac : facS (matV (resM g j)) (resK g j)
  pos : posB (matV (resM g j)) (resK g j) = true
  sol : solS (matV (resM g j)) (rhsV (resD g i j)) (resK g j)
  at_ : resA g i j < resK g j
  res : IsR g.nodes.length (wls g.links) i j (resQ g i j)
  bnd : ql (resQ g i j) ≤ 65536
theorem res_all {g : GR} {i j : Nat} (gv : GV g) (hi : i < g.nodes.length) (hj : j < g.nodes.length) (hij : i ≠ j) (hl : lab g i = lab g j) : RES g i j := by
  have n16 := gv.n2
  have hSj : grS g j j = false := by simp [grS]
  have hSi : grS g j i = true := grS_iff.2 ⟨hl, hij⟩
  have hK : resK g j < g.nodes.length := kN_lt hj hSj
  obtain ⟨a1, a2⟩ := vL_at hi hSi
  have hK16 : resK g j ≤ 16 := by omega
  have hM : ∀ a b, -50331648 ≤ lapM g.links a b ∧ lapM g.links a b ≤ 50331648 := fun a b => by
    have h1 := lapM_le g.links (gLV gv) a b
    have h2 := gv.l
    omega
  have hB : ∀ a b, a < resK g j → b < resK g j → matV (resM g j) a b = lpl id (wls g.links) (vL g.nodes.length (grS g j) a) (vL g.nodes.length (grS g j) b) := fun a b ha hb => by
    unfold matV; rw [resM_at ha hb, qzW_v, lap_lpl (gLV gv)]
  have hIB : ∀ a b, a < resK g j → b < resK g j → IB 26 (matV (resM g j) a b) := fun a b ha hb => by
    unfold matV; rw [resM_at ha hb, qzW_v]
    have := hM (vL g.nodes.length (grS g j) a) (vL g.nodes.length (grS g j) b)
    exact ⟨_, rfl, by have e : (2 : Nat) ^ 26 = 67108864 := by decide
                      rw [e]; omega⟩
  have hIb : ∀ a, a < resK g j → IB 26 (rhsV (resD g i j) a) := fun a ha => by
    rw [resD_at ha]; split
    · exact IB_one.mono (by omega)
    · exact IB_zero 26
  have hc : ∀ v, v < g.nodes.length → grS g j v = true → Cnn ((wls g.links).map fun x => (x.f, x.t)) v j := fun v hv hS => by
    rw [wls_prs]; exact (lab_cnn gv hv hj).1 (grS_iff.1 hS).1
  obtain ⟨hs', hD0⟩ := ground_pd (wls_w gv) (wls_l gv) hSj hc hB
  have hs : ∀ a b, a < resK g j → b < resK g j → matV (resM g j) a b = matV (resM g j) b a := hs'
  have hD : ∀ k, k < resK g j → 0 < DD (matV (resM g j)) k := hD0
  have hJ : resK g j * (26 + 4) < 32 * 15 := by omega
  have hD' : ∀ k, k < resK g j → DD (matV (resM g j)) k ≠ 0 := fun k hk => by have := hD k hk; grind
  have qD : ∀ k, k < resK g j → ql (DD (matV (resM g j)) k) ≤ 15 := fun k hk => DD_ql hs hIB hK16 hJ hk fun k' hk' => hD' k' (by omega)
  have qL : ∀ a b, a < resK g j → b < a → ql (LL (matV (resM g j)) a b) ≤ 15 := fun a b ha hb => LL_ql hs hIB hK16 hJ ha hb fun k' hk' => hD' k' (by omega)
  have qb : ∀ a, a < resK g j → ql (rhsV (resD g i j) a) ≤ 1 := fun a ha => by
    rw [resD_at ha]; split <;> decide
  have qS : ∀ a, a < resK g j → ql (slv (matV (resM g j)) (rhsV (resD g i j)) (resK g j) a) ≤ 15 := fun a ha => slv_ql hs hIB hIb hK16 hJ hD' ha
  have eQ : resQ g i j = slv (matV (resM g j)) (rhsV (resD g i j)) (resK g j) (resA g i j) := if_neg hij
  refine ⟨?_, ?_, ?_, decide_eq_true hD, ⟨?_, fun a ha => Nat.le_trans (qS a ha) (by decide)⟩, a1, ?_, ?_⟩
  · refine decide_eq_true ⟨by rw [resM_length]; omega, fun r hr => ?_, fun a ha b hb => ?_⟩
    · obtain ⟨v, _, rfl⟩ := List.mem_map.1 hr
      rw [resM_length]
      simp [resRow, resK, grL, kN]
    · rw [resM_length] at ha;exact hs a b ha (by omega)
  · intro r hr x hx
    obtain ⟨v, _, rfl⟩ := List.mem_map.1 hr
    obtain ⟨w, _, rfl⟩ := List.mem_map.1 hx
    have := hM v w
    exact (qzW_ok (ql_i64 ⟨by omega, by omega⟩)).mono rfl
  · intro a ha _
    exact ⟨Nat.le_trans (qD a ha) (by decide), fun b hb => Nat.le_trans (qL a b ha hb) (by decide)⟩
  · intro a ha
    have h1 := fwv_ql qL qb a ha
    have h2 : 2 ^ a ≤ 2 ^ 14 := Nat.pow_le_pow_right (by decide) (by omega)
    have h3 : (1 + 15 + 1) * 2 ^ a ≤ 17 * 2 ^ 14 := Nat.mul_le_mul_left _ h2
    have h4 : 17 * 2 ^ 14 = 278528 := by decide
    omega
  · rw [eQ]
    obtain ⟨u, u1, u2⟩ := ground_UF (x := slv (matV (resM g j)) (rhsV (resD g i j)) (resK g j)) (wls_l gv) hi hj hSi hSj hB (fun a ha => by
      have := slv_eq (n := resK g j) (b := rhsV (resD g i j)) hs hD' ha
      show sm (resK g j) _ = _
      rw [this, resD_at ha]
      by_cases e : a = resA g i j
      · rw [if_pos e, if_pos (by rw [e]; exact a2)]
      · rw [if_neg e, if_neg (fun e' => e (vL_inj ha a1 (e'.trans a2.symm)))]) (fun y hy => by
      have := lab_link gv hy
      have p : ∀ v, (grS g j v = true ∨ v = j) ↔ lab g v = lab g j := fun v => by
        rw [grS_iff]
        by_cases e : v = j
        · subst e; simp
        · simp [e]
      rw [p, p, this])
    exact ⟨u, u1, u2⟩
  · rw [eQ]; exact Nat.le_trans (qS _ a1) (by decide)
end Go.Proofs.Ytgopibpkgmafiaa

/- Resistances. No condition. -/
namespace Go.Proofs.Ytgopibpkgmafiaa
attribute [local irreducible] lexA

theorem zeros_c (n : Nat) (hn : n ≤ 1048576) : Con Try.prog 67 [dI n] { v := .val (.one (.own 0 4 0 n)), ob := some (4, rowD n (fun _ => qzW 0)) } := by
  have cz := qOfI_c 0 ⟨by decide, by decide⟩
  refine con_intro (fn := Try.f67) tok Try.func67 (by kernel_rfl) rfl ?_
  intro w0 X
  rw [entry_mkE _ _ [(0, dI n)] rfl rfl];refine AWP_reg_seq tok fun K hK => ?_;refine s_assign rfl rfl rfl ?_;refine s_end (hK _ ?_); clear hK K;refine AWP_reg_seq tok fun K hK => ?_;refine s_move rfl rfl rfl ?_;refine s_makeSlice (sz := _) (es := _) (f := _) (v := _) rfl (mk_a (l := n) rfl rfl rfl rfl rfl (Nat.le_of_ble_eq_true rfl) (by decide) rfl rfl (by omega)) rfl rfl ?_;refine s_assign rfl rfl rfl ?_;refine s_end (hK _ ?_); clear hK K;refine AWP_seq ?_;refine AWP_reg_seq tok fun K hK => ?_;refine s_move rfl rfl rfl ?_;refine s_blt rfl rfl rfl ?_;refine s_move rfl rfl rfl ?_;refine s_end (hK _ ?_); clear hK K;refine AWP_block (a_loop (α := Nat) (fun s => mk 18 [(3, .val (.one (.own 6 4 0 n))), (8, dI n), (9, dI s)] [(6, some (.arr 4 (rowD n (zG s))))] []) (fun s => s ≤ n) (fun s => n - s) 0 ?_ (Nat.zero_le _) ?_)
  · exact Wk.mk' ⟨rfl, rfl, rfl, trivial⟩ ⟨congrArg (fun x => some (OO.arr 4 x)) (rowD_z0 n), trivial⟩
  intro s hs
  refine AWP_reg_seq tok fun K hK => ?_;refine s_bin rfl rfl rfl ?_;refine s_end (hK _ ?_); clear hK K;refine AWP_seq ?_;refine a_cond rfl (fun hf => ?_) (fun hf => ?_)
  · have hf : s < n := by simp at hf; omega
    refine AWP_skip ?_;show AWP _ _ _ _ _ _;refine AWP_seq ?_;refine AWP_block ?_;refine AWP_reg_seq tok fun K hK => ?_;refine s_move rfl rfl rfl ?_;refine s_assign rfl rfl rfl ?_;refine s_end (hK _ ?_); clear hK K;refine AWP_reg tok fun K hK => ?_;refine s_move rfl rfl rfl ?_;refine s_move rfl rfl rfl ?_;refine s_call rfl rfl (cz) rfl rfl rfl rfl ?_;refine s_indexAddr rfl (x_o (i := s) (j := s) rfl rfl rfl rfl rfl hf (Nat.zero_add _)) rfl ?_;refine s_store rfl (st_q (qzW 0) rfl rfl rfl hf) rfl rfl rfl ?_;refine s_end (hK _ ?_); clear hK K;rw [rowD_zs];show AWP _ _ _ _ _ _;refine AWP_reg tok fun K hK => ?_;refine s_bin rfl (e_add (c := ((s + 1 : Nat) : Int)) (by omega) (by omega)) rfl ?_;refine s_move rfl rfl rfl ?_;refine s_end (hK _ ?_); clear hK K;exact ⟨s + 1, by omega, hf, Wk.mk' ⟨rfl, rfl, rfl, trivial⟩ ⟨rfl, trivial⟩⟩
  have hf : s = n := by simp at hf; omega
  subst hf
  refine AWP_exit ?_;show AWP _ _ _ _ _ _
  have e : rowD s (zG s) = rowD s (fun _ => qzW 0) := rowD_congr fun i hi => if_pos hi
  rw [e];refine AWP_reg_seq tok fun K hK => ?_;refine s_move rfl rfl rfl ?_;refine s_assign rfl rfl rfl ?_;refine s_end (hK _ ?_); clear hK K;refine AWP_ret ?_;exact post_ret (fin_own (by rfl) rfl)

theorem dNs_nm (g : GR) (gv : GV g) : dNs (partsV g).1 = .sl (nmD g.nodes.length (lab g)) := by
  have hl := parts_length gv
  unfold dNs nmD
  congr 1
  apply List.ext_getElem?
  intro i
  rcases Nat.lt_or_ge i g.nodes.length with hi | hi
  · have hi' : i < (partsV g).1.length := by omega
    simp [hi, hi', lab]
  · rw [List.getElem?_eq_none (by simp; omega), List.getElem?_eq_none (by simp; omega)]
/-- What resistance answers. -/
def rstV (g : GR) (i j : Nat) : RW × Int := if lab g i = lab g j then (qzW (resQ g i j), 0) else (rw00, 10)
theorem e_eqN {T : Tab} {t : TypeId} (a b : Nat) : effBin T .eql t (dI a) (dI b) = .set (dB (decide (a = b))) := by
  show setLit (.bool ((a : Int) == (b : Int))) = _
  have : ((a : Int) == (b : Int)) = decide (a = b) := by rw [Bool.eq_iff_iff]; simp only [beq_iff_eq, decide_eq_true_eq]; omega
  rw [this]; rfl
theorem e_neN {T : Tab} {t : TypeId} (a b : Nat) : effBin T .neq t (dI a) (dI b) = .set (dB (decide (a ≠ b))) := by
  show setLit (.bool (!((a : Int) == (b : Int)))) = _
  have : (!((a : Int) == (b : Int))) = decide (a ≠ b) := by
    rw [Bool.eq_iff_iff]; simp only [Bool.not_eq_true', beq_eq_false_iff_ne, ne_eq, decide_eq_true_eq]; omega
  rw [this]; rfl
theorem grL_succ (g : GR) (j k : Nat) : grL g j (k + 1) = if grS g j k = true then grL g j k ++ [k] else grL g j k := by
  unfold grL
  rw [List.range_succ, List.filter_append]
  by_cases h : grS g j k = true
  · rw [if_pos h]; simp [h]
  · rw [if_neg h]; simp [h]
theorem kN_le (n : Nat) (S : Nat → Bool) : kN n S ≤ n := by
  have := List.length_filter_le S (List.range n)
  rwa [List.length_range] at this
theorem grL_length (g : GR) (j k : Nat) : (grL g j k).length = kN k (grS g j) := rfl
def rowE (g : GR) (j v k : Nat) : List (List DC) := ((grL g j k).map fun w => qzW ((lapM g.links v w : Int) : Rat)).map RW.dc

set_option maxHeartbeats 1000000 in
theorem resistance_c (g : GR) (gv : GV g) (i j : Nat) (hi : i < g.nodes.length) (hj : j < g.nodes.length) :
    Con Try.prog 34 [AG g.cs, dI i, dI j] { v := .tup [.agg (rstV g i j).1.cs, .one (.d (lI (rstV g i j).2))] } := by
  have cP := gParts_c g
  have e0 : (partsV g).2 = 0 := by rw [partsV, if_pos (validB_iff.2 gv)]
  rw [dNs_nm g gv, e0] at cP
  have cL := gLap_c g
  have e1 : lapV g = (lapQ g.nodes.length (lapM g.links), 0) := by rw [lapV, if_pos (validB_iff.2 gv)]
  rw [e1] at cL
  have eM : lapQ g.nodes.length (lapM g.links) = matW g.nodes.length g.nodes.length (fun a b => qzW ((lapM g.links a b : Int) : Rat)) := rfl
  simp only [eM] at cL
  have cz := qOfI_c 0 ⟨by decide, by decide⟩
  have co := qOfI_c 1 ⟨by decide, by decide⟩
  have n16 := gv.n2
  refine con_intro (fn := Try.f34) tok Try.func34 (by kernel_rfl) rfl ?_
  intro w0 X
  rw [entry_mkE _ _ [(0, AG g.cs), (1, dI i), (2, dI j)] rfl rfl];refine AWP_reg_seq tok fun K hK => ?_;refine s_box rfl rfl rfl rfl rfl rfl ?_;refine s_alloc rfl rfl rfl rfl rfl rfl ?_;refine s_assign rfl rfl rfl ?_;refine s_end (hK _ ?_); clear hK K;refine AWP_reg_seq tok fun K hK => ?_;refine s_load rfl rfl rfl ?_;refine s_call rfl rfl (cP) rfl rfl rfl rfl ?_;refine s_move rfl rfl rfl ?_;refine s_extract rfl rfl rfl ?_;refine s_extract rfl rfl rfl ?_;refine s_assign rfl rfl rfl ?_;refine s_assign rfl rfl rfl ?_;refine s_end (hK _ ?_); clear hK K;refine AWP_seq ?_;refine a_draw tok mixed (A := [[], [], [], [0, 1], [], [], [], [4, 5], [0, 1, 2, 4, 5, 6]]) (an := [{}, {}, {}, {}, {}, {}, {}, {}, {}]) rfl (by kernel_rfl) rfl fun K hK => ?_;refine s_move rfl rfl rfl ?_;refine s_move rfl rfl rfl ?_;refine s_indexAddr rfl (x_n rfl rfl rfl rfl rfl hi) rfl ?_;refine s_load rfl rfl rfl ?_;refine s_move rfl rfl rfl ?_;refine s_move rfl rfl rfl ?_;refine s_indexAddr rfl (x_n rfl rfl rfl rfl rfl hj) rfl ?_;refine s_load rfl rfl rfl ?_;refine s_bin rfl (e_neN _ _) rfl ?_;refine s_end (hK _ ?_); clear hK K;refine a_cond rfl (fun hc => ?_) (fun hc => ?_)
  · have hc := of_decide_eq_true hc
    have e : rstV g i j = (rw00, 10) := by rw [rstV, if_neg hc]
    rw [e];refine AWP_reg_seq tok fun K hK => ?_;refine s_build rfl rfl rfl ?_;refine s_store rfl rfl rfl rfl rfl ?_;refine s_assign rfl rfl rfl ?_;refine s_end (hK _ ?_); clear hK K;refine AWP_ret ?_
    repeat (with_reducible refine tq_ret ?_)
    exact post_ret (fin_mk (by rfl) (by rfl) (by rfl))
  have hc : lab g i = lab g j := Classical.byContradiction fun h => of_decide_eq_false hc h
  have e : rstV g i j = (qzW (resQ g i j), 0) := by rw [rstV, if_pos hc]
  rw [e];refine AWP_skip ?_;show AWP _ _ _ _ _ _;refine AWP_seq ?_;refine AWP_reg_seq tok fun K hK => ?_;refine s_move rfl rfl rfl ?_;refine s_move rfl rfl rfl ?_;refine s_bin rfl (e_eqN _ _) rfl ?_;refine s_end (hK _ ?_); clear hK K;refine a_cond rfl (fun hd => ?_) (fun hd => ?_)
  · have hd := of_decide_eq_true hd
    have e : resQ g i j = 0 := if_pos hd
    rw [e];refine AWP_reg_seq tok fun K hK => ?_;refine s_call rfl rfl (cz) rfl rfl rfl rfl ?_;refine s_store rfl rfl rfl rfl rfl ?_;refine s_assign rfl rfl rfl ?_;refine s_end (hK _ ?_); clear hK K;refine AWP_ret ?_
    repeat (with_reducible refine tq_ret ?_)
    exact post_ret (fin_mk (by rfl) (by rfl) (by rfl))
  have hd : i ≠ j := of_decide_eq_false hd
  have R := res_all gv hi hj hd hc
  have eQ : resQ g i j = slv (matV (resM g j)) (rhsV (resD g i j)) (resK g j) (resA g i j) := if_neg hd
  have hKn : resK g j ≤ 16 := Nat.le_trans (kN_le _ _) n16
  refine AWP_skip ?_;show AWP _ _ _ _ _ _;refine AWP_reg_seq tok fun K hK => ?_;refine s_load rfl rfl rfl ?_;refine s_call rfl rfl (cL) rfl rfl rfl rfl ?_;refine s_move rfl rfl rfl ?_;refine s_extract rfl rfl rfl ?_;refine s_extract rfl rfl rfl ?_;refine s_assign rfl rfl rfl ?_;refine s_assign rfl rfl rfl ?_;refine s_end (hK _ ?_); clear hK K;refine AWP_reg_seq tok fun K hK => ?_;refine s_assign rfl rfl rfl ?_;refine s_end (hK _ ?_); clear hK K;refine AWP_reg_seq tok fun K hK => ?_;refine s_assign rfl rfl rfl ?_;refine s_end (hK _ ?_); clear hK K;refine AWP_seq ?_;refine AWP_reg_seq tok fun K hK => ?_;refine s_fieldAddr rfl rfl rfl ?_;refine s_load rfl rfl rfl ?_;refine s_blt rfl (len_m RW.dc rfl rfl) rfl ?_;refine s_move rfl rfl rfl ?_;refine s_end (hK _ ?_); clear hK K;generalize hM : (fun a b => qzW ((lapM g.links a b : Int) : Rat)) = F at *
  have hF : ∀ a b, F a b = qzW ((lapM g.links a b : Int) : Rat) := fun a b => by rw [← hM]
  refine AWP_block (a_loop (α := Nat) (fun v => mk 126 [(1, dI i), (2, dI j), (3, .ptr 3 0), (6, .ptr 6 0), (8, V1 (.sl (nmD g.nodes.length (lab g)))), (10, V1 (dMs (matW g.nodes.length g.nodes.length F))), (12, ownN 200 1 (kN v (grS g j))), (13, dI (if i < v then resA g i j else 0 : Nat)), (46, dI g.nodes.length), (47, dI v)] [(3, some (.box g.cs)), (6, some box0), (200, arrN 1 (((grL g j v).map (resRow g j)).map cM) (kN v (grS g j)))] []) (fun v => v ≤ g.nodes.length) (fun v => g.nodes.length - v) 0 ?_ (Nat.zero_le _) ?_)
  · exact Wk.mk' ⟨rfl, rfl, rfl, rfl, rfl, rfl, rfl, rfl, rfl, rfl, trivial⟩ ⟨rfl, rfl, rfl, trivial⟩
  intro v hv
  refine AWP_reg_seq tok fun K hK => ?_;refine s_bin rfl rfl rfl ?_;refine s_end (hK _ ?_); clear hK K;refine AWP_seq ?_;refine a_cond rfl (fun hg => ?_) (fun hg => ?_)
  · have hg : v < g.nodes.length := by simp at hg; omega
    have nk : kN v (grS g j) ≤ 16 := Nat.le_trans (kN_le _ _) (by omega)
    have hs := grL_succ g j v
    have z1 : (((grL g j v).map (resRow g j)).map cM).length = kN v (grS g j) := by rw [List.length_map, List.length_map, grL_length]
    have hkl := grL_length g j (v + 1)
    have hkl0 := grL_length g j v
    refine AWP_skip ?_;show AWP _ _ _ _ _ _;refine AWP_seq ?_;refine AWP_block ?_;refine AWP_reg_seq tok fun K hK => ?_;refine s_move rfl rfl rfl ?_;refine s_assign rfl rfl rfl ?_;refine s_end (hK _ ?_); clear hK K;refine AWP_seq ?_;refine a_join (α := Bool) (fun c => mk 126 [(1, dI i), (2, dI j), (3, .ptr 3 0), (6, .ptr 6 0), (8, V1 (.sl (nmD g.nodes.length (lab g)))), (10, V1 (dMs (matW g.nodes.length g.nodes.length F))), (12, ownN 200 1 (kN v (grS g j))), (13, dI (if i < v then resA g i j else 0 : Nat)), (14, dI v), (46, dI g.nodes.length), (47, dI v), (63, dB c)] [(3, some (.box g.cs)), (6, some box0), (200, arrN 1 (((grL g j v).map (resRow g j)).map cM) (kN v (grS g j)))] []) (fun c => c = !(grS g j v)) ?_ ?_
    · have P1 : decide (v = j) = true → true = !(grS g j v) := fun h => by have := of_decide_eq_true h; simp [grS, this]
      have P2 : decide (v = j) = false → decide (lab g v ≠ lab g j) = !(grS g j v) := fun h => by
        have := of_decide_eq_false h
        rw [Bool.eq_iff_iff]; simp [grS, this]
      refine a_draw1 tok mixed (A := [[], [], [], [0, 1], [0, 1, 2], [0, 1, 2], [0, 1, 2], [0, 1, 2, 4, 5], [0, 1, 2], [0, 1, 2], [0, 1, 2], [0, 1, 2, 8, 9], [0, 1, 2, 4, 5, 6, 8, 9, 10], [0, 1, 2, 4, 5, 6, 7, 8, 9, 10, 11]]) (an := [{}, {}, {}, {}, {}, {}, {}, {}, {}, {}, {}, {}, {}, {}]) rfl (by kernel_rfl) rfl fun K hK => ?_;refine s_move rfl rfl rfl ?_;refine s_move rfl rfl rfl ?_;refine s_bin rfl (e_eqN _ _) rfl ?_;refine s_move rfl rfl rfl ?_;refine s_split (fun h0 => ?_) (fun h0 => ?_)
      · refine s_skip rfl ?_;refine s_skip rfl ?_;refine s_skip rfl ?_;refine s_skip rfl ?_;refine s_skip rfl ?_;refine s_skip rfl ?_;refine s_skip rfl ?_;refine s_skip rfl ?_;refine s_skip rfl ?_;refine s_pick rfl rfl rfl ?_;refine s_end (hK _ ?_); clear hK K;exact ⟨_, (by first|exact P1 h0|exact P2 h0), Wk.mk' ⟨rfl, rfl, rfl, rfl, rfl, rfl, rfl, rfl, rfl, rfl, rfl, rfl, trivial⟩ ⟨rfl, rfl, rfl, trivial⟩⟩
      · refine s_move rfl rfl rfl ?_;refine s_move rfl rfl rfl ?_;refine s_indexAddr rfl (x_n rfl rfl rfl rfl rfl hg) rfl ?_;refine s_load rfl rfl rfl ?_;refine s_move rfl rfl rfl ?_;refine s_move rfl rfl rfl ?_;refine s_indexAddr rfl (x_n rfl rfl rfl rfl rfl hj) rfl ?_;refine s_load rfl rfl rfl ?_;refine s_bin rfl (e_neN _ _) rfl ?_;refine s_pick rfl rfl rfl ?_;refine s_end (hK _ ?_); clear hK K;exact ⟨_, (by first|exact P1 h0|exact P2 h0), Wk.mk' ⟨rfl, rfl, rfl, rfl, rfl, rfl, rfl, rfl, rfl, rfl, rfl, rfl, trivial⟩ ⟨rfl, rfl, rfl, trivial⟩⟩
    rintro c rfl
    refine a_cond rfl (fun hx => ?_) (fun hx => ?_)
    · have hx : ¬ grS g j v = true := by simpa using hx
      have hiv : i ≠ v := fun e => hx (by rw [← e]; exact grS_iff.2 ⟨hc, hd⟩)
      rw [if_neg hx] at hs;refine AWP_exit ?_;show AWP _ _ _ _ _ _;refine AWP_reg tok fun K hK => ?_;refine s_bin rfl (e_add (c := ((v + 1 : Nat) : Int)) (by omega) (by omega)) rfl ?_;refine s_move rfl rfl rfl ?_;refine s_end (hK _ ?_); clear hK K
      have ek : kN (v + 1) (grS g j) = kN v (grS g j) := by rw [← hkl, ← hkl0, hs]
      refine ⟨v + 1, by omega, hg, ?_⟩;rw [hs, ek]
      have ei : (if i < v + 1 then resA g i j else 0) = (if i < v then resA g i j else 0) := by
        by_cases h : i < v
        · rw [if_pos h, if_pos (by omega)]
        · rw [if_neg h, if_neg (by omega)]
      rw [ei];exact Wk.mk' ⟨rfl, rfl, rfl, rfl, rfl, rfl, rfl, rfl, rfl, rfl, trivial⟩ ⟨rfl, rfl, rfl, trivial⟩
    have hx : grS g j v = true := by simpa using hx
    rw [if_pos hx] at hs
    have ek : kN (v + 1) (grS g j) = kN v (grS g j) + 1 := by rw [← hkl, ← hkl0, hs, List.length_append]; rfl
    have n1 : ((grL g j v).map (resRow g j)).map cM ++ [cM (resRow g j v)] = ((grL g j (v + 1)).map (resRow g j)).map cM := by rw [hs, List.map_append, List.map_append]; rfl
    have ra : v = i → kN v (grS g j) = resA g i j := fun e => by rw [e]; rfl
    have hKp : 0 < kN g.nodes.length (grS g j) := Nat.lt_of_le_of_lt (Nat.zero_le _) (vL_at hg hx).1
    generalize ((grL g j v).map (resRow g j)).map cM = es at n1 z1 ⊢
    obtain ⟨a, ha⟩ : ∃ a, a = kN v (grS g j) := ⟨_, rfl⟩
    rw [← ha] at z1 ek ra nk ⊢;refine AWP_skip ?_;show AWP _ _ _ _ _ _;refine a_join (α := Unit) (fun _ => mk 126 [(1, dI i), (2, dI j), (3, .ptr 3 0), (6, .ptr 6 0), (8, V1 (.sl (nmD g.nodes.length (lab g)))), (10, V1 (dMs (matW g.nodes.length g.nodes.length F))), (12, ownN 200 1 a), (13, dI (if i < v + 1 then resA g i j else 0 : Nat)), (14, dI v), (46, dI g.nodes.length), (47, dI v)] [(3, some (.box g.cs)), (6, some box0), (200, arrN 1 es a)] []) (fun _ => True) ?_ ?_
    · refine AWP_reg_seq tok fun K hK => ?_;refine s_move rfl rfl rfl ?_;refine s_move rfl rfl rfl ?_;refine s_bin rfl (e_eqN _ _) rfl ?_;refine s_end (hK _ ?_); clear hK K;refine a_cond rfl (fun hy => ?_) (fun hy => ?_)
      · have hy := of_decide_eq_true hy
        rw [if_pos (show i < v + 1 by omega), ← ra hy]
        rcases a with _ | a
        · refine AWP_reg tok fun K hK => ?_;refine s_move rfl rfl rfl ?_;refine s_blt rfl rfl rfl ?_;refine s_assign rfl rfl rfl ?_;refine s_end (hK _ ?_); clear hK K;exact ⟨(), trivial, Wk.mk' ⟨rfl, rfl, rfl, rfl, rfl, rfl, rfl, rfl, rfl, rfl, rfl, trivial⟩ ⟨rfl, rfl, rfl, trivial⟩⟩
        · refine AWP_reg tok fun K hK => ?_;refine s_move rfl rfl rfl ?_;refine s_blt rfl rfl rfl ?_;refine s_assign rfl rfl rfl ?_;refine s_end (hK _ ?_); clear hK K;exact ⟨(), trivial, Wk.mk' ⟨rfl, rfl, rfl, rfl, rfl, rfl, rfl, rfl, rfl, rfl, rfl, trivial⟩ ⟨rfl, rfl, rfl, trivial⟩⟩
      · have hy := of_decide_eq_false hy
        refine AWP_skip ?_
        have ei : (if i < v + 1 then resA g i j else 0) = (if i < v then resA g i j else 0) := by
          by_cases h : i < v
          · rw [if_pos h, if_pos (by omega)]
          · rw [if_neg h, if_neg (by omega)]
        rw [ei];exact ⟨(), trivial, Wk.mk' ⟨rfl, rfl, rfl, rfl, rfl, rfl, rfl, rfl, rfl, rfl, rfl, trivial⟩ ⟨rfl, rfl, rfl, trivial⟩⟩
    rintro - -
    refine AWP_reg_seq tok fun K hK => ?_;refine s_assign rfl rfl rfl ?_;refine s_end (hK _ ?_); clear hK K;refine AWP_seq ?_;refine AWP_reg_seq tok fun K hK => ?_;refine s_fieldAddr rfl rfl rfl ?_;refine s_load rfl rfl rfl ?_;refine s_blt rfl (len_m RW.dc rfl rfl) rfl ?_;refine s_move rfl rfl rfl ?_;refine s_end (hK _ ?_); clear hK K;refine AWP_block (a_loop (α := Nat) (fun w => mk 126 [(1, dI i), (2, dI j), (3, .ptr 3 0), (6, .ptr 6 0), (8, V1 (.sl (nmD g.nodes.length (lab g)))), (10, V1 (dMs (matW g.nodes.length g.nodes.length F))), (12, ownN 200 1 a), (13, dI (if i < v + 1 then resA g i j else 0 : Nat)), (14, dI v), (15, ownN 201 4 (kN w (grS g j))), (46, dI g.nodes.length), (47, dI v), (71, dI g.nodes.length), (72, dI w)] [(3, some (.box g.cs)), (6, some box0), (200, arrN 1 es a), (201, arrN 4 (rowE g j v w) (kN w (grS g j)))] []) (fun w => w ≤ g.nodes.length) (fun w => g.nodes.length - w) 0 ?_ (Nat.zero_le _) ?_)
    · exact Wk.mk' ⟨rfl, rfl, rfl, rfl, rfl, rfl, rfl, rfl, rfl, rfl, rfl, rfl, rfl, rfl, trivial⟩ ⟨rfl, rfl, rfl, rfl, trivial⟩
    intro w hw
    refine AWP_reg_seq tok fun K hK => ?_;refine s_bin rfl rfl rfl ?_;refine s_end (hK _ ?_); clear hK K;refine AWP_seq ?_;refine a_cond rfl (fun hy => ?_) (fun hy => ?_)
    · have hy : w < g.nodes.length := by simp at hy; omega
      have nkw : kN w (grS g j) ≤ 16 := Nat.le_trans (kN_le _ _) (by omega)
      have hsw := grL_succ g j w
      have zw : (rowE g j v w).length = kN w (grS g j) := by unfold rowE; rw [List.length_map, List.length_map, grL_length]
      have hklw := grL_length g j (w + 1)
      have hklw0 := grL_length g j w
      refine AWP_skip ?_;show AWP _ _ _ _ _ _;refine AWP_seq ?_;refine AWP_block ?_;refine AWP_reg_seq tok fun K hK => ?_;refine s_move rfl rfl rfl ?_;refine s_assign rfl rfl rfl ?_;refine s_end (hK _ ?_); clear hK K;refine a_join (α := Bool) (fun c => mk 126 [(1, dI i), (2, dI j), (3, .ptr 3 0), (6, .ptr 6 0), (8, V1 (.sl (nmD g.nodes.length (lab g)))), (10, V1 (dMs (matW g.nodes.length g.nodes.length F))), (12, ownN 200 1 a), (13, dI (if i < v + 1 then resA g i j else 0 : Nat)), (14, dI v), (15, ownN 201 4 (kN w (grS g j))), (16, dI w), (46, dI g.nodes.length), (47, dI v), (71, dI g.nodes.length), (72, dI w), (88, dB c)] [(3, some (.box g.cs)), (6, some box0), (200, arrN 1 es a), (201, arrN 4 (rowE g j v w) (kN w (grS g j)))] []) (fun c => c = grS g j w) ?_ ?_
      · have P1 : decide (w ≠ j) = true → decide (lab g w = lab g j) = grS g j w := fun h => by
          have := of_decide_eq_true h
          rw [Bool.eq_iff_iff]; simp [grS, this]
        have P2 : decide (w ≠ j) = false → false = grS g j w := fun h => by
          have : w = j := Classical.byContradiction (of_decide_eq_false h)
          simp [grS, this]
        refine a_draw1 tok mixed (A := [[], [], [], [0, 1], [0, 1, 2], [0, 1, 2], [0, 1, 2], [0, 1, 2, 4, 5], [0, 1, 2], [0, 1, 2], [0, 1, 2], [0, 1, 2, 8, 9], [0, 1, 2, 4, 5, 6, 8, 9, 10], [0, 1, 2, 4, 5, 6, 7, 8, 9, 10, 11]]) (an := [{}, {}, {}, {}, {}, {}, {}, {}, {}, {}, {}, {}, {}, {}]) rfl (by kernel_rfl) rfl fun K hK => ?_;refine s_move rfl rfl rfl ?_;refine s_move rfl rfl rfl ?_;refine s_bin rfl (e_neN _ _) rfl ?_;refine s_move rfl rfl rfl ?_;refine s_split (fun h0 => ?_) (fun h0 => ?_)
        · refine s_move rfl rfl rfl ?_;refine s_move rfl rfl rfl ?_;refine s_indexAddr rfl (x_n rfl rfl rfl rfl rfl hy) rfl ?_;refine s_load rfl rfl rfl ?_;refine s_move rfl rfl rfl ?_;refine s_move rfl rfl rfl ?_;refine s_indexAddr rfl (x_n rfl rfl rfl rfl rfl hj) rfl ?_;refine s_load rfl rfl rfl ?_;refine s_bin rfl (e_eqN _ _) rfl ?_;refine s_pick rfl rfl rfl ?_;refine s_end (hK _ ?_); clear hK K;exact ⟨_, (by first|exact P1 h0|exact P2 h0), Wk.mk' ⟨rfl, rfl, rfl, rfl, rfl, rfl, rfl, rfl, rfl, rfl, rfl, rfl, rfl, rfl, rfl, rfl, trivial⟩ ⟨rfl, rfl, rfl, rfl, trivial⟩⟩
        · refine s_skip rfl ?_;refine s_skip rfl ?_;refine s_skip rfl ?_;refine s_skip rfl ?_;refine s_skip rfl ?_;refine s_skip rfl ?_;refine s_skip rfl ?_;refine s_skip rfl ?_;refine s_skip rfl ?_;refine s_pick rfl rfl rfl ?_;refine s_end (hK _ ?_); clear hK K;exact ⟨_, (by first|exact P1 h0|exact P2 h0), Wk.mk' ⟨rfl, rfl, rfl, rfl, rfl, rfl, rfl, rfl, rfl, rfl, rfl, rfl, rfl, rfl, rfl, rfl, trivial⟩ ⟨rfl, rfl, rfl, rfl, trivial⟩⟩
      rintro c rfl
      refine a_cond rfl (fun hz => ?_) (fun hz => ?_)
      · rw [if_pos hz] at hsw
        have ekw : kN (w + 1) (grS g j) = kN w (grS g j) + 1 := by rw [← hklw, ← hklw0, hsw, List.length_append]; rfl
        have nw : rowE g j v w ++ [(qzW ((lapM g.links v w : Int) : Rat)).dc] = rowE g j v (w + 1) := by unfold rowE; rw [hsw, List.map_append, List.map_append]; rfl
        rw [← hF] at nw;generalize rowE g j v w = rs at nw zw ⊢
        obtain ⟨b, hb⟩ : ∃ b, b = kN w (grS g j) := ⟨_, rfl⟩
        rw [← hb] at zw ekw nkw ⊢
        rcases b with _ | b
        · refine AWP_reg tok fun K hK => ?_;refine s_move rfl rfl rfl ?_;refine s_move rfl rfl rfl ?_;refine s_move rfl rfl rfl ?_;refine s_indexAddr rfl (x_mt rfl rfl rfl rfl rfl hg) rfl ?_;refine s_load rfl rfl rfl ?_;refine s_move rfl rfl rfl ?_;refine s_indexAddr rfl (x_v rfl rfl rfl rfl rfl hy) rfl ?_;refine s_load rfl rfl rfl ?_;refine s_buildSlice rfl rfl (by rcases a with _|a <;> rfl) rfl ?_;refine s_append rfl (ap_nil rfl rfl rfl rfl rfl (by decide) (Nat.le_of_ble_eq_true rfl) rfl (by simp) rfl (by simp) (by simp)) (by rcases a with _|a <;> rfl) rfl rfl ?_;refine s_assign rfl rfl rfl ?_;refine s_end (hK _ ?_); clear hK K;show AWP _ _ _ _ _ _;refine AWP_reg tok fun K hK => ?_;refine s_bin rfl (e_add (c := ((w + 1 : Nat) : Int)) (by omega) (by omega)) rfl ?_;refine s_move rfl rfl rfl ?_;refine s_end (hK _ ?_); clear hK K;refine ⟨w + 1, by omega, hy, ?_⟩;rw [ekw];refine Wk.rn [1, 2, 3, 6, 8, 10, 12, 13, 14, 15, 46, 47, 71, 72] [3, 6, 200, 98] 98 201 rfl rfl (by rcases a with _|a <;> rfl) ⟨rfl, rfl, rfl, rfl, rfl, rfl, (by rcases a with _|a <;> rfl), rfl, rfl, ?_, rfl, rfl, rfl, rfl, trivial⟩ ⟨rfl, rfl, (by rcases a with _|a <;> rfl), ?_, trivial⟩
          · first
              | rfl
              | (show SV.val (.one (.own 201 4 0 _)) = _
                 rw [List.length_append, zw]; rfl)
          · first
              | (rw [← nw, List.length_eq_zero_iff.1 zw]; rfl)
              | (rw [← nw]; rfl)
        · refine AWP_reg tok fun K hK => ?_;refine s_move rfl rfl rfl ?_;refine s_move rfl rfl rfl ?_;refine s_move rfl rfl rfl ?_;refine s_indexAddr rfl (x_mt rfl rfl rfl rfl rfl hg) rfl ?_;refine s_load rfl rfl rfl ?_;refine s_move rfl rfl rfl ?_;refine s_indexAddr rfl (x_v rfl rfl rfl rfl rfl hy) rfl ?_;refine s_load rfl rfl rfl ?_;refine s_buildSlice rfl rfl (by rcases a with _|a <;> rfl) rfl ?_;refine s_append rfl (ap_o rfl rfl rfl rfl rfl rfl (by decide) (Nat.le_of_ble_eq_true rfl) rfl (by simp) rfl rfl zw.symm (by simp <;> omega)) (by rcases a with _|a <;> rfl) rfl rfl ?_;refine s_assign rfl rfl rfl ?_;refine s_end (hK _ ?_); clear hK K;show AWP _ _ _ _ _ _;refine AWP_reg tok fun K hK => ?_;refine s_bin rfl (e_add (c := ((w + 1 : Nat) : Int)) (by omega) (by omega)) rfl ?_;refine s_move rfl rfl rfl ?_;refine s_end (hK _ ?_); clear hK K;refine ⟨w + 1, by omega, hy, ?_⟩;rw [ekw];refine Wk.rn [1, 2, 3, 6, 8, 10, 12, 13, 14, 15, 46, 47, 71, 72] [3, 6, 200, 98] 98 201 rfl rfl (by rcases a with _|a <;> rfl) ⟨rfl, rfl, rfl, rfl, rfl, rfl, (by rcases a with _|a <;> rfl), rfl, rfl, ?_, rfl, rfl, rfl, rfl, trivial⟩ ⟨rfl, rfl, (by rcases a with _|a <;> rfl), ?_, trivial⟩
          · first
              | rfl
              | (show SV.val (.one (.own 201 4 0 _)) = _
                 rw [List.length_append, zw]; rfl)
          · first
              | (rw [← nw, List.length_eq_zero_iff.1 zw]; rfl)
              | (rw [← nw]; rfl)
      · have hz : ¬ grS g j w = true := by simp [hz]
        rw [if_neg hz] at hsw
        have ekw : kN (w + 1) (grS g j) = kN w (grS g j) := by rw [← hklw, ← hklw0, hsw]
        have nw : rowE g j v (w + 1) = rowE g j v w := by unfold rowE; rw [hsw]
        refine AWP_skip ?_;show AWP _ _ _ _ _ _;refine AWP_reg tok fun K hK => ?_;refine s_bin rfl (e_add (c := ((w + 1 : Nat) : Int)) (by omega) (by omega)) rfl ?_;refine s_move rfl rfl rfl ?_;refine s_end (hK _ ?_); clear hK K;refine ⟨w + 1, by omega, hy, ?_⟩;rw [ekw, nw];exact Wk.mk' ⟨rfl, rfl, rfl, rfl, rfl, rfl, rfl, rfl, rfl, rfl, rfl, rfl, rfl, rfl, trivial⟩ ⟨rfl, rfl, rfl, rfl, trivial⟩
    have hy : w = g.nodes.length := by simp at hy; omega
    subst hy
    refine AWP_exit ?_;show AWP _ _ _ _ _ _
    obtain ⟨q, hq⟩ : ∃ q, kN g.nodes.length (grS g j) = q + 1 := ⟨kN g.nodes.length (grS g j) - 1, by omega⟩
    have zn : (resRow g j v).length = q + 1 := by unfold resRow; rw [List.length_map, grL_length, hq]
    rw [hq]
    rcases a with _ | a
    · refine a_fz [1, 2, 3, 6, 8, 10, 12, 13, 15, 46, 47] [3, 6, 200, 201] 201 [(1, dI i), (2, dI j), (3, .ptr 3 0), (6, .ptr 6 0), (8, V1 (.sl (nmD g.nodes.length (lab g)))), (10, V1 (dMs (matW g.nodes.length g.nodes.length F))), (12, ownN 200 1 (0)), (13, dI (if i < v + 1 then resA g i j else 0 : Nat)), (15, V1 (dRs (resRow g j v))), (46, dI g.nodes.length), (47, dI v)] [(3, some (.box g.cs)), (6, some box0), (200, arrN 1 es (0))] rfl ?_ ⟨rfl, rfl, rfl, trivial⟩ ?_
      · exact ⟨rfl, rfl, rfl, rfl, rfl, rfl, rfl, rfl, frz_own rfl (by rw [List.length_map, zn]), rfl, rfl, trivial⟩
      refine AWP_reg tok fun K hK => ?_;refine s_move rfl rfl rfl ?_;refine s_move rfl rfl rfl ?_;refine s_buildSlice rfl rfl rfl rfl ?_;refine s_append rfl (ap_nil rfl rfl rfl rfl rfl (by decide) (Nat.le_of_ble_eq_true rfl) rfl (by simp) rfl (by simp) (by simp)) rfl rfl rfl ?_;refine s_assign rfl rfl rfl ?_;refine s_end (hK _ ?_); clear hK K;show AWP _ _ _ _ _ _;refine AWP_reg tok fun K hK => ?_;refine s_bin rfl (e_add (c := ((v + 1 : Nat) : Int)) (by omega) (by omega)) rfl ?_;refine s_move rfl rfl rfl ?_;refine s_end (hK _ ?_); clear hK K;refine ⟨v + 1, by omega, hg, ?_⟩;rw [ek];refine Wk.rn [1, 2, 3, 6, 8, 10, 12, 13, 46, 47] [3, 6, 103] 103 200 rfl rfl rfl ⟨rfl, rfl, rfl, rfl, rfl, rfl, ?_, rfl, rfl, rfl, trivial⟩ ⟨rfl, rfl, ?_, trivial⟩
      · first
          | rfl
          | (show SV.val (.one (.own 200 1 0 _)) = _
             rw [List.length_append, z1]; rfl)
      · first
          | (rw [← n1, List.length_eq_zero_iff.1 z1]; rfl)
          | (rw [← n1]; rfl)
    · refine a_fz [1, 2, 3, 6, 8, 10, 12, 13, 15, 46, 47] [3, 6, 200, 201] 201 [(1, dI i), (2, dI j), (3, .ptr 3 0), (6, .ptr 6 0), (8, V1 (.sl (nmD g.nodes.length (lab g)))), (10, V1 (dMs (matW g.nodes.length g.nodes.length F))), (12, ownN 200 1 (a + 1)), (13, dI (if i < v + 1 then resA g i j else 0 : Nat)), (15, V1 (dRs (resRow g j v))), (46, dI g.nodes.length), (47, dI v)] [(3, some (.box g.cs)), (6, some box0), (200, arrN 1 es (a + 1))] rfl ?_ ⟨rfl, rfl, rfl, trivial⟩ ?_
      · exact ⟨rfl, rfl, rfl, rfl, rfl, rfl, rfl, rfl, frz_own rfl (by rw [List.length_map, zn]), rfl, rfl, trivial⟩
      refine AWP_reg tok fun K hK => ?_;refine s_move rfl rfl rfl ?_;refine s_move rfl rfl rfl ?_;refine s_buildSlice rfl rfl rfl rfl ?_;refine s_append rfl (ap_o rfl rfl rfl rfl rfl rfl (by decide) (Nat.le_of_ble_eq_true rfl) rfl (by simp) rfl rfl z1.symm (by simp <;> omega)) rfl rfl rfl ?_;refine s_assign rfl rfl rfl ?_;refine s_end (hK _ ?_); clear hK K;show AWP _ _ _ _ _ _;refine AWP_reg tok fun K hK => ?_;refine s_bin rfl (e_add (c := ((v + 1 : Nat) : Int)) (by omega) (by omega)) rfl ?_;refine s_move rfl rfl rfl ?_;refine s_end (hK _ ?_); clear hK K;refine ⟨v + 1, by omega, hg, ?_⟩;rw [ek];refine Wk.rn [1, 2, 3, 6, 8, 10, 12, 13, 46, 47] [3, 6, 103] 103 200 rfl rfl rfl ⟨rfl, rfl, rfl, rfl, rfl, rfl, ?_, rfl, rfl, rfl, trivial⟩ ⟨rfl, rfl, ?_, trivial⟩
      · first
          | rfl
          | (show SV.val (.one (.own 200 1 0 _)) = _
             rw [List.length_append, z1]; rfl)
      · first
          | (rw [← n1, List.length_eq_zero_iff.1 z1]; rfl)
          | (rw [← n1]; rfl)
  have hg : v = g.nodes.length := by simp at hg; omega
  subst hg
  refine AWP_exit ?_;show AWP _ _ _ _ _ _;rw [if_pos hi]
  have hat := R.at_
  obtain ⟨q, hq⟩ : ∃ q, resK g j = q + 1 := ⟨resK g j - 1, by omega⟩
  have hq' : kN g.nodes.length (grS g j) = q + 1 := hq
  rw [hq'];refine a_fz [3, 6, 12, 13] [3, 6, 200] 200 [(3, .ptr 3 0), (6, .ptr 6 0), (12, V1 (dMs (resM g j))), (13, dI (resA g i j))] [(3, some (.box g.cs)), (6, some box0)] rfl ?_ ⟨rfl, rfl, trivial⟩ ?_
  · exact ⟨rfl, rfl, frz_own rfl (by rw [List.length_map]; exact (resM_length g j).symm ▸ hq.symm), rfl, trivial⟩
  refine AWP_reg_seq tok fun K hK => ?_;refine s_move rfl rfl rfl ?_;refine s_blt rfl (len_d (n := q + 1) rfl rfl (by rw [List.length_map, resM_length, hq])) rfl ?_;refine s_callN rfl rfl (zeros_c (q + 1) (by omega)) (Or.inl rfl) rfl rfl rfl rfl ?_;refine s_assign rfl rfl rfl ?_;refine s_end (hK _ ?_); clear hK K;refine AWP_reg_seq tok fun K hK => ?_;refine s_move rfl rfl rfl ?_;refine s_move rfl rfl rfl ?_;refine s_call rfl rfl (co) rfl rfl rfl rfl ?_;refine s_indexAddr rfl (x_o (i := resA g i j) (j := resA g i j) rfl rfl rfl rfl rfl (by omega) (Nat.zero_add _)) rfl ?_;refine s_store rfl (st_q (qzW 1) rfl rfl rfl (by omega)) rfl rfl rfl ?_;refine s_end (hK _ ?_); clear hK K
  have hside : rowD (q + 1) (updW (fun _ => qzW 0) (resA g i j) (qzW 1)) = (resD g i j).map RW.dc := by unfold resD; rw [hq, vec_dc]; rfl
  refine a_fz [3, 6, 12, 13, 17] [3, 6, 107] 107 [(3, .ptr 3 0), (6, .ptr 6 0), (12, V1 (dMs (resM g j))), (13, dI (resA g i j)), (17, V1 (dRs (resD g i j)))] [(3, some (.box g.cs)), (6, some box0)] rfl ?_ ⟨rfl, rfl, trivial⟩ ?_
  · exact ⟨rfl, rfl, rfl, rfl, frz_own hside (by rw [List.length_map]; unfold resD; rw [vecW_length, hq]), trivial⟩
  have hml := resM_length g j
  have hdl : (resD g i j).length = resK g j := by unfold resD; rw [vecW_length]
  have cs := sSolve_c (resM g j) (resD g i j) (by omega) (by omega) (fun r hr => by
      obtain ⟨v, _, rfl⟩ := List.mem_map.1 hr
      show (resRow g j v).length ≤ _
      unfold resRow; rw [List.length_map, grL_length]; have := kN_le g.nodes.length (grS g j); omega) R.ok (fun x hx => by
      obtain ⟨t, _, rfl⟩ := List.mem_map.1 hx
      split
      · exact qzW_ok (by decide)
      · exact qzW_ok (by decide)) (fun _ _ => by rw [hml]; exact ⟨R.fac, fun _ => R.sol⟩)
  have es : solveV (resM g j) (resD g i j) = (slvL (matV (resM g j)) (rhsV (resD g i j)) (resK g j), 0) := by
    rw [solveV, if_pos ⟨R.val, hdl.trans hml.symm⟩, hml, if_pos R.pos]
  rw [es] at cs;simp only [slvL] at cs;refine AWP_reg_seq tok fun K hK => ?_;refine s_move rfl rfl rfl ?_;refine s_move rfl rfl rfl ?_;refine s_call rfl rfl (cs) rfl rfl rfl rfl ?_;refine s_move rfl rfl rfl ?_;refine s_extract rfl rfl rfl ?_;refine s_extract rfl rfl rfl ?_;refine s_assign rfl rfl rfl ?_;refine s_assign rfl rfl rfl ?_;refine s_end (hK _ ?_); clear hK K;refine AWP_seq ?_;refine AWP_reg_seq tok fun K hK => ?_;refine s_move rfl rfl rfl ?_;refine s_bin rfl rfl rfl ?_;refine s_end (hK _ ?_); clear hK K;refine a_cond rfl (fun h => by cases h) (fun _ => ?_);refine AWP_skip ?_;show AWP _ _ _ _ _ _;refine AWP_reg_seq tok fun K hK => ?_;refine s_move rfl rfl rfl ?_;refine s_move rfl rfl rfl ?_;refine s_indexAddr rfl (x_v rfl rfl rfl rfl rfl hat) rfl ?_;refine s_load rfl rfl rfl ?_;refine s_store rfl rfl rfl rfl rfl ?_;refine s_assign rfl rfl rfl ?_;refine s_end (hK _ ?_); clear hK K;rw [← eQ];refine AWP_ret ?_
  repeat (with_reducible refine tq_ret ?_)
  exact post_ret (fin_mk (by rfl) (by rfl) (by rfl))
end Go.Proofs.Ytgopibpkgmafiaa

/- Resistance, Leverage, All, Trees. No condition. -/
namespace Go.Proofs.Ytgopibpkgmafiaa
attribute [local irreducible] lexA

theorem resQ_ql {g : GR} (gv : GV g) {i j : Nat} (hi : i < g.nodes.length) (hj : j < g.nodes.length) (hl : lab g i = lab g j) : ql (resQ g i j) ≤ 65536 := by
  by_cases e : i = j
  · have : resQ g i j = 0 := if_pos e
    rw [this]; decide
  · exact (res_all gv hi hj e hl).bnd
theorem res_isR {g : GR} (gv : GV g) {i j : Nat} (hi : i < g.nodes.length) (hj : j < g.nodes.length) (hl : lab g i = lab g j) : IsR g.nodes.length (wls g.links) i j (resQ g i j) := by
  by_cases e : i = j
  · have : resQ g i j = 0 := if_pos e
    rw [this, ← e]; exact IsR.same
  · exact (res_all gv hi hj e hl).res
/-- What Resistance answers. -/
def resistV (g : GR) (i j : Int) : RW × Int :=
  if validB g = true then (if 0 ≤ i ∧ i < (g.nodes.length : Int) ∧ 0 ≤ j ∧ j < (g.nodes.length : Int) then rstV g i.toNat j.toNat else (rw00, 2)) else (rw00, 1)
theorem gResist_c (g : GR) (i j : Int) : Con Try.prog 11 [AG g.cs, dI i, dI j] { v := .tup [.agg (resistV g i j).1.cs, .one (.d (lI (resistV g i j).2))] } := by
  refine con_intro (fn := Try.f11) tok Try.func11 (by kernel_rfl) rfl ?_
  intro w0 X
  rw [entry_mkE _ _ [(0, AG g.cs), (1, dI i), (2, dI j)] rfl rfl];refine AWP_reg_seq tok fun K hK => ?_;refine s_box rfl rfl rfl rfl rfl rfl ?_;refine s_alloc rfl rfl rfl rfl rfl rfl ?_;refine s_assign rfl rfl rfl ?_;refine s_end (hK _ ?_); clear hK K;refine AWP_seq ?_;refine AWP_reg_seq tok fun K hK => ?_;refine s_load rfl rfl rfl ?_;refine s_call rfl rfl (gValid_c g) rfl rfl rfl rfl ?_;refine s_un rfl rfl rfl ?_;refine s_end (hK _ ?_); clear hK K;refine a_cond rfl (fun hc => ?_) (fun hc => ?_)
  · rw [Bool.not_eq_true'] at hc
    have e : resistV g i j = (rw00, 1) := by rw [resistV, if_neg (by rw [hc]; simp)]
    rw [e];refine AWP_reg_seq tok fun K hK => ?_;refine s_build rfl rfl rfl ?_;refine s_store rfl rfl rfl rfl rfl ?_;refine s_assign rfl rfl rfl ?_;refine s_end (hK _ ?_); clear hK K;refine AWP_ret ?_
    repeat (with_reducible refine tq_ret ?_)
    exact post_ret (fin_mk (by rfl) (by rfl) (by rfl))
  rw [Bool.not_eq_false'] at hc;rw [resistV, if_pos hc];refine AWP_skip ?_;show AWP _ _ _ _ _ _;refine AWP_seq ?_;refine a_join (α := Bool) (fun c => mk 39 [(1, dI i), (2, dI j), (3, .ptr 3 0), (6, .ptr 6 0), (31, dB c)] [(3, some (.box g.cs)), (6, some box0)] []) (fun c => c = !decide (0 ≤ i ∧ i < (g.nodes.length : Int) ∧ 0 ≤ j ∧ j < (g.nodes.length : Int))) ?_ ?_
  · refine AWP_regW fun K hK => ?_;refine w_step tok rfl ?_;refine s_move rfl rfl rfl ?_;refine s_end ?_;refine w_step tok rfl ?_;refine s_bin rfl rfl rfl ?_;refine s_end ?_;refine w_step tok rfl ?_;refine s_move rfl rfl rfl ?_;refine s_end ?_;refine w_split (fun h0 => ?_) (fun h0 => ?_)
    · refine w_skip rfl rfl ?_;refine w_skip rfl rfl ?_;refine w_skip rfl rfl ?_;refine w_skip rfl rfl ?_;refine w_skip rfl rfl ?_;refine w_step tok rfl ?_;refine s_pick rfl rfl rfl ?_;refine s_end ?_;refine w_step tok rfl ?_;refine s_move rfl rfl rfl ?_;refine s_end ?_;refine w_skip rfl rfl ?_;refine w_skip rfl rfl ?_;refine w_step tok rfl ?_;refine s_pick rfl rfl rfl ?_;refine s_end ?_;refine w_step tok rfl ?_;refine s_move rfl rfl rfl ?_;refine s_end ?_;refine w_skip rfl rfl ?_;refine w_skip rfl rfl ?_;refine w_skip rfl rfl ?_;refine w_skip rfl rfl ?_;refine w_skip rfl rfl ?_;refine w_step tok rfl ?_;refine s_pick rfl rfl rfl ?_;refine s_end ?_;refine w_end rfl (hK _ ?_); clear hK K;exact ⟨_, (by simp only [decide_eq_true_eq, decide_eq_false_iff_not, Int.not_lt, ge_iff_le, Int.not_le] at h0; rw [Bool.eq_iff_iff]; simp only [Bool.not_eq_true', decide_eq_false_iff_not, decide_eq_true_eq, true_iff, ge_iff_le]; omega), Wk.mk' ⟨rfl, rfl, rfl, rfl, rfl, trivial⟩ ⟨rfl, rfl, trivial⟩⟩
    · refine w_step tok rfl ?_;refine s_move rfl rfl rfl ?_;refine s_end ?_;refine w_step tok rfl ?_;refine s_fieldAddr rfl rfl rfl ?_;refine s_end ?_;refine w_step tok rfl ?_;refine s_load rfl rfl rfl ?_;refine s_end ?_;refine w_step tok rfl ?_;refine s_blt rfl (len_m RW.dc rfl rfl) rfl ?_;refine s_end ?_;refine w_step tok rfl ?_;refine s_bin rfl rfl rfl ?_;refine s_end ?_;refine w_step tok rfl ?_;refine s_pick rfl rfl rfl ?_;refine s_end ?_;refine w_step tok rfl ?_;refine s_move rfl rfl rfl ?_;refine s_end ?_;refine w_split (fun h1 => ?_) (fun h1 => ?_)
      · refine w_skip rfl rfl ?_;refine w_skip rfl rfl ?_;refine w_step tok rfl ?_;refine s_pick rfl rfl rfl ?_;refine s_end ?_;refine w_step tok rfl ?_;refine s_move rfl rfl rfl ?_;refine s_end ?_;refine w_skip rfl rfl ?_;refine w_skip rfl rfl ?_;refine w_skip rfl rfl ?_;refine w_skip rfl rfl ?_;refine w_skip rfl rfl ?_;refine w_step tok rfl ?_;refine s_pick rfl rfl rfl ?_;refine s_end ?_;refine w_end rfl (hK _ ?_); clear hK K;exact ⟨_, (by simp only [decide_eq_true_eq, decide_eq_false_iff_not, Int.not_lt, ge_iff_le, Int.not_le] at h0 h1; rw [Bool.eq_iff_iff]; simp only [Bool.not_eq_true', decide_eq_false_iff_not, decide_eq_true_eq, true_iff, ge_iff_le]; omega), Wk.mk' ⟨rfl, rfl, rfl, rfl, rfl, trivial⟩ ⟨rfl, rfl, trivial⟩⟩
      · refine w_step tok rfl ?_;refine s_move rfl rfl rfl ?_;refine s_end ?_;refine w_step tok rfl ?_;refine s_bin rfl rfl rfl ?_;refine s_end ?_;refine w_step tok rfl ?_;refine s_pick rfl rfl rfl ?_;refine s_end ?_;refine w_step tok rfl ?_;refine s_move rfl rfl rfl ?_;refine s_end ?_;refine w_split (fun h2 => ?_) (fun h2 => ?_)
        · refine w_skip rfl rfl ?_;refine w_skip rfl rfl ?_;refine w_skip rfl rfl ?_;refine w_skip rfl rfl ?_;refine w_skip rfl rfl ?_;refine w_step tok rfl ?_;refine s_pick rfl rfl rfl ?_;refine s_end ?_;refine w_end rfl (hK _ ?_); clear hK K;exact ⟨_, (by simp only [decide_eq_true_eq, decide_eq_false_iff_not, Int.not_lt, ge_iff_le, Int.not_le] at h0 h1 h2; rw [Bool.eq_iff_iff]; simp only [Bool.not_eq_true', decide_eq_false_iff_not, decide_eq_true_eq, true_iff, ge_iff_le]; omega), Wk.mk' ⟨rfl, rfl, rfl, rfl, rfl, trivial⟩ ⟨rfl, rfl, trivial⟩⟩
        · refine w_step tok rfl ?_;refine s_move rfl rfl rfl ?_;refine s_end ?_;refine w_step tok rfl ?_;refine s_fieldAddr rfl rfl rfl ?_;refine s_end ?_;refine w_step tok rfl ?_;refine s_load rfl rfl rfl ?_;refine s_end ?_;refine w_step tok rfl ?_;refine s_blt rfl (len_m RW.dc rfl rfl) rfl ?_;refine s_end ?_;refine w_step tok rfl ?_;refine s_bin rfl rfl rfl ?_;refine s_end ?_;refine w_step tok rfl ?_;refine s_pick rfl rfl rfl ?_;refine s_end ?_;refine w_end rfl (hK _ ?_); clear hK K;exact ⟨_, (by simp only [decide_eq_true_eq, decide_eq_false_iff_not, Int.not_lt, ge_iff_le, Int.not_le] at h0 h1 h2; rw [Bool.eq_iff_iff]; simp only [Bool.not_eq_true', decide_eq_false_iff_not, decide_eq_true_eq, true_iff, ge_iff_le]; omega), Wk.mk' ⟨rfl, rfl, rfl, rfl, rfl, trivial⟩ ⟨rfl, rfl, trivial⟩⟩
  rintro c rfl
  refine a_cond rfl (fun hd => ?_) (fun hd => ?_)
  · rw [Bool.not_eq_true'] at hd;rw [if_neg (of_decide_eq_false hd)];refine AWP_reg_seq tok fun K hK => ?_;refine s_build rfl rfl rfl ?_;refine s_store rfl rfl rfl rfl rfl ?_;refine s_assign rfl rfl rfl ?_;refine s_end (hK _ ?_); clear hK K;refine AWP_ret ?_
    repeat (with_reducible refine tq_ret ?_)
    exact post_ret (fin_mk (by rfl) (by rfl) (by rfl))
  rw [Bool.not_eq_false'] at hd
  have hd := of_decide_eq_true hd
  rw [if_pos hd]
  obtain ⟨a, rfl⟩ : ∃ a : Nat, i = a := ⟨i.toNat, by omega⟩
  obtain ⟨b, rfl⟩ : ∃ b : Nat, j = b := ⟨j.toNat, by omega⟩
  simp only [Int.toNat_natCast]
  have cr := resistance_c g (validB_iff.1 hc) a b (by omega) (by omega)
  refine AWP_skip ?_;show AWP _ _ _ _ _ _;refine AWP_reg_seq tok fun K hK => ?_;refine s_load rfl rfl rfl ?_;refine s_move rfl rfl rfl ?_;refine s_move rfl rfl rfl ?_;refine s_call rfl rfl (cr) rfl rfl rfl rfl ?_;refine s_extract rfl rfl rfl ?_;refine s_extract rfl rfl rfl ?_;refine s_store rfl rfl rfl rfl rfl ?_;refine s_assign rfl rfl rfl ?_;refine s_end (hK _ ?_); clear hK K;refine AWP_ret ?_
  repeat (with_reducible refine tq_ret ?_)
  exact post_ret (fin_mk (by rfl) (by rfl) (by rfl))

/-! ### Trees -/
def trZ : (Nat → Nat) → Nat → List LK → Int
  | _, 0, _ => 1
  | _, _ + 1, [] => 0
  | p, left + 1, x :: xs => if p x.f.toNat = p x.t.toNat then trZ p (left + 1) xs else trZ p (left + 1) xs + x.w * trZ (mg p (p x.f.toNat) (p x.t.toNat)) left xs
theorem trZ_tr0 : ∀ (ls : List LK) (p : Nat → Nat) (left : Nat), ((trZ p left ls : Int) : Rat) = tr0 p left (wls ls)
  | [], _, 0 => rfl
  | _ :: _, _, 0 => rfl
  | [], _, _ + 1 => rfl
  | x :: xs, p, left + 1 => by
    have e : wls (x :: xs) = wlk x :: wls xs := rfl
    rw [e];simp only [trZ, tr0]
    by_cases h : p x.f.toNat = p x.t.toNat
    · rw [if_pos h, if_pos (show p (wlk x).f = p (wlk x).t from h), trZ_tr0 xs p (left + 1)]
    · rw [if_neg h, if_neg (show ¬ p (wlk x).f = p (wlk x).t from h), Rat.intCast_add, Rat.intCast_mul, trZ_tr0 xs p (left + 1), trZ_tr0 xs _ left]; rfl
def treesV (g : GR) : Int × Int := if validB g = true then (trZ id (g.nodes.length - 1) g.links, 0) else (0, 1)
theorem gTrees_c (g : GR) : Con Try.prog 18 [AG g.cs] { v := .tup [.agg (ZC (treesV g).1), .one (.d (lI (treesV g).2))] } := by
  refine con_intro (fn := Try.f18) tok Try.func18 (by kernel_rfl) rfl ?_
  intro w0 X
  rw [entry_mkE _ _ [(0, AG g.cs)] rfl rfl];refine AWP_reg_seq tok fun K hK => ?_;refine s_box rfl rfl rfl rfl rfl rfl ?_;refine s_alloc rfl rfl rfl rfl rfl rfl ?_;refine s_assign rfl rfl rfl ?_;refine s_end (hK _ ?_); clear hK K;refine AWP_seq ?_;refine AWP_reg_seq tok fun K hK => ?_;refine s_load rfl rfl rfl ?_;refine s_call rfl rfl (gValid_c g) rfl rfl rfl rfl ?_;refine s_un rfl rfl rfl ?_;refine s_end (hK _ ?_); clear hK K;refine a_cond rfl (fun hc => ?_) (fun hc => ?_)
  · rw [Bool.not_eq_true'] at hc
    have e : treesV g = (0, 1) := by rw [treesV, if_neg (by rw [hc]; simp)]
    rw [e];refine AWP_reg_seq tok fun K hK => ?_;refine s_build rfl rfl rfl ?_;refine s_store rfl rfl rfl rfl rfl ?_;refine s_assign rfl rfl rfl ?_;refine s_end (hK _ ?_); clear hK K;refine AWP_ret ?_
    repeat (with_reducible refine tq_ret ?_)
    exact post_ret (fin_mk (by rfl) (by rfl) (by rfl))
  rw [Bool.not_eq_false'] at hc
  have gv := validB_iff.1 hc
  rw [treesV, if_pos hc]
  have n1 := gv.n1
  have n16 := gv.n2
  obtain ⟨m, hm⟩ : ∃ m, g.nodes.length = m + 1 := ⟨g.nodes.length - 1, by omega⟩
  have hM : ∀ a b, -50331648 ≤ lapM g.links a b ∧ lapM g.links a b ≤ 50331648 := fun a b => by
    have h1 := lapM_le g.links (gLV gv) a b
    have h2 := gv.l
    omega
  have hq : ∀ a b, ql ((lapM g.links a b : Int) : Rat) ≤ 2 := fun a b => by have := hM a b; exact ql_i64 ⟨by omega, by omega⟩
  have cL := gLap_c g
  have e1 : lapV g = (lapQ g.nodes.length (lapM g.links), 0) := by rw [lapV, if_pos hc]
  rw [e1] at cL
  obtain ⟨L, eL⟩ : ∃ L, L = lapQ g.nodes.length (lapM g.links) := ⟨_, rfl⟩
  have eM : L = matW (m + 1) (m + 1) (fun a b => qzW ((lapM g.links a b : Int) : Rat)) := by rw [eL, hm]; rfl
  rw [← eL] at cL
  have hLl : L.length = m + 1 := by rw [eM, matW_length]
  have hLr : ∀ r ∈ L, r.length = m + 1 := fun r hr => by
    rw [eM] at hr
    obtain ⟨i, _, rfl⟩ := List.mem_map.1 hr
    exact vecW_length _ _
  have okL : okM 65536 L := fun r hr x hx => by
    rw [eM] at hr
    obtain ⟨i, _, rfl⟩ := List.mem_map.1 hr
    obtain ⟨j, _, rfl⟩ := List.mem_map.1 hx
    exact (qzW_ok (hq i j)).mono rfl
  have vL : validM L = true := by
    rw [eM];exact decide_eq_true (VMp_mat.2 ⟨by omega, fun i _ j _ => by rw [qzW_v, qzW_v, lapM_symm (n := g.nodes.length) g.links (gLV gv) i j]⟩)
  have cMn := sMinor_c L 0 (by omega) (fun r hr => by rw [hLr r hr]; omega) okL
  obtain ⟨N, eN⟩ : ∃ N, N = matW m m (fun a b => qzW ((lapM g.links (a + 1) (b + 1) : Int) : Rat)) := ⟨_, rfl⟩
  have eMn : minorV L 0 = (N, 0) := by
    rw [minorV, if_pos vL, if_pos (by rw [hLl]; omega), hLl, eN]
    congr 1
    refine matW_congr fun a b ha hb => ?_
    unfold minF
    rw [eM, show (0 : Int).toNat = 0 from rfl, sk_zero, sk_zero, mtv_mat (by omega) (by omega), qzW_v]
  rw [eMn] at cMn
  have hNl : N.length = m := by rw [eN, matW_length]
  have hNr : ∀ r ∈ N, r.length = m := fun r hr => by
    rw [eN] at hr
    obtain ⟨i, _, rfl⟩ := List.mem_map.1 hr
    exact vecW_length _ _
  have okN : okM 65536 N := fun r hr x hx => by
    rw [eN] at hr
    obtain ⟨i, _, rfl⟩ := List.mem_map.1 hr
    obtain ⟨j, _, rfl⟩ := List.mem_map.1 hx
    exact (qzW_ok (hq _ _)).mono rfl
  have vN : validM N = true := by
    rw [eN];exact decide_eq_true (VMp_mat.2 ⟨by omega, fun i _ j _ => by rw [qzW_v, qzW_v, lapM_symm (n := g.nodes.length) g.links (gLV gv) (i + 1) (j + 1)]⟩)
  have hmv : ∀ a b, a < m → b < m → matV N a b = ((lapM g.links (a + 1) (b + 1) : Int) : Rat) := fun a b ha hb => by
    unfold matV; rw [eN, mtv_mat ha hb, qzW_v]
  have cD := sDet_c N (by omega) (fun r hr => by rw [hNr r hr]; omega) okN (fun _ => by
    rw [hNl]
    exact elB_int (m := 26) (J := 15) (fun a b ha hb => by
      rw [hmv a b ha hb]
      have := hM (a + 1) (b + 1)
      exact ⟨_, rfl, by have e : (2 : Nat) ^ 26 = 67108864 := by decide
                        rw [e]; omega⟩) (by omega) (by omega) (by decide))
  have eD : dt m (matV N) = ((trZ id m g.links : Int) : Rat) := by
    rw [trZ_tr0, ← trees_dt (n := m) (g := 0) (by omega) (fun x hx => hm ▸ wls_l gv x hx), minor_id (p := id) (g := 0) (k := 0) (by omega) (fun e => (act_iff.1 e).2 rfl)];refine dt_congr fun a b ha hb => ?_;rw [hmv a b ha hb, sk_zero, sk_zero, kk_act (act_iff.2 ⟨rfl, by omega⟩) (act_iff.2 ⟨rfl, by omega⟩), lap_lpl (gLV gv)]
  have eV : detV N = (qzW ((trZ id m g.links : Int) : Rat), 0) := by rw [detV, if_pos vN, hNl, eD]
  rw [eV] at cD
  have hqt : ql ((trZ id m g.links : Int) : Rat) ≤ 15 := by
    rw [← eD]
    obtain ⟨z, h1, h2⟩ := IB_dt (m := 26) (n := m) (A := matV N) (by omega) (fun a b ha hb => by
      rw [hmv a b ha hb]
      have := hM (a + 1) (b + 1)
      exact ⟨_, rfl, by have e : (2 : Nat) ^ 26 = 67108864 := by decide
                        rw [e]; omega⟩)
    rw [h1, ql_int]
    have := zl_pow (j := 15) h2 (by omega)
    omega
  have cW := qWhole_t (qzW ((trZ id m g.links : Int) : Rat)) (trZ id m g.links) ((qzW_ok hqt).mono rfl) (qzW_v _)
  rw [hm, Nat.add_sub_cancel];refine AWP_skip ?_;show AWP _ _ _ _ _ _;refine AWP_reg_seq tok fun K hK => ?_;refine s_load rfl rfl rfl ?_;refine s_call rfl rfl (cL) rfl rfl rfl rfl ?_;refine s_move rfl rfl rfl ?_;refine s_extract rfl rfl rfl ?_;refine s_extract rfl rfl rfl ?_;refine s_assign rfl rfl rfl ?_;refine s_assign rfl rfl rfl ?_;refine s_end (hK _ ?_); clear hK K;refine AWP_reg_seq tok fun K hK => ?_;refine s_move rfl rfl rfl ?_;refine s_call rfl rfl (cMn) rfl rfl rfl rfl ?_;refine s_move rfl rfl rfl ?_;refine s_extract rfl rfl rfl ?_;refine s_extract rfl rfl rfl ?_;refine s_assign rfl rfl rfl ?_;refine s_assign rfl rfl rfl ?_;refine s_end (hK _ ?_); clear hK K;refine AWP_seq ?_;refine AWP_reg_seq tok fun K hK => ?_;refine s_move rfl rfl rfl ?_;refine s_bin rfl rfl rfl ?_;refine s_end (hK _ ?_); clear hK K;refine a_cond rfl (fun h => by cases h) (fun _ => ?_);refine AWP_skip ?_;show AWP _ _ _ _ _ _;refine AWP_reg_seq tok fun K hK => ?_;refine s_move rfl rfl rfl ?_;refine s_call rfl rfl (cD) rfl rfl rfl rfl ?_;refine s_move rfl rfl rfl ?_;refine s_extract rfl rfl rfl ?_;refine s_extract rfl rfl rfl ?_;refine s_alloc rfl rfl rfl rfl rfl rfl ?_;refine s_store rfl rfl rfl rfl rfl ?_;refine s_assign rfl rfl rfl ?_;refine s_end (hK _ ?_); clear hK K;refine AWP_seq ?_;refine AWP_reg_seq tok fun K hK => ?_;refine s_move rfl rfl rfl ?_;refine s_bin rfl rfl rfl ?_;refine s_end (hK _ ?_); clear hK K;refine a_cond rfl (fun h => by cases h) (fun _ => ?_);refine AWP_skip ?_;show AWP _ _ _ _ _ _;refine AWP_reg_seq tok fun K hK => ?_;refine s_load rfl rfl rfl ?_;refine s_call rfl rfl (cW) rfl rfl rfl rfl ?_;refine s_move rfl rfl rfl ?_;refine s_extract rfl rfl rfl ?_;refine s_extract rfl rfl rfl ?_;refine s_alloc rfl rfl rfl rfl rfl rfl ?_;refine s_store rfl rfl rfl rfl rfl ?_;refine s_assign rfl rfl rfl ?_;refine s_end (hK _ ?_); clear hK K;refine AWP_reg_seq tok fun K hK => ?_;refine s_load rfl rfl rfl ?_;refine s_store rfl rfl rfl rfl rfl ?_;refine s_assign rfl rfl rfl ?_;refine s_end (hK _ ?_); clear hK K;refine AWP_ret ?_
  repeat (with_reducible refine tq_ret ?_)
  exact post_ret (fin_mk (by rfl) (by rfl) (by rfl))
end Go.Proofs.Ytgopibpkgmafiaa

/- ref32: numbered, merged, trees, Trees. No condition. -/
namespace Go.Proofs.Ytgopibpkgmafiaa
attribute [local irreducible] lexA

section
variable {T : Tab} {t e : TypeId} {ti ei : TI}
end

theorem trZ_bd : ∀ (ls : List LK) (p : Nat → Nat) (left : Nat), (∀ l ∈ ls, 0 ≤ l.w ∧ l.w ≤ 1048576) → 0 ≤ trZ p left ls ∧ trZ p left ls ≤ ((2 ^ (21 * ls.length) : Nat) : Int)
  | [], _, 0, _ => by simp [trZ]
  | x :: xs, _, 0, _ => by
    have : 0 < 2 ^ (21 * (x :: xs).length) := Nat.pos_of_ne_zero (by simp)
    simp only [trZ]; omega
  | [], _, _ + 1, _ => by simp [trZ]
  | x :: xs, p, left + 1, h => by
    have hx := h x List.mem_cons_self
    have ht : ∀ l ∈ xs, 0 ≤ l.w ∧ l.w ≤ 1048576 := fun l hl => h l (List.mem_cons_of_mem _ hl)
    have h1 := trZ_bd xs p (left + 1) ht
    have h2 := trZ_bd xs (mg p (p x.f.toNat) (p x.t.toNat)) left ht
    have e : 2 ^ (21 * (x :: xs).length) = 2097152 * 2 ^ (21 * xs.length) := by
      rw [List.length_cons, Nat.mul_succ, Nat.pow_add, Nat.mul_comm]
    rw [e];generalize (2 ^ (21 * xs.length) : Nat) = N at h1 h2 ⊢;simp only [trZ]
    split
    · omega
    · generalize trZ p (left + 1) xs = A at h1 ⊢;generalize trZ (mg p (p x.f.toNat) (p x.t.toNat)) left xs = B at h2 ⊢
      have h3 : 0 ≤ x.w * B := Int.mul_nonneg hx.1 h2.1
      have h4 : x.w * B ≤ 1048576 * (N : Int) := by
        have a1 : x.w * B ≤ 1048576 * B := Int.mul_le_mul_of_nonneg_right hx.2 h2.1
        have a2 : (1048576 : Int) * B ≤ 1048576 * (N : Int) := Int.mul_le_mul_of_nonneg_left h2.2 (by decide)
        omega
      omega
end Go.Proofs.Ytgopibpkgmafiaa

/- ref32: part. No condition. -/
namespace Go.Proofs.Ytgopibpkgmafiaa
attribute [local irreducible] lexA

def prS (g : GR) (i v : Nat) : Bool := decide (lab g v = lab g i)
def prN (g : GR) (i v : Nat) : Nat := kN v (prS g i)
def prK (g : GR) (i : Nat) (l : LK) : LK := ⟨prN g i l.f.toNat, prN g i l.t.toNat, l.x, l.y, l.w⟩
def prE (g : GR) (i : Nat) (ls : List LK) : List LK := (ls.filter fun l => prS g i l.f.toNat).map (prK g i)
end Go.Proofs.Ytgopibpkgmafiaa

/- ref32: Resistance, Few, Without, Components. No condition. -/
namespace Go.Proofs.Ytgopibpkgmafiaa
attribute [local irreducible] lexA

/-- The resistance as ref32 says it. -/
def refQ (g : GR) (i j : Nat) : Rat := if i = j then 0 else Rat.divInt (trZ (mg id (prN g i i) (prN g i j)) (kN g.nodes.length (prS g i) - 2) (prE g i g.links)) (trZ id (kN g.nodes.length (prS g i) - 1) (prE g i g.links))
/-- Few. -/
def fwN (r : RW) : Nat := min r.wp.length 100 + min r.wq.length 100
def fwS : List RW → Nat
  | [] => 0
  | r :: l => fwN r + fwS l
theorem fwS_app (a b : List RW) : fwS (a ++ b) = fwS a + fwS b := by
  induction a with
  | nil => simp [fwS]
  | cons x a ih => simp only [List.cons_append, fwS, ih]; omega
theorem fwS_le (a : List RW) : fwS a ≤ 200 * a.length := by
  induction a with
  | nil => simp [fwS]
  | cons x a ih => simp only [List.length_cons, fwS, fwN]; omega
def fewL (g : GR) : Bool := decide (g.nodes.length ≤ 20 ∧ g.links.length ≤ 11 ∧ fwS (g.nodes.take 50) ≤ 200)
theorem rFew_c (g : GR) : Con Try.prog 10 [AG g.cs] { v := dB (fewL g) } := by
  refine con_intro (fn := Try.f10) tok Try.func10 (by kernel_rfl) rfl ?_
  intro w0 X
  rw [entry_mkE _ _ [(0, AG g.cs)] rfl rfl];refine AWP_reg_seq tok fun K hK => ?_;refine s_box rfl rfl rfl rfl rfl rfl ?_;refine s_assign rfl rfl rfl ?_;refine s_end (hK _ ?_); clear hK K;refine AWP_reg_seq tok fun K hK => ?_;refine s_assign rfl rfl rfl ?_;refine s_end (hK _ ?_); clear hK K;refine AWP_seq ?_;refine AWP_reg_seq tok fun K hK => ?_;refine s_assign rfl rfl rfl ?_;refine s_end (hK _ ?_); clear hK K;refine AWP_block (a_loop (α := Nat) (fun i => mk 51 [(1, .ptr 1 0), (3, dI (fwS (g.nodes.take i) : Nat)), (4, dI i)] [(1, some (.box g.cs))] []) (fun i => i ≤ g.nodes.length ∧ i ≤ 50) (fun i => 50 - i) 0 ?_ ⟨Nat.zero_le _, Nat.zero_le _⟩ ?_)
  · exact Wk.mk' ⟨rfl, rfl, rfl, trivial⟩ ⟨rfl, trivial⟩
  rintro i ⟨hi, h50⟩
  refine AWP_seq ?_;refine a_join (α := Bool) (fun c => mk 51 [(1, .ptr 1 0), (3, dI (fwS (g.nodes.take i) : Nat)), (4, dI i), (13, dB c)] [(1, some (.box g.cs))] []) (fun c => c = decide (i < g.nodes.length ∧ i < 50)) ?_ ?_
  · refine AWP_regW fun K hK => ?_;refine w_step tok rfl ?_;refine s_move rfl rfl rfl ?_;refine s_end ?_;refine w_step tok rfl ?_;refine s_fieldAddr rfl rfl rfl ?_;refine s_end ?_;refine w_step tok rfl ?_;refine s_load rfl rfl rfl ?_;refine s_end ?_;refine w_step tok rfl ?_;refine s_blt rfl (len_m RW.dc rfl rfl) rfl ?_;refine s_end ?_;refine w_step tok rfl ?_;refine s_bin rfl rfl rfl ?_;refine s_end ?_;refine w_step tok rfl ?_;refine s_move rfl rfl rfl ?_;refine s_end ?_;refine w_split (fun h0 => ?_) (fun h0 => ?_)
    · refine w_step tok rfl ?_;refine s_move rfl rfl rfl ?_;refine s_end ?_;refine w_step tok rfl ?_;refine s_bin rfl rfl rfl ?_;refine s_end ?_;refine w_step tok rfl ?_;refine s_pick rfl rfl rfl ?_;refine s_end ?_;refine w_end rfl (hK _ ?_); clear hK K;exact ⟨_, (by simp only [decide_eq_true_eq, decide_eq_false_iff_not] at h0; rw [Bool.eq_iff_iff]; simp only [decide_eq_true_eq, reduceCtorEq, false_iff]; omega), Wk.mk' ⟨rfl, rfl, rfl, rfl, trivial⟩ ⟨rfl, trivial⟩⟩
    · refine w_skip rfl rfl ?_;refine w_skip rfl rfl ?_;refine w_step tok rfl ?_;refine s_pick rfl rfl rfl ?_;refine s_end ?_;refine w_end rfl (hK _ ?_); clear hK K;exact ⟨_, (by simp only [decide_eq_true_eq, decide_eq_false_iff_not] at h0; rw [Bool.eq_iff_iff]; simp only [decide_eq_true_eq, reduceCtorEq, false_iff]; omega), Wk.mk' ⟨rfl, rfl, rfl, rfl, trivial⟩ ⟨rfl, trivial⟩⟩
  rintro c rfl
  refine a_cond rfl (fun hg => ?_) (fun hg => ?_)
  · have hg : i < g.nodes.length ∧ i < 50 := by simpa using hg
    obtain ⟨hg, hg2⟩ := hg
    obtain ⟨r, hr⟩ : ∃ r, r = g.nodes[i] := ⟨_, rfl⟩
    have e1 : fwS (g.nodes.take (i + 1)) = fwS (g.nodes.take i) + (min r.wp.length 100 + min r.wq.length 100) := by
      rw [List.take_succ_eq_append_getElem hg, fwS_app, ← hr]; rfl
    have b1 := fwS_le (g.nodes.take i)
    rw [List.length_take_of_le (by omega)] at b1;refine AWP_skip ?_;show AWP _ _ _ _ _ _;refine AWP_seq ?_;refine AWP_block ?_;refine a_draw1 tok mixed (A := [[], [], [], [], [1], [1, 2, 3], [1, 2, 3, 4], [1, 2, 3, 4, 5], [1, 2, 3, 4, 5, 6], [1, 2, 3, 4, 5, 6, 7], [], [], [], [10], [10, 11, 12], [10, 11, 12, 13], [10, 11, 12, 13, 14], [10, 11, 12, 13, 14, 15], [10, 11, 12, 13, 14, 15, 16], [1, 2, 3, 4, 5, 6, 7, 8, 10, 11, 12, 13, 14, 15, 16, 17], [1, 2, 3, 4, 5, 6, 7, 8, 9, 10, 11, 12, 13, 14, 15, 16, 17, 18], []]) (an := [{}, {}, {}, {}, {}, {}, {}, {}, {}, {}, {}, {}, {}, {}, {}, {}, {}, {}, {}, {}, {}, {}]) rfl (by kernel_rfl) rfl fun K hK => ?_;refine s_move rfl rfl rfl ?_;refine s_fieldAddr rfl rfl rfl ?_;refine s_load rfl rfl rfl ?_;refine s_move rfl rfl rfl ?_;refine s_indexAddr rfl (x_m RW.dc rfl rfl rfl rfl hg rfl) rfl ?_;refine s_fieldAddr rfl rfl rfl ?_;refine s_fieldAddr rfl rfl rfl ?_;refine s_load rfl rfl rfl ?_;refine s_blt rfl (len_w (ws := g.nodes[i].wp) rfl rfl rfl) rfl ?_;refine s_blt rfl (mm_min _ 100) rfl ?_;refine s_fieldAddr rfl rfl rfl ?_;refine s_load rfl rfl rfl ?_;refine s_move rfl rfl rfl ?_;refine s_indexAddr rfl (x_m RW.dc rfl rfl rfl rfl hg rfl) rfl ?_;refine s_fieldAddr rfl rfl rfl ?_;refine s_fieldAddr rfl rfl rfl ?_;refine s_load rfl rfl rfl ?_;refine s_blt rfl (len_w (ws := g.nodes[i].wq) rfl rfl rfl) rfl ?_;refine s_blt rfl (mm_min _ 100) rfl ?_;refine s_bin rfl (e_add (c := ((min g.nodes[i].wp.length 100 + min g.nodes[i].wq.length 100 : Nat) : Int)) (by omega) (by omega)) rfl ?_;refine s_bin rfl (e_add (c := ((fwS (g.nodes.take i) + (min g.nodes[i].wp.length 100 + min g.nodes[i].wq.length 100) : Nat) : Int)) (by omega) (by omega)) rfl ?_;refine s_assign rfl rfl rfl ?_;refine s_end (hK _ ?_); clear hK K;rw [← hr, ← e1];show AWP _ _ _ _ _ _;refine AWP_reg tok fun K hK => ?_;refine s_move rfl rfl rfl ?_;refine s_bin rfl (e_add rfl (by omega)) rfl ?_;refine s_assign rfl rfl rfl ?_;refine s_end (hK _ ?_); clear hK K;exact ⟨i + 1, by omega, ⟨hg, hg2⟩, Wk.mk' ⟨rfl, rfl, rfl, trivial⟩ ⟨rfl, trivial⟩⟩
  · have hg : ¬ (i < g.nodes.length ∧ i < 50) := by simpa using hg
    refine AWP_exit ?_;show AWP _ _ _ _ _ _
    have e : g.nodes.take 50 = g.nodes.take i := by
      by_cases h : i < 50
      · rw [List.take_of_length_le (by omega), List.take_of_length_le (by omega)]
      · have : i = 50 := by omega
        rw [this]
    rw [fewL, e];refine AWP_regW_seq fun K hK => ?_;refine w_step tok rfl ?_;refine s_fieldAddr rfl rfl rfl ?_;refine s_end ?_;refine w_step tok rfl ?_;refine s_load rfl rfl rfl ?_;refine s_end ?_;refine w_step tok rfl ?_;refine s_blt rfl (len_m RW.dc rfl rfl) rfl ?_;refine s_end ?_;refine w_step tok rfl ?_;refine s_bin rfl rfl rfl ?_;refine s_end ?_;refine w_step tok rfl ?_;refine s_move rfl rfl rfl ?_;refine s_end ?_;refine w_split (fun h0 => ?_) (fun h0 => ?_)
    · refine w_step tok rfl ?_;refine s_fieldAddr rfl rfl rfl ?_;refine s_end ?_;refine w_step tok rfl ?_;refine s_load rfl rfl rfl ?_;refine s_end ?_;refine w_step tok rfl ?_;refine s_blt rfl (len_m LK.dc rfl rfl) rfl ?_;refine s_end ?_;refine w_step tok rfl ?_;refine s_bin rfl rfl rfl ?_;refine s_end ?_;refine w_step tok rfl ?_;refine s_pick rfl rfl rfl ?_;refine s_end ?_;refine w_step tok rfl ?_;refine s_move rfl rfl rfl ?_;refine s_end ?_;refine w_split (fun h1 => ?_) (fun h1 => ?_)
      · refine w_step tok rfl ?_;refine s_move rfl rfl rfl ?_;refine s_end ?_;refine w_step tok rfl ?_;refine s_bin rfl rfl rfl ?_;refine s_end ?_;refine w_step tok rfl ?_;refine s_pick rfl rfl rfl ?_;refine s_end ?_;refine w_step tok rfl ?_;refine s_assign rfl rfl rfl ?_;refine s_end ?_;refine w_end rfl (hK _ ?_); clear hK K;refine AWP_ret ?_
        repeat (with_reducible refine tq_ret ?_)
        exact post_ret (fin_mk (by rfl) (by rfl) (by exact dB_eq (by simp only [decide_eq_true_eq, decide_eq_false_iff_not] at h0 h1; rw [Bool.eq_iff_iff]; simp only [decide_eq_true_eq, reduceCtorEq, iff_false, false_iff]; omega)))
      · refine w_skip rfl rfl ?_;refine w_skip rfl rfl ?_;refine w_step tok rfl ?_;refine s_pick rfl rfl rfl ?_;refine s_end ?_;refine w_step tok rfl ?_;refine s_assign rfl rfl rfl ?_;refine s_end ?_;refine w_end rfl (hK _ ?_); clear hK K;refine AWP_ret ?_
        repeat (with_reducible refine tq_ret ?_)
        exact post_ret (fin_mk (by rfl) (by rfl) (by exact dB_eq (by simp only [decide_eq_true_eq, decide_eq_false_iff_not] at h0 h1; rw [Bool.eq_iff_iff]; simp only [decide_eq_true_eq, reduceCtorEq, iff_false, false_iff]; omega)))
    · refine w_skip rfl rfl ?_;refine w_skip rfl rfl ?_;refine w_skip rfl rfl ?_;refine w_skip rfl rfl ?_;refine w_step tok rfl ?_;refine s_pick rfl rfl rfl ?_;refine s_end ?_;refine w_step tok rfl ?_;refine s_move rfl rfl rfl ?_;refine s_end ?_;refine w_skip rfl rfl ?_;refine w_skip rfl rfl ?_;refine w_step tok rfl ?_;refine s_pick rfl rfl rfl ?_;refine s_end ?_;refine w_step tok rfl ?_;refine s_assign rfl rfl rfl ?_;refine s_end ?_;refine w_end rfl (hK _ ?_); clear hK K;refine AWP_ret ?_
      repeat (with_reducible refine tq_ret ?_)
      exact post_ret (fin_mk (by rfl) (by rfl) (by exact dB_eq (by simp only [decide_eq_true_eq, decide_eq_false_iff_not] at h0; rw [Bool.eq_iff_iff]; simp only [decide_eq_true_eq, reduceCtorEq, iff_false, false_iff]; omega)))

end Go.Proofs.Ytgopibpkgmafiaa

/- ref32's resistance is leverage's. No condition. -/
namespace Go.Proofs.Ytgopibpkgmafiaa
attribute [local irreducible] lexA

theorem wls_prE (g : GR) (i : Nat) : ∀ ls : List LK, wls (prE g i ls) = rnL (prS g i) (fun v => kN v (prS g i)) (wls ls)
  | [] => rfl
  | x :: xs => by
    have e : wls (x :: xs) = wlk x :: wls xs := rfl
    rw [e, rnL_cons, ← wls_prE g i xs]
    by_cases h : prS g i x.f.toNat = true
    · rw [if_pos (show prS g i (wlk x).f = true from h)]
      have : prE g i (x :: xs) = prK g i x :: prE g i xs := by unfold prE; simp [h]
      rw [this]; rfl
    · rw [if_neg (show ¬ prS g i (wlk x).f = true from h)]
      have : prE g i (x :: xs) = prE g i xs := by unfold prE; simp [h]
      rw [this]
theorem prS_link {g : GR} (gv : GV g) (i : Nat) : ∀ x ∈ wls g.links, x.f < g.nodes.length ∧ x.t < g.nodes.length ∧ prS g i x.f = prS g i x.t := fun x hx => by
  obtain ⟨h1, h2⟩ := wls_l gv x hx
  refine ⟨h1, h2, ?_⟩
  unfold prS; rw [lab_link gv hx]
theorem refQ_eq {g : GR} (gv : GV g) {i j : Nat} (hi : i < g.nodes.length) (hj : j < g.nodes.length) (hl : lab g i = lab g j) : refQ g i j = resQ g i j := by
  by_cases e : i = j
  · have h1 : refQ g i j = 0 := if_pos e
    have h2 : resQ g i j = 0 := if_pos e
    rw [h1, h2]
  · have h1 : refQ g i j = Rat.divInt (trZ (mg id (prN g i i) (prN g i j)) (kN g.nodes.length (prS g i) - 2) (prE g i g.links)) (trZ id (kN g.nodes.length (prS g i) - 1) (prE g i g.links)) := if_neg e
    rw [h1]
    have si : prS g i i = true := decide_eq_true rfl
    have sj : prS g i j = true := decide_eq_true hl.symm
    have q := res_quot (n := g.nodes.length) (S := prS g i) (ls := wls g.links) (wls_w gv) (prS_link gv i) hi hj e si sj (fun v hv hs => by
      rw [wls_prs]
      exact (lab_cnn gv hv hj).1 ((of_decide_eq_true hs).trans hl)) (res_isR gv hi hj hl)
    rw [← wls_prE, ← trZ_tr0, ← trZ_tr0] at q;rw [Rat.divInt_eq_div]
    have q1 := q.1
    have q2 := q.2
    show ((trZ (mg id (kN i (prS g i)) (kN j (prS g i))) (kN g.nodes.length (prS g i) - 2) (prE g i g.links) : Int) : Rat) / ((trZ id (kN g.nodes.length (prS g i) - 1) (prE g i g.links) : Int) : Rat) = _
    rw [← q2]
    grind
end Go.Proofs.Ytgopibpkgmafiaa

/- law32: small, two, awake; Resists. No condition. -/
namespace Go.Proofs.Ytgopibpkgmafiaa
attribute [local irreducible] lexA

def smallL (l : List RW) : Bool := decide (l.length ≤ 12 ∧ fwS (l.take 50) ≤ 60)
theorem r2Few_c (l : List RW) : Con Try.prog 42 [V1 (dRs l)] { v := dB (smallL l) } := by
  refine con_intro (fn := Try.f42) tok Try.func42 (by kernel_rfl) rfl ?_
  intro w0 X
  rw [entry_mkE _ _ [(0, V1 (dRs l))] rfl rfl];refine AWP_reg_seq tok fun K hK => ?_;refine s_assign rfl rfl rfl ?_;refine s_end (hK _ ?_); clear hK K;refine AWP_reg_seq tok fun K hK => ?_;refine s_assign rfl rfl rfl ?_;refine s_end (hK _ ?_); clear hK K;refine AWP_seq ?_;refine AWP_reg_seq tok fun K hK => ?_;refine s_assign rfl rfl rfl ?_;refine s_end (hK _ ?_); clear hK K;refine AWP_block (a_loop (α := Nat) (fun i => mk 41 [(0, V1 (dRs l)), (3, dI (fwS (l.take i) : Nat)), (4, dI i)] [] []) (fun i => i ≤ l.length ∧ i ≤ 50) (fun i => 50 - i) 0 ?_ ⟨Nat.zero_le _, Nat.zero_le _⟩ ?_)
  · exact Wk.mk' ⟨rfl, rfl, rfl, trivial⟩ trivial
  rintro i ⟨hi, h50⟩
  refine AWP_seq ?_;refine a_join (α := Bool) (fun c => mk 41 [(0, V1 (dRs l)), (3, dI (fwS (l.take i) : Nat)), (4, dI i), (12, dB c)] [] []) (fun c => c = decide (i < l.length ∧ i < 50)) ?_ ?_
  · refine AWP_regW fun K hK => ?_;refine w_step tok rfl ?_;refine s_move rfl rfl rfl ?_;refine s_end ?_;refine w_step tok rfl ?_;refine s_move rfl rfl rfl ?_;refine s_end ?_;refine w_step tok rfl ?_;refine s_blt rfl (len_m RW.dc rfl rfl) rfl ?_;refine s_end ?_;refine w_step tok rfl ?_;refine s_bin rfl rfl rfl ?_;refine s_end ?_;refine w_step tok rfl ?_;refine s_move rfl rfl rfl ?_;refine s_end ?_;refine w_split (fun h0 => ?_) (fun h0 => ?_)
    · refine w_step tok rfl ?_;refine s_move rfl rfl rfl ?_;refine s_end ?_;refine w_step tok rfl ?_;refine s_bin rfl rfl rfl ?_;refine s_end ?_;refine w_step tok rfl ?_;refine s_pick rfl rfl rfl ?_;refine s_end ?_;refine w_end rfl (hK _ ?_); clear hK K;exact ⟨_, (by simp only [decide_eq_true_eq, decide_eq_false_iff_not] at h0; rw [Bool.eq_iff_iff]; simp only [decide_eq_true_eq, reduceCtorEq, false_iff]; omega), Wk.mk' ⟨rfl, rfl, rfl, rfl, trivial⟩ trivial⟩
    · refine w_skip rfl rfl ?_;refine w_skip rfl rfl ?_;refine w_step tok rfl ?_;refine s_pick rfl rfl rfl ?_;refine s_end ?_;refine w_end rfl (hK _ ?_); clear hK K;exact ⟨_, (by simp only [decide_eq_true_eq, decide_eq_false_iff_not] at h0; rw [Bool.eq_iff_iff]; simp only [decide_eq_true_eq, reduceCtorEq, false_iff]; omega), Wk.mk' ⟨rfl, rfl, rfl, rfl, trivial⟩ trivial⟩
  rintro c rfl
  refine a_cond rfl (fun hg => ?_) (fun hg => ?_)
  · have hg : i < l.length ∧ i < 50 := by simpa using hg
    obtain ⟨hg, hg2⟩ := hg
    obtain ⟨r, hr⟩ : ∃ r, r = l[i] := ⟨_, rfl⟩
    have e1 : fwS (l.take (i + 1)) = fwS (l.take i) + (min r.wp.length 100 + min r.wq.length 100) := by
      rw [List.take_succ_eq_append_getElem hg, fwS_app, ← hr]; rfl
    have b1 := fwS_le (l.take i)
    rw [List.length_take_of_le (by omega)] at b1;refine AWP_skip ?_;show AWP _ _ _ _ _ _;refine AWP_seq ?_;refine AWP_block ?_;refine a_draw1 tok mixed (A := [[], [], [], [], [1, 2], [1, 2, 3], [1, 2, 3, 4], [1, 2, 3, 4, 5], [1, 2, 3, 4, 5, 6], [], [], [], [9, 10], [9, 10, 11], [9, 10, 11, 12], [9, 10, 11, 12, 13], [9, 10, 11, 12, 13, 14], [1, 2, 3, 4, 5, 6, 7, 9, 10, 11, 12, 13, 14, 15], [1, 2, 3, 4, 5, 6, 7, 8, 9, 10, 11, 12, 13, 14, 15, 16], []]) (an := [{}, {}, {}, {}, {}, {}, {}, {}, {}, {}, {}, {}, {}, {}, {}, {}, {}, {}, {}, {}]) rfl (by kernel_rfl) rfl fun K hK => ?_;refine s_move rfl rfl rfl ?_;refine s_move rfl rfl rfl ?_;refine s_move rfl rfl rfl ?_;refine s_indexAddr rfl (x_m RW.dc rfl rfl rfl rfl hg rfl) rfl ?_;refine s_fieldAddr rfl rfl rfl ?_;refine s_fieldAddr rfl rfl rfl ?_;refine s_load rfl rfl rfl ?_;refine s_blt rfl (len_w (ws := l[i].wp) rfl rfl rfl) rfl ?_;refine s_blt rfl (mm_min _ 100) rfl ?_;refine s_move rfl rfl rfl ?_;refine s_move rfl rfl rfl ?_;refine s_indexAddr rfl (x_m RW.dc rfl rfl rfl rfl hg rfl) rfl ?_;refine s_fieldAddr rfl rfl rfl ?_;refine s_fieldAddr rfl rfl rfl ?_;refine s_load rfl rfl rfl ?_;refine s_blt rfl (len_w (ws := l[i].wq) rfl rfl rfl) rfl ?_;refine s_blt rfl (mm_min _ 100) rfl ?_;refine s_bin rfl (e_add (c := ((min l[i].wp.length 100 + min l[i].wq.length 100 : Nat) : Int)) (by omega) (by omega)) rfl ?_;refine s_bin rfl (e_add (c := ((fwS (l.take i) + (min l[i].wp.length 100 + min l[i].wq.length 100) : Nat) : Int)) (by omega) (by omega)) rfl ?_;refine s_assign rfl rfl rfl ?_;refine s_end (hK _ ?_); clear hK K;rw [← hr, ← e1];show AWP _ _ _ _ _ _;refine AWP_reg tok fun K hK => ?_;refine s_move rfl rfl rfl ?_;refine s_bin rfl (e_add rfl (by omega)) rfl ?_;refine s_assign rfl rfl rfl ?_;refine s_end (hK _ ?_); clear hK K;exact ⟨i + 1, by omega, ⟨hg, hg2⟩, Wk.mk' ⟨rfl, rfl, rfl, trivial⟩ trivial⟩
  · have hg : ¬ (i < l.length ∧ i < 50) := by simpa using hg
    refine AWP_exit ?_;show AWP _ _ _ _ _ _
    have e : l.take 50 = l.take i := by
      by_cases h : i < 50
      · rw [List.take_of_length_le (by omega), List.take_of_length_le (by omega)]
      · have : i = 50 := by omega
        rw [this]
    rw [smallL, e];refine AWP_regW_seq fun K hK => ?_;refine w_step tok rfl ?_;refine s_move rfl rfl rfl ?_;refine s_end ?_;refine w_step tok rfl ?_;refine s_blt rfl (len_m RW.dc rfl rfl) rfl ?_;refine s_end ?_;refine w_step tok rfl ?_;refine s_bin rfl rfl rfl ?_;refine s_end ?_;refine w_step tok rfl ?_;refine s_move rfl rfl rfl ?_;refine s_end ?_;refine w_split (fun h0 => ?_) (fun h0 => ?_)
    · refine w_step tok rfl ?_;refine s_move rfl rfl rfl ?_;refine s_end ?_;refine w_step tok rfl ?_;refine s_bin rfl rfl rfl ?_;refine s_end ?_;refine w_step tok rfl ?_;refine s_pick rfl rfl rfl ?_;refine s_end ?_;refine w_step tok rfl ?_;refine s_assign rfl rfl rfl ?_;refine s_end ?_;refine w_end rfl (hK _ ?_); clear hK K;refine AWP_ret ?_
      repeat (with_reducible refine tq_ret ?_)
      exact post_ret (fin_mk (by rfl) (by rfl) (by exact dB_eq (by simp only [decide_eq_true_eq, decide_eq_false_iff_not] at h0; rw [Bool.eq_iff_iff]; simp only [decide_eq_true_eq, reduceCtorEq, iff_false, false_iff]; omega)))
    · refine w_skip rfl rfl ?_;refine w_skip rfl rfl ?_;refine w_step tok rfl ?_;refine s_pick rfl rfl rfl ?_;refine s_end ?_;refine w_step tok rfl ?_;refine s_assign rfl rfl rfl ?_;refine s_end ?_;refine w_end rfl (hK _ ?_); clear hK K;refine AWP_ret ?_
      repeat (with_reducible refine tq_ret ?_)
      exact post_ret (fin_mk (by rfl) (by rfl) (by exact dB_eq (by simp only [decide_eq_true_eq, decide_eq_false_iff_not] at h0; rw [Bool.eq_iff_iff]; simp only [decide_eq_true_eq, reduceCtorEq, iff_false, false_iff]; omega)))
theorem small_c (l : List RW) : Con Try.prog 14 [V1 (dRs l)] { v := dB (smallL l) } := by
  have c := r2Few_c l
  refine con_intro (fn := Try.f14) tok Try.func14 (by kernel_rfl) rfl ?_
  intro w0 X
  rw [entry_mkE _ _ [(0, V1 (dRs l))] rfl rfl];refine AWP_reg_seq tok fun K hK => ?_;refine s_assign rfl rfl rfl ?_;refine s_end (hK _ ?_); clear hK K;refine AWP_reg_seq tok fun K hK => ?_;refine s_move rfl rfl rfl ?_;refine s_call rfl rfl (c) rfl rfl rfl rfl ?_;refine s_assign rfl rfl rfl ?_;refine s_end (hK _ ?_); clear hK K;refine AWP_ret ?_
  repeat (with_reducible refine tq_ret ?_)
  exact post_ret (fin_mk (by rfl) (by rfl) (by rfl))

def gTwo : GR := ⟨[rw00, rw00], [⟨0, 1, 0, 0, 1⟩, ⟨1, 0, 0, 0, 2⟩]⟩
theorem two_c : Con Try.prog 30 [] { v := AG gTwo.cs } := by
  refine con_intro (fn := Try.f30) tok Try.func30 (by kernel_rfl) rfl ?_
  intro w0 X
  rw [entry_mkE _ _ [] rfl rfl];refine AWP_reg_seq tok fun K hK => ?_;refine s_alloc rfl rfl rfl rfl rfl rfl ?_;refine s_end (hK _ ?_); clear hK K;refine AWP_reg_seq tok fun K hK => ?_;refine s_makeSlice (sz := _) (es := _) (f := _) (v := _) rfl (mk_a (l := 2) (z := rw00.dc) rfl rfl rfl rfl rfl (Nat.le_of_ble_eq_true rfl) (by decide) rfl rfl (by decide)) rfl rfl ?_;refine s_build rfl rfl rfl ?_;refine s_build rfl rfl rfl ?_;refine s_buildSlice rfl rfl rfl rfl ?_;refine s_build rfl rfl rfl ?_;refine s_storeB rfl rfl rfl rfl rfl ?_;refine s_end (hK _ ?_); clear hK K;refine AWP_ret ?_
  repeat (with_reducible refine tq_ret ?_)
  exact post_ret (fin_mk (by rfl) (by rfl) (by rfl))
theorem gTwo_v : validB gTwo = true := by decide
theorem gTwo_res : resQ gTwo 0 1 = 1 / 3 := by
  have gv := validB_iff.1 gTwo_v
  refine (res_isR gv (i := 0) (j := 1) (by decide) (by decide) (by decide)).uniq (wls_l gv) (by decide) (by decide) ⟨fun v => if v = 0 then 1 / 3 else 0, fun v hv => ?_, by decide +kernel⟩
  have : v = 0 ∨ v = 1 := by
    have : gTwo.nodes.length = 2 := rfl
    omega
  rcases this with rfl | rfl <;> decide +kernel
theorem awake_c : Con Try.prog 9 [] { v := dB true } := by
  have cR := gResist_c gTwo 0 1
  have e1 : resistV gTwo 0 1 = (qzW (1 / 3), 0) := by
    rw [resistV, if_pos gTwo_v, if_pos (by decide)]
    show rstV gTwo 0 1 = _
    rw [rstV, if_pos (by decide), gTwo_res]
  rw [e1] at cR
  have cT := gTrees_c gTwo
  have e2 : treesV gTwo = (3, 0) := by decide
  rw [e2] at cT
  have c3 : Con Try.prog 31 [dI 1, dI 3] { v := AG (qzW (1 / 3)).cs } := by
    have c := r2Of_c 1 3 ⟨by decide, by decide⟩ ⟨by decide, by decide⟩
    have e : Rat.divInt 1 3 = 1 / 3 := by decide +kernel
    rw [e] at c;exact c
  have cB := rat_same (qzW (1 / 3)) ⟨by decide +kernel, by decide +kernel⟩
  have cI := bInt_c false false [3] [3] (by decide)
  refine con_intro (fn := Try.f9) tok Try.func9 (by kernel_rfl) rfl ?_
  intro w0 X
  rw [entry_mkE _ _ [] rfl rfl];refine AWP_reg_seq tok fun K hK => ?_;refine s_assign rfl rfl rfl ?_;refine s_end (hK _ ?_); clear hK K;refine AWP_reg_seq tok fun K hK => ?_;refine s_call rfl rfl (two_c) rfl rfl rfl rfl ?_;refine s_call rfl rfl (cR) rfl rfl rfl rfl ?_;refine s_move rfl rfl rfl ?_;refine s_extract rfl rfl rfl ?_;refine s_extract rfl rfl rfl ?_;refine s_alloc rfl rfl rfl rfl rfl rfl ?_;refine s_store rfl rfl rfl rfl rfl ?_;refine s_assign rfl rfl rfl ?_;refine s_end (hK _ ?_); clear hK K;refine AWP_reg_seq tok fun K hK => ?_;refine s_call rfl rfl (two_c) rfl rfl rfl rfl ?_;refine s_call rfl rfl (cT) rfl rfl rfl rfl ?_;refine s_move rfl rfl rfl ?_;refine s_extract rfl rfl rfl ?_;refine s_extract rfl rfl rfl ?_;refine s_alloc rfl rfl rfl rfl rfl rfl ?_;refine s_store rfl rfl rfl rfl rfl ?_;refine s_assign rfl rfl rfl ?_;refine s_end (hK _ ?_); clear hK K;refine a_draw tok mixed (A := [[], [], [0], [0, 1], [0, 1], [0, 1], [0, 1, 3, 4], [0, 1, 2, 3, 4], [0, 1, 2, 3, 4, 5, 6], [0, 1, 2, 3, 4, 5, 6], [0, 1, 2, 3, 4, 5, 6, 8], [0, 1, 2, 3, 4, 5, 6, 8, 9], [0, 1, 2, 3, 4, 5, 6, 7, 8, 9, 10], [0, 1, 2, 3, 4, 5, 6, 7, 8, 9, 10], [0, 1, 2, 3, 4, 5, 6, 7, 8, 9, 10], [0, 1, 2, 3, 4, 5, 6, 7, 8, 9, 10, 13], [0, 1, 2, 3, 4, 5, 6, 7, 8, 9, 10, 12, 13, 14], []]) (an := [{}, {}, {}, {}, {}, {}, {}, {}, {}, {}, {}, {}, {}, {}, {}, {}, {}, {}]) rfl (by kernel_rfl) rfl fun K hK => ?_;refine s_move rfl rfl rfl ?_;refine s_bin rfl rfl rfl ?_;refine s_move rfl rfl rfl ?_;refine s_load rfl rfl rfl ?_;refine s_call rfl rfl (c3) rfl rfl rfl rfl ?_;refine s_call rfl rfl (cB) rfl rfl rfl rfl ?_;refine s_pick rfl rfl rfl ?_;refine s_move rfl rfl rfl ?_;refine s_move rfl rfl rfl ?_;refine s_bin rfl rfl rfl ?_;refine s_pick rfl rfl rfl ?_;refine s_move rfl rfl rfl ?_;refine s_load rfl rfl rfl ?_;refine s_buildSlice rfl rfl rfl rfl ?_;refine s_build rfl rfl rfl ?_;refine s_callF rfl rfl (cI) ⟨rfl, fun _ _ h => by cases h⟩ rfl rfl rfl ?_;refine s_pick rfl rfl rfl ?_;refine s_assign rfl rfl rfl ?_;refine s_end (hK _ ?_); clear hK K;refine AWP_ret ?_
  repeat (with_reducible refine tq_ret ?_)
  exact post_ret (fin_mk (by rfl) (by rfl) (by rfl))

theorem rw00_ok (k : Nat) : rw00.OK k := ⟨wOK.nil, wOK.nil, Nat.zero_le _, Nat.zero_le _⟩
theorem resistV_ok (g : GR) (i j : Int) : (resistV g i j).1.OK 65536 := by
  unfold resistV
  split
  · split
    · unfold rstV
      split
      · exact qzW_ok (resQ_ql (validB_iff.1 (by assumption)) (by omega) (by omega) (by assumption))
      · exact rw00_ok _
    · exact rw00_ok _
  · exact rw00_ok _

end Go.Proofs.Ytgopibpkgmafiaa

/- law32: Triangle, More. No condition. -/
namespace Go.Proofs.Ytgopibpkgmafiaa
attribute [local irreducible] lexA

theorem zcmp_le (x y : Int) : zcmp x y ≤ 0 ↔ x ≤ y := by unfold zcmp; (repeat' split) <;> omega
theorem qcmp_le (x y : Rat) : qcmp x y ≤ 0 ↔ x ≤ y := by
  unfold qcmp
  rw [zcmp_le, Rat.le_iff]
theorem trZ_zl8 {ls : List LK} (p : Nat → Nat) (left : Nat) (h : ∀ l ∈ ls, 0 ≤ l.w ∧ l.w ≤ 1048576) (hl : ls.length ≤ 11) : zl (trZ p left ls) ≤ 8 := by
  have b := trZ_bd ls p left h
  exact zl_pow (k := 21 * ls.length) (by omega) (by omega)
theorem res_few {g : GR} (gv : GV g) (h11 : g.links.length ≤ 11) {i j : Nat} (hi : i < g.nodes.length) (hj : j < g.nodes.length) (hl : lab g i = lab g j) : ql (resQ g i j) ≤ 8 := by
  rw [← refQ_eq gv hi hj hl]
  unfold refQ
  split
  · decide
  · have hw : ∀ l ∈ prE g i g.links, 0 ≤ l.w ∧ l.w ≤ 1048576 := fun l hl => by
      obtain ⟨x, hx, rfl⟩ := List.mem_map.1 hl
      have := (gLV gv x (List.mem_filter.1 hx).1).w
      show 0 ≤ x.w ∧ x.w ≤ 1048576
      omega
    have hle : (prE g i g.links).length ≤ 11 := by
      unfold prE; rw [List.length_map]
      exact Nat.le_trans (List.length_filter_le _ _) h11
    exact ql_divInt_le rfl (trZ_zl8 _ _ hw hle) (trZ_zl8 _ _ hw hle)
theorem fwN_ok {r : RW} {k : Nat} (h : r.OK k) : fwN r ≤ 2 * k := by
  have := h.lp
  have := h.lq
  unfold fwN; omega
/-- A resistance between nodes that are joined. -/
theorem rst_few {g : GR} (h : validB g = true) (h11 : g.links.length ≤ 11) {i j : Int} (he : (resistV g i j).2 = 0) :
    (0 ≤ i ∧ i < (g.nodes.length : Int) ∧ 0 ≤ j ∧ j < (g.nodes.length : Int)) ∧ lab g i.toNat = lab g j.toNat ∧ (resistV g i j) = (qzW (resQ g i.toNat j.toNat), 0) ∧ (qzW (resQ g i.toNat j.toNat)).OK 8 := by
  unfold resistV at he ⊢
  rw [if_pos h] at he ⊢
  by_cases h2 : 0 ≤ i ∧ i < (g.nodes.length : Int) ∧ 0 ≤ j ∧ j < (g.nodes.length : Int)
  · rw [if_pos h2] at he ⊢
    unfold rstV at he ⊢
    by_cases h3 : lab g i.toNat = lab g j.toNat
    · rw [if_pos h3];exact ⟨h2, h3, rfl, qzW_ok (res_few (validB_iff.1 h) h11 (by omega) (by omega) h3)⟩
    · rw [if_neg h3] at he; cases he
  · rw [if_neg h2] at he; cases he
theorem resist_valid {g : GR} {i j : Int} (he : (resistV g i j).2 = 0) : validB g = true := by
  unfold resistV at he
  by_cases h : validB g = true
  · exact h
  · rw [if_neg h] at he; cases he
theorem e_leI {T : Tab} {t : TypeId} {a b : Int} {c : Bool} (h : decide (a ≤ b) = c) : effBin T .leq t (dI a) (dI b) = .set (dB c) := by subst h; rfl
end Go.Proofs.Ytgopibpkgmafiaa

/- law32: More. No condition. -/
namespace Go.Proofs.Ytgopibpkgmafiaa
attribute [local irreducible] lexA

theorem e_mulW {T : Tab} {t : TypeId} {a b c : Int} (h : IntKind.i64.wrap (a * b) = c) : effBin T .mul t (dI a) (dI b) = .set (dI c) := by subst h; rfl
theorem mm_minI {T : Tab} {S : Objs} (a b : Int) {ts : List TypeId} : effCall T ⟨[], S, []⟩ (.builtin .min) [dI a, dI b] ts = .set (dI (if b < a then b else a)) := by
  simp only [effCall, effMM, intOfS, if_true, Bool.false_eq_true, if_false, setLit]
section
variable {T : Tab} {t e : TypeId} {ti ei : TI}
theorem splL_set {α : Type} (x : α) (l : List α) (j : Nat) : splL l j [x] = l.set j x := rfl
/-- A field of an element of an own array. -/
theorem l_f {S : Objs} {id sz i j : Nat} {es : List (List DC)} {el : List DC} {x : DC} (h1 : T t = some ti) (h4 : ti.size = 1) (h5 : ti.agg = false) (hS : S id = some (.arr sz es)) (hel : es[i]? = some el) (hx : el[j]? = some x) :
    effLoad T ⟨[], S, []⟩ t (.pe id sz i j) = .set (V1 x) := by
  have hj : j < el.length := (List.getElem?_eq_some_iff.1 hx).1
  have e : (el.drop j).take 1 = [x] := by
    rw [List.drop_eq_getElem_cons hj]
    have := (List.getElem?_eq_some_iff.1 hx).2
    rw [this]; rfl
  simp only [effLoad, h1, hS, if_true, hel, h4, show j + 1 ≤ el.length from hj, e, List.map_cons, List.map_nil, h5]
  rfl
theorem st_f {S : Objs} {rb : List Nat} {id sz i j : Nat} {es : List (List DC)} {el : List DC} (x : DC) (h1 : T t = some ti) (h4 : ti.size = 1) (hS : S id = some (.arr sz es)) (hel : es[i]? = some el) (hj : j < el.length) :
    effStore T ⟨[], S, rb⟩ t (.pe id sz i j) (V1 x) = .upd (updO S id (.arr sz (es.set i (el.set j x)))) rb := by
  simp only [effStore, h1, h4, cellsOf, List.length_singleton, if_true, hS, dataL, SC.data?, hel, show j + 1 ≤ el.length from hj, splL_set]
end

/-- The k-th link with another weight. -/
def upW (g : GR) (k : Nat) (l : LK) (w : Int) : GR := ⟨g.nodes, g.links.set k ⟨l.f, l.t, l.x, l.y, w⟩⟩
theorem EN_upW (y : Nat → Rat) (w : Int) : ∀ {ls : List LK} {k : Nat} {l : LK}, ls[k]? = some l → EN y y (wls (ls.set k ⟨l.f, l.t, l.x, l.y, w⟩)) = EN y y (wls ls) + ((w : Rat) - (l.w : Rat)) * ((y l.f.toNat - y l.t.toNat) * (y l.f.toNat - y l.t.toNat))
  | [], k, l, h => by simp at h
  | x :: xs, 0, l, h => by
    simp only [List.getElem?_cons_zero, Option.some.injEq] at h
    subst h
    show EN y y (wls xs) + (w : Rat) * _ = EN y y (wls xs) + (x.w : Rat) * _ + _
    simp only [wlk]; grind
  | x :: xs, k + 1, l, h => by
    have ih := EN_upW y w (ls := xs) (k := k) (l := l) (by simpa using h)
    show EN y y (wls (xs.set k _)) + _ = EN y y (wls xs) + _ + _
    rw [ih]; grind
theorem prs_upW (w : Int) : ∀ {ls : List LK} {k : Nat} {l : LK}, ls[k]? = some l → prs (ls.set k ⟨l.f, l.t, l.x, l.y, w⟩) = prs ls
  | [], k, l, h => by simp at h
  | x :: xs, 0, l, h => by
    simp only [List.getElem?_cons_zero, Option.some.injEq] at h
    subst h; rfl
  | x :: xs, k + 1, l, h => by
    have ih := prs_upW w (ls := xs) (k := k) (l := l) (by simpa using h)
    simp only [prs, List.set_cons_succ, List.map_cons] at ih ⊢;rw [ih]
theorem upW_GV {g : GR} (gv : GV g) {k : Nat} {l : LK} {w : Int} (h : g.links[k]? = some l) (hw : 1 ≤ w ∧ w ≤ 1048576) : GV (upW g k l w) := by
  refine ⟨gv.n1, gv.n2, ?_, fun x hx => ?_⟩
  · show (g.links.set k _).length ≤ 48
    rw [List.length_set]; exact gv.l
  · have lv := gLV gv l (List.mem_of_getElem? h)
    rcases List.mem_or_eq_of_mem_set hx with hx | rfl
    · exact gv.lk x hx
    · exact linkB_iff.2 ⟨lv.f, lv.t, lv.ne, lv.x, lv.y, hw⟩
theorem upW_lab {g : GR} (gv : GV g) {k : Nat} {l : LK} {w : Int} (h : g.links[k]? = some l) (hw : 1 ≤ w ∧ w ≤ 1048576) (v : Nat) : lab (upW g k l w) v = lab g v := by
  rw [lab_labF (upW_GV gv h hw), lab_labF gv]
  have : partsR (upW g k l w) = partsR g := by
    unfold partsR
    rw [partsL_uniL, partsL_uniL]
    show uniL g.nodes.length (prs (g.links.set k _)) = _
    rw [prs_upW w h]
  rw [this]; rfl
theorem rat_le_of_int {a b : Int} (h : a ≤ b) : (a : Rat) ≤ (b : Rat) := Rat.intCast_le_intCast.2 h
theorem more_few {g : GR} {i j : Int} {k : Nat} {l : LK} {w : Int} (hf : fewL g = true) (he : (resistV g i j).2 = 0) (h : g.links[k]? = some l) (hw : l.w ≤ w ∧ w ≤ 1048576) :
    ∃ x y : Rat, resistV g i j = (qzW x, 0) ∧ resistV (upW g k l w) i j = (qzW y, 0) ∧ (qzW x).OK 8 ∧ (qzW y).OK 8 ∧ y ≤ x := by
  have h11 : g.links.length ≤ 11 := (of_decide_eq_true hf).2.1
  have hv := resist_valid he
  have gv := validB_iff.1 hv
  obtain ⟨p1, p2, p3, p4⟩ := rst_few hv h11 he
  have lv := gLV gv l (List.mem_of_getElem? h)
  have hw' : 1 ≤ w ∧ w ≤ 1048576 := ⟨by have := lv.w; omega, hw.2⟩
  have gv' := upW_GV gv h hw'
  have hi : i.toNat < g.nodes.length := by omega
  have hj : j.toNat < g.nodes.length := by omega
  have hl' : lab (upW g k l w) i.toNat = lab (upW g k l w) j.toNat := by rw [upW_lab gv h hw', upW_lab gv h hw', p2]
  have r2 : resistV (upW g k l w) i j = (qzW (resQ (upW g k l w) i.toNat j.toNat), 0) := by
    unfold resistV
    rw [if_pos (validB_iff.2 gv'), if_pos (show 0 ≤ i ∧ i < ((upW g k l w).nodes.length : Int) ∧ 0 ≤ j ∧ j < ((upW g k l w).nodes.length : Int) from p1)]
    unfold rstV
    rw [if_pos hl']
  have h11' : (upW g k l w).links.length ≤ 11 := by show (g.links.set k _).length ≤ 11; rw [List.length_set]; exact h11
  refine ⟨_, _, p3, r2, p4, qzW_ok (res_few gv' h11' (show _ < g.nodes.length from hi) (show _ < g.nodes.length from hj) hl'), ?_⟩;refine IsR.more (ls' := wls (upW g k l w).links) (wls_w gv) (wls_l gv) (show ∀ x ∈ wls (upW g k l w).links, x.f < g.nodes.length ∧ x.t < g.nodes.length from wls_l gv') hi hj (fun y => ?_) (res_isR gv hi hj p2) (res_isR gv' hi hj hl')
  show EN y y (wls g.links) ≤ EN y y (wls (g.links.set k _))
  rw [EN_upW y w h]
  have h1 := rat_le_of_int hw.1
  have h2 := Rat.mul_nonneg (show 0 ≤ (w : Rat) - (l.w : Rat) by grind) (sq_nnD (y l.f.toNat - y l.t.toNat))
  grind

set_option maxHeartbeats 1000000 in
theorem lMore_c (g : GR) (k : Nat) (a : Int × Int) (hk : k < 256) (hg : g.W) : Con Try.prog 5 [AG g.cs, V1 (.lit (.int .u8 k)), AG [.d (lI a.1), .d (lI a.2)]] { v := dB true } := by
  obtain ⟨i, j⟩ := a
  simp only
  refine con_intro (fn := Try.f5) tok Try.func5 (by kernel_rfl) rfl ?_
  intro w0 X
  rw [entry_mkE _ _ [(0, AG g.cs), (1, V1 (.lit (.int .u8 k))), (2, AG [.d (lI i), .d (lI j)])] rfl rfl];refine AWP_reg_seq tok fun K hK => ?_;refine s_box rfl rfl rfl rfl rfl rfl ?_;refine s_box rfl rfl rfl rfl rfl rfl ?_;refine s_assign rfl rfl rfl ?_;refine s_end (hK _ ?_); clear hK K;refine AWP_seq ?_;refine a_join (α := Bool) (fun c => mk 96 [(1, V1 (.lit (.int .u8 k))), (3, .ptr 3 0), (5, .ptr 5 0), (25, dB c)] [(3, some (.box g.cs)), (5, some (.box [.d (lI i), .d (lI j)]))] []) (fun c => c = !(fewL g && decide (g.links.length ≠ 0))) ?_ ?_
  · refine AWP_regW fun K hK => ?_;refine w_step tok rfl ?_;refine s_call rfl rfl (awake_c) rfl rfl rfl rfl ?_;refine s_end ?_;refine w_step tok rfl ?_;refine s_un rfl rfl rfl ?_;refine s_end ?_;refine w_step tok rfl ?_;refine s_move rfl rfl rfl ?_;refine s_end ?_;refine w_split (fun h0 => ?_) (fun h0 => ?_)
    · refine w_skip rfl rfl ?_;refine w_skip rfl rfl ?_;refine w_skip rfl rfl ?_;refine w_step tok rfl ?_;refine s_pick rfl rfl rfl ?_;refine s_end ?_;refine w_step tok rfl ?_;refine s_move rfl rfl rfl ?_;refine s_end ?_;refine w_skip rfl rfl ?_;refine w_skip rfl rfl ?_;refine w_skip rfl rfl ?_;refine w_skip rfl rfl ?_;refine w_step tok rfl ?_;refine s_pick rfl rfl rfl ?_;refine s_end ?_;refine w_end rfl (hK _ ?_); clear hK K
      first|(exact absurd h0 (by decide))|exact ⟨_, (by simp only [Bool.not_eq_true', Bool.not_eq_false'] at h0; simp only [h0, Bool.false_and, Bool.true_and, Bool.not_false, Bool.not_true]; try (rw [Bool.eq_iff_iff]; simp only [beq_iff_eq, Bool.not_eq_true', decide_eq_false_iff_not]; omega)), Wk.mk' ⟨rfl, rfl, rfl, rfl, trivial⟩ ⟨rfl, rfl, trivial⟩⟩
    · refine w_step tok rfl ?_;refine s_load rfl rfl rfl ?_;refine s_end ?_;refine w_step tok rfl ?_;refine s_call rfl rfl (rFew_c g) rfl rfl rfl rfl ?_;refine s_end ?_;refine w_step tok rfl ?_;refine s_un rfl rfl rfl ?_;refine s_end ?_;refine w_step tok rfl ?_;refine s_pick rfl rfl rfl ?_;refine s_end ?_;refine w_step tok rfl ?_;refine s_move rfl rfl rfl ?_;refine s_end ?_;refine w_split (fun h1 => ?_) (fun h1 => ?_)
      · refine w_skip rfl rfl ?_;refine w_skip rfl rfl ?_;refine w_skip rfl rfl ?_;refine w_skip rfl rfl ?_;refine w_step tok rfl ?_;refine s_pick rfl rfl rfl ?_;refine s_end ?_;refine w_end rfl (hK _ ?_); clear hK K
        first|(exact absurd h0 (by decide))|exact ⟨_, (by simp only [Bool.not_eq_true', Bool.not_eq_false'] at h0 h1; simp only [h0, h1, Bool.false_and, Bool.true_and, Bool.not_false, Bool.not_true]; try (rw [Bool.eq_iff_iff]; simp only [beq_iff_eq, Bool.not_eq_true', decide_eq_false_iff_not]; omega)), Wk.mk' ⟨rfl, rfl, rfl, rfl, trivial⟩ ⟨rfl, rfl, trivial⟩⟩
      · refine w_step tok rfl ?_;refine s_fieldAddr rfl rfl rfl ?_;refine s_end ?_;refine w_step tok rfl ?_;refine s_load rfl rfl rfl ?_;refine s_end ?_;refine w_step tok rfl ?_;refine s_blt rfl (len_m LK.dc rfl rfl) rfl ?_;refine s_end ?_;refine w_step tok rfl ?_;refine s_bin rfl rfl rfl ?_;refine s_end ?_;refine w_step tok rfl ?_;refine s_pick rfl rfl rfl ?_;refine s_end ?_;refine w_end rfl (hK _ ?_); clear hK K
        first|(exact absurd h0 (by decide))|exact ⟨_, (by simp only [Bool.not_eq_true', Bool.not_eq_false'] at h0 h1; simp only [h0, h1, Bool.false_and, Bool.true_and, Bool.not_false, Bool.not_true]; try (rw [Bool.eq_iff_iff]; simp only [beq_iff_eq, Bool.not_eq_true', decide_eq_false_iff_not]; omega)), Wk.mk' ⟨rfl, rfl, rfl, rfl, trivial⟩ ⟨rfl, rfl, trivial⟩⟩
  rintro c rfl
  refine a_cond rfl (fun hc => ?_) (fun hc => ?_)
  · refine AWP_reg_seq tok fun K hK => ?_;refine s_call rfl rfl (awake_c) rfl rfl rfl rfl ?_;refine s_assign rfl rfl rfl ?_;refine s_end (hK _ ?_); clear hK K;refine AWP_ret ?_
    repeat (with_reducible refine tq_ret ?_)
    exact post_ret (fin_mk (by rfl) (by rfl) (by rfl))
  rw [Bool.not_eq_false', Bool.and_eq_true, decide_eq_true_eq] at hc
  obtain ⟨hf, h3⟩ := hc
  have h11 : g.links.length ≤ 11 := (of_decide_eq_true hf).2.1
  obtain ⟨q, hq⟩ : ∃ q, k % g.links.length = q := ⟨_, rfl⟩
  have hql : q < g.links.length := by rw [← hq]; exact Nat.mod_lt _ (by omega)
  obtain ⟨l, hl⟩ : ∃ l, g.links[q]? = some l := ⟨_, List.getElem?_eq_getElem hql⟩
  have hle : g.links[q] = l := by rw [List.getElem?_eq_getElem hql] at hl; exact Option.some.inj hl
  obtain ⟨w, hw⟩ : ∃ w, w = IntKind.i64.wrap ((if (524288 : Int) < l.w then 524288 else l.w) * 2) := ⟨_, rfl⟩
  have hlm : (g.links.map LK.dc)[q]? = some l.dc := by rw [List.getElem?_map, hl]; rfl
  have c1 := gResist_c g i j
  have c2 := gResist_c (upW g q l w) i j
  have e2 : (g.links.map LK.dc).set q (l.dc.set 4 (lI w)) = (upW g q l w).links.map LK.dc := by
    show _ = (g.links.set q _).map LK.dc
    rw [List.map_set]; rfl
  have key : (resistV g i j).2 = 0 → l.w ≤ 524288 → ∃ x y : Rat, resistV g i j = (qzW x, 0) ∧ resistV (upW g q l w) i j = (qzW y, 0) ∧ (qzW x).OK 8 ∧ (qzW y).OK 8 ∧ y ≤ x := by
    intro h1 h2
    have lv := gLV (validB_iff.1 (resist_valid h1)) l (List.mem_of_getElem? hl)
    have hlw := lv.w
    have e : w = l.w * 2 := by
      rw [hw, if_neg (by omega)]; exact IntWalk.i64_in _ (by omega)
    exact more_few hf h1 hl (by omega)
  refine AWP_skip ?_;show AWP _ _ _ _ _ _;refine AWP_reg_seq tok fun K hK => ?_;refine s_move rfl rfl rfl ?_;refine s_conv rfl (e_conv rfl rfl rfl (u8_i64 hk)) rfl ?_;refine s_fieldAddr rfl rfl rfl ?_;refine s_load rfl rfl rfl ?_;refine s_blt rfl (len_m LK.dc rfl rfl) rfl ?_;refine s_bin rfl (e_remI (by omega) (by omega) hq) rfl ?_;refine s_assign rfl rfl rfl ?_;refine s_end (hK _ ?_); clear hK K;refine a_draw tok mixed (A := [[], [], [], [], [], [3], [0, 2, 3, 4], [], []]) (an := [{}, {}, {}, { c := [35] }, { c := [35] }, { d := [33] }, {}, { c := [35, 38] }, {}]) rfl (by kernel_rfl) rfl fun K hK => ?_;refine s_fieldAddr rfl rfl rfl ?_;refine s_load rfl rfl rfl ?_;refine s_buildSlice rfl rfl rfl rfl ?_;refine s_fieldAddr rfl rfl rfl ?_;refine s_load rfl rfl rfl ?_;refine s_append rfl (ap_o rfl rfl rfl rfl rfl rfl (by decide) (Nat.le_of_ble_eq_true rfl) rfl (fun e he => by obtain ⟨x, _, rfl⟩ := List.mem_map.1 he; rfl) rfl rfl rfl (by rw [List.length_map]; exact Nat.le_trans (by omega : 0 + g.links.length ≤ 1048576) (by decide))) rfl rfl rfl ?_;refine s_build rfl rfl rfl ?_;refine s_alloc rfl rfl rfl rfl rfl rfl ?_;refine s_storeB rfl rfl rfl rfl rfl ?_;refine s_end (hK _ ?_); clear hK K
  have zl0 : (0 + (g.links.map LK.dc).length) = g.links.length := by simp
  refine a_draw tok mixed (A := [[], [], [], [], [], [], [3], [3, 4, 5], [3, 4, 5, 6], [3, 4, 5, 6, 7], [3, 4, 5, 6, 7, 8], [], [], [11]]) (an := [{}, {}, {}, {}, {}, {}, {}, {}, {}, {}, {}, {}, {}, {}]) rfl (by kernel_rfl) rfl fun K hK => ?_;refine s_fieldAddr rfl rfl rfl ?_;refine s_load rfl rfl rfl ?_;refine s_move rfl rfl rfl ?_;refine s_fieldAddr rfl rfl rfl ?_;refine s_load rfl rfl rfl ?_;refine s_move rfl rfl rfl ?_;refine s_indexAddr rfl (x_o (i := q) (j := q) rfl rfl rfl rfl rfl (by simp; exact hql) (Nat.zero_add _)) rfl ?_;refine s_fieldAddr rfl rfl rfl ?_;refine s_load rfl (l_f (x := lI l.w) rfl rfl rfl rfl hlm rfl) rfl ?_;refine s_blt rfl (mm_minI _ _) rfl ?_;refine s_bin rfl (e_mulW hw.symm) rfl ?_;refine s_indexAddr rfl (x_o (i := q) (j := q) rfl rfl rfl rfl rfl (by simp; exact hql) (Nat.zero_add _)) rfl ?_;refine s_fieldAddr rfl rfl rfl ?_;refine s_store rfl (st_f (j := 4) (lI w) rfl rfl rfl hlm (by show 4 < 5; decide)) rfl rfl rfl ?_;refine s_end (hK _ ?_); clear hK K;refine a_fz [3, 5, 7, 8] [3, 5, 8, 38] 38 [(3, .ptr 3 0), (5, .ptr 5 0), (7, dI q), (8, .ptr 8 0)] [(3, some (.box g.cs)), (5, some (.box [.d (lI i), .d (lI j)])), (8, some (.box (upW g q l w).cs))] rfl ⟨rfl, rfl, rfl, rfl, trivial⟩ ?_ ?_
  · refine ⟨rfl, rfl, ?_, trivial⟩
    have ez := frzC_own (id := 38) (sz := 5) (len := (g.links.map LK.dc).length) e2 (by show _ = ((g.links.set q _).map LK.dc).length; simp)
    exact Eq.trans rfl (congrArg (fun c => some (OO.box [.d (dRs g.nodes), c])) ez)
  have l1 := resistV_ok g i j
  generalize resistV g i j = r1 at c1 key l1;generalize resistV (upW g q l w) i j = r2 at c2 key
  obtain ⟨r1, e1⟩ := r1
  obtain ⟨r2, e2⟩ := r2
  simp only at c1 c2 key l1
  refine AWP_reg_seq tok fun K hK => ?_;refine s_load rfl rfl rfl ?_;refine s_indexAddr rfl rfl rfl ?_;refine s_load rfl rfl rfl ?_;refine s_indexAddr rfl rfl rfl ?_;refine s_load rfl rfl rfl ?_;refine s_call rfl rfl (c1) rfl rfl rfl rfl ?_;refine s_move rfl rfl rfl ?_;refine s_extract rfl rfl rfl ?_;refine s_extract rfl rfl rfl ?_;refine s_alloc rfl rfl rfl rfl rfl rfl ?_;refine s_store rfl rfl rfl rfl rfl ?_;refine s_assign rfl rfl rfl ?_;refine s_end (hK _ ?_); clear hK K;refine AWP_reg_seq tok fun K hK => ?_;refine s_load rfl rfl rfl ?_;refine s_indexAddr rfl rfl rfl ?_;refine s_load rfl rfl rfl ?_;refine s_indexAddr rfl rfl rfl ?_;refine s_load rfl rfl rfl ?_;refine s_call rfl rfl (c2) rfl rfl rfl rfl ?_;refine s_move rfl rfl rfl ?_;refine s_extract rfl rfl rfl ?_;refine s_extract rfl rfl rfl ?_;refine s_alloc rfl rfl rfl rfl rfl rfl ?_;refine s_store rfl rfl rfl rfl rfl ?_;refine s_assign rfl rfl rfl ?_;refine s_end (hK _ ?_); clear hK K;refine AWP_seq ?_;refine a_join (α := Bool) (fun c => mk 96 [(3, .ptr 3 0), (9, .ptr 9 0), (11, .ptr 11 0), (12, dI e2), (81, dB c)] [(3, some (.box g.cs)), (9, some (.box r1.cs)), (11, some (.box r2.cs))] [8]) (fun c => c = decide (e1 ≠ 0 ∨ g.links[q].w > 524288)) ?_ ?_
  · refine AWP_regW fun K hK => ?_;refine w_step tok rfl ?_;refine s_move rfl rfl rfl ?_;refine s_end ?_;refine w_step tok rfl ?_;refine s_bin rfl rfl rfl ?_;refine s_end ?_;refine w_step tok rfl ?_;refine s_move rfl rfl rfl ?_;refine s_end ?_;refine w_split (fun h0 => ?_) (fun h0 => ?_)
    · refine w_skip rfl rfl ?_;refine w_skip rfl rfl ?_;refine w_skip rfl rfl ?_;refine w_skip rfl rfl ?_;refine w_skip rfl rfl ?_;refine w_skip rfl rfl ?_;refine w_skip rfl rfl ?_;refine w_step tok rfl ?_;refine s_pick rfl rfl rfl ?_;refine s_end ?_;refine w_end rfl (hK _ ?_); clear hK K;exact ⟨_, (by simp only [e_ne, bne_iff_ne, ne_eq, bne_eq_false_iff_eq, decide_eq_true_eq, decide_eq_false_iff_not, Classical.not_not] at h0; rw [Bool.eq_iff_iff]; simp only [bne_iff_ne, decide_eq_true_eq, true_iff, ne_eq]; omega), Wk.mk' ⟨rfl, rfl, rfl, rfl, rfl, trivial⟩ ⟨rfl, rfl, rfl, trivial⟩⟩
    · refine w_step tok rfl ?_;refine s_fieldAddr rfl rfl rfl ?_;refine s_end ?_;refine w_step tok rfl ?_;refine s_load rfl rfl rfl ?_;refine s_end ?_;refine w_step tok rfl ?_;refine s_move rfl rfl rfl ?_;refine s_end ?_;refine w_step tok rfl ?_;refine s_indexAddr rfl (x_m LK.dc rfl rfl rfl rfl hql rfl) rfl ?_;refine s_end ?_;refine w_step tok rfl ?_;refine s_fieldAddr rfl rfl rfl ?_;refine s_end ?_;refine w_step tok rfl ?_;refine s_load rfl rfl rfl ?_;refine s_end ?_;refine w_step tok rfl ?_;refine s_bin rfl rfl rfl ?_;refine s_end ?_;refine w_step tok rfl ?_;refine s_pick rfl rfl rfl ?_;refine s_end ?_;refine w_end rfl (hK _ ?_); clear hK K;exact ⟨_, (by simp only [e_ne, bne_iff_ne, ne_eq, bne_eq_false_iff_eq, decide_eq_true_eq, decide_eq_false_iff_not, Classical.not_not] at h0; rw [Bool.eq_iff_iff]; simp only [bne_iff_ne, decide_eq_true_eq, true_iff, ne_eq]; omega), Wk.mk' ⟨rfl, rfl, rfl, rfl, rfl, trivial⟩ ⟨rfl, rfl, rfl, trivial⟩⟩
  rintro c rfl
  refine a_cond rfl (fun hd => ?_) (fun hd => ?_)
  · refine AWP_reg_seq tok fun K hK => ?_;refine s_assign rfl rfl rfl ?_;refine s_end (hK _ ?_); clear hK K;refine AWP_ret ?_
    repeat (with_reducible refine tq_ret ?_)
    exact post_ret (fin_mk (by rfl) (by rfl) (by rfl))
  · have hd := of_decide_eq_false hd
    rw [hle] at hd
    obtain ⟨x, y, k1, k2, o1, o2, hxy⟩ := key (by omega) (by omega)
    cases k1
    cases k2
    have cS := small_c [qzW x, qzW y]
    have eS : smallL [qzW x, qzW y] = true := decide_eq_true ⟨by simp, by
      have a1 := fwN_ok o1
      have a2 := fwN_ok o2
      simp only [List.take_succ_cons, List.take_nil, fwS]; omega⟩
    rw [eS] at cS
    have cC := qCmp_t (qzW y) (qzW x) (o2.mono rfl) (o1.mono rfl)
    rw [qzW_v, qzW_v] at cC
    have hC : decide (qcmp y x ≤ 0) = true := decide_eq_true ((qcmp_le _ _).2 hxy)
    generalize qcmp y x = cc at cC hC;refine AWP_skip ?_;show AWP _ _ _ _ _ _;refine AWP_reg_seq tok fun K hK => ?_;refine s_move rfl rfl rfl ?_;refine s_bin rfl rfl rfl ?_;refine s_move rfl rfl rfl ?_;refine s_load rfl rfl rfl ?_;refine s_load rfl rfl rfl ?_;refine s_buildSlice rfl rfl rfl rfl ?_;refine s_callF rfl rfl (cS) ⟨rfl, fun _ _ h => by cases h⟩ rfl rfl rfl ?_;refine s_pick rfl rfl rfl ?_;refine s_move rfl rfl rfl ?_;refine s_load rfl rfl rfl ?_;refine s_load rfl rfl rfl ?_;refine s_call rfl rfl (cC) rfl rfl rfl rfl ?_;refine s_bin rfl (e_leI hC) rfl ?_;refine s_pick rfl rfl rfl ?_;refine s_assign rfl rfl rfl ?_;refine s_end (hK _ ?_); clear hK K;refine AWP_ret ?_
    repeat (with_reducible refine tq_ret ?_)
    exact post_ret (fin_mk (by rfl) (by rfl) (by rfl))
end Go.Proofs.Ytgopibpkgmafiaa
