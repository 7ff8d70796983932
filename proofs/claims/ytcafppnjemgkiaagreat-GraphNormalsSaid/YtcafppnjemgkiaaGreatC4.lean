/- Part of a proof that a Go function answers true for every input. No condition. -/
import Derived.Test.YtcafppnjemgkiaaGreatC3
set_option linter.unusedVariables false
set_option linter.unusedSimpArgs false
set_option linter.unusedSectionVars false
/- The reference's integers: halves, quotients, the greatest common divisor. No condition. -/
namespace Go.Proofs.YtcafppnjemgkiaaGreat
attribute [local irreducible] lexA

theorem ZC_nat (n : Nat) : ZC (n : Int) = IC false (wof n) := by
  unfold ZC
  rw [Int.natAbs_natCast, decide_eq_false (by omega)]
theorem ncmp_eq {m n : Nat} : ncmp m n = 0 ↔ m = n := by
  unfold ncmp
  by_cases h : m < n
  · simp [h]; omega
  · rw [if_neg h]; split <;> omega
theorem ncmp_gt {m n : Nat} : ncmp m n > 0 ↔ n < m := by
  unfold ncmp
  by_cases h : m < n
  · simp [h]; omega
  · rw [if_neg h]; split <;> omega
theorem wof_even (X : Nat) : (wof X).getD 0 0 % 2 = X % 2 := by
  rw [wv_get (wof_ok X), wv_wof, Nat.pow_zero, Nat.div_one]; omega
theorem wof_pos {X : Nat} (h : 0 < X) : 0 < (wof X).length := by
  rw [List.length_pos_iff, ne_eq, wof_nil]; omega
theorem gcd_half {X Y : Nat} (hx : X % 2 = 0) (hy : Y % 2 = 1) : Nat.gcd (X / 2) Y = Nat.gcd X Y := by
  have hc : Nat.Coprime 2 Y := by unfold Nat.Coprime; rw [Nat.gcd_rec, hy]; rfl
  have : X = 2 * (X / 2) := by omega
  conv => rhs; rw [this]
  exact (Nat.Coprime.gcd_mul_left_cancel _ hc).symm

theorem r1half_c (m : List Nat) (hm : wOK m) (lm : m.length ≤ 1073741824) : Con Tryz.prog 99 [V1 (dW m)] { v := V1 (dW (wof (wv m / 2))) } := by
  refine con_intro (fn := Tryz.f99) tok Tryz.func99 (by kernel_rfl) rfl ?_
  intro w0 X
  rw [entry_mkE _ _ [(0, V1 (dW m))] rfl rfl]
  refine AWP_reg_seq tok fun K hK => ?_
  refine s_assign rfl rfl rfl ?_
  refine s_end (hK _ ?_); clear hK K
  refine AWP_reg_seq tok fun K hK => ?_
  refine s_buildSlice rfl rfl rfl rfl ?_
  refine s_move rfl rfl rfl ?_
  refine s_append rfl (ap_o (es := []) rfl rfl rfl rfl rfl rfl (by decide) (Nat.le_of_ble_eq_true rfl) rfl cW_len rfl rfl rfl (by simp; omega)) rfl rfl ?_
  refine s_assign rfl rfl rfl ?_
  refine s_end (hK _ ?_); clear hK K
  refine AWP_seq ?_
  refine AWP_reg_seq tok fun K hK => ?_
  refine s_assign rfl rfl rfl ?_
  refine s_end (hK _ ?_); clear hK K
  refine AWP_block (a_loop (α := Nat × List Nat) (fun p => mk 44 [(0, V1 (dW m)), (3, .val (.one (.own 7 1 0 m.length))), (4, dI p.1)] [(7, some (.arr 1 (p.2.map cW)))] []) (fun p => p.1 ≤ m.length ∧ p.2.length = m.length ∧ ∀ k, p.2.getD k 0 = if k < p.1 then wv m / 2 / 4294967296 ^ k % 4294967296 else m.getD k 0) (fun p => m.length - p.1) (0, m) ?_ ⟨Nat.zero_le _, rfl, fun k => by simp⟩ ?_)
  · refine Wk.mk' ⟨rfl, ?_, rfl, trivial⟩ ⟨rfl, trivial⟩
    show SV.val (.one (.own 7 1 0 _)) = _
    simp
  rintro ⟨i, o⟩ ⟨hi, hol, ho⟩
  simp only at hi hol ho
  show AWP _ _ _ _ _ (mk 44 [(0, V1 (dW m)), (3, .val (.one (.own 7 1 0 m.length))), (4, dI i)] [(7, some (.arr 1 (o.map cW)))] [])
  refine AWP_seq ?_
  refine AWP_reg_seq tok fun K hK => ?_
  refine s_move rfl rfl rfl ?_
  refine s_move rfl rfl rfl ?_
  refine s_blt rfl rfl rfl ?_
  refine s_bin rfl rfl rfl ?_
  refine s_end (hK _ ?_); clear hK K
  refine a_cond rfl (fun hc => ?_) (fun hc => ?_)
  · have hc : i < m.length := by simp at hc; omega
    have hoi := ho i
    rw [if_neg (by omega)] at hoi
    have hdig := shr_digit (n := 1) (by omega) i hm
    have hx0 := getD_lt hm i
    have hx1 := getD_lt hm (i + 1)
    rw [Nat.pow_one] at hdig
    have hdig' : m.getD i 0 / 2 + m.getD (i + 1) 0 % 2 * 2147483648 = wv m / 2 / 4294967296 ^ i % 4294967296 := by rw [← hdig]; omega
    refine AWP_skip ?_
    show AWP _ _ _ _ _ _
    refine AWP_seq ?_
    refine AWP_block ?_
    refine AWP_reg_seq tok fun K hK => ?_
    refine s_move rfl rfl rfl ?_
    refine s_move rfl rfl rfl ?_
    refine s_move rfl rfl rfl ?_
    refine s_move rfl rfl rfl ?_
    refine s_indexAddr rfl (x_o (i := i) (j := i) rfl rfl rfl rfl rfl hc (by omega)) rfl ?_
    refine s_load rfl ((l_wD rfl rfl rfl rfl (by omega)).trans (by rw [hoi])) rfl ?_
    refine s_bin rfl (e_shrU (s := 1) (by omega) rfl) rfl ?_
    refine s_indexAddr rfl (x_o (i := i) (j := i) rfl rfl rfl rfl rfl hc (by omega)) rfl ?_
    refine s_store rfl (st_w rfl rfl rfl (by omega)) rfl rfl rfl ?_
    refine s_end (hK _ ?_); clear hK K
    have hset : ∀ (y z : Nat), (o.set i y).set i z = o.set i z := fun y z => by simp
    have hnew : ∀ z, z = wv m / 2 / 4294967296 ^ i % 4294967296 → ∀ k, (o.set i z).getD k 0 = if k < i + 1 then wv m / 2 / 4294967296 ^ k % 4294967296 else m.getD k 0 := by
      intro z hz k
      rw [wgetD_set _ _ _ _ (by omega)]
      by_cases hk : k = i
      · rw [if_pos hk, if_pos (by omega), hz, hk]
      · rw [if_neg hk, ho k]
        by_cases hk2 : k < i
        · rw [if_pos hk2, if_pos (by omega)]
        · rw [if_neg hk2, if_neg (by omega)]
    refine AWP_reg_seq tok fun K hK => ?_
    refine s_move rfl rfl rfl ?_
    refine s_bin rfl (e_add (c := ((i + 1 : Nat) : Int)) (by omega) (by omega)) rfl ?_
    refine s_move rfl rfl rfl ?_
    refine s_blt rfl (len_w rfl rfl rfl) rfl ?_
    refine s_bin rfl rfl rfl ?_
    refine s_end (hK _ ?_); clear hK K
    refine a_cond rfl (fun hd => ?_) (fun hd => ?_)
    · have hd : i + 1 < m.length := by simp at hd; omega
      refine a_keep [(0, V1 (dW m)), (3, .val (.one (.own 7 1 0 m.length))), (4, dI i)] [(7, some (.arr 1 ((o.set i (m.getD i 0 / 2)).map cW)))] ⟨rfl, rfl, rfl, trivial⟩ ⟨rfl, trivial⟩ ?_
      have hgi : (o.set i (m.getD i 0 / 2)).getD i 0 = m.getD i 0 / 2 := by rw [wgetD_set _ _ _ _ (by omega), if_pos rfl]
      refine a_draw1 tok mixed (A := [[], [], [], [], [], [2, 3], [], [], [], [7], [6, 7, 8], [6, 7, 8, 9], [6, 7, 8, 9, 10], [2, 3, 4, 6, 7, 8, 9, 10, 11], [], []]) (an := [{}, {}, {}, {}, {}, {}, {}, {}, {}, {}, {}, {}, {}, {}, {}, {}]) rfl (by kernel_rfl) rfl fun K hK => ?_
      refine s_move rfl rfl rfl ?_
      refine s_move rfl rfl rfl ?_
      refine s_move rfl rfl rfl ?_
      refine s_move rfl rfl rfl ?_
      refine s_indexAddr rfl (x_o (i := i) (j := i) rfl rfl rfl rfl rfl hc (by omega)) rfl ?_
      refine s_load rfl ((l_wD rfl rfl rfl rfl (by rw [List.length_set]; omega)).trans (by rw [hgi])) rfl ?_
      refine s_move rfl rfl rfl ?_
      refine s_move rfl rfl rfl ?_
      refine s_bin rfl (e_add (c := ((i + 1 : Nat) : Int)) (by omega) (by omega)) rfl ?_
      refine s_indexAddr rfl (x_wD (i := i + 1) rfl rfl rfl rfl rfl hd) rfl ?_
      refine s_load rfl rfl rfl ?_
      refine s_bin rfl (e_remU (y := 2) (by omega) rfl) rfl ?_
      refine s_bin rfl (e_shlU (s := 31) (z := m.getD (i + 1) 0 % 2 * 2147483648) (by omega) (by show m.getD (i + 1) 0 % 2 * 2147483648 % 4294967296 = _; omega)) rfl ?_
      refine s_bin rfl (e_addU (z := wv m / 2 / 4294967296 ^ i % 4294967296) (by rw [hdig', Nat.mod_mod])) rfl ?_
      refine s_indexAddr rfl (x_o (i := i) (j := i) rfl rfl rfl rfl rfl hc (by omega)) rfl ?_
      refine s_store rfl (st_w rfl rfl rfl (by rw [List.length_set]; omega)) rfl rfl rfl ?_
      refine s_end (hK _ ?_); clear hK K
      show AWP _ _ _ _ _ _
      refine AWP_reg tok fun K hK => ?_
      refine s_move rfl rfl rfl ?_
      refine s_bin rfl (e_add (c := ((i + 1 : Nat) : Int)) (by omega) (by omega)) rfl ?_
      refine s_assign rfl rfl rfl ?_
      refine s_end (hK _ ?_); clear hK K
      exact ⟨(i + 1, o.set i (wv m / 2 / 4294967296 ^ i % 4294967296)), by simp only; omega, ⟨hc, by simpa using hol, hnew _ rfl⟩, Wk.mk' ⟨rfl, rfl, rfl, trivial⟩ ⟨by rw [hset]; rfl, trivial⟩⟩
    · have hd : m.length ≤ i + 1 := by simp at hd; omega
      rw [getD_end hd] at hdig'
      refine AWP_skip ?_
      show AWP _ _ _ _ _ _
      refine AWP_reg tok fun K hK => ?_
      refine s_move rfl rfl rfl ?_
      refine s_bin rfl (e_add (c := ((i + 1 : Nat) : Int)) (by omega) (by omega)) rfl ?_
      refine s_assign rfl rfl rfl ?_
      refine s_end (hK _ ?_); clear hK K
      exact ⟨(i + 1, o.set i (m.getD i 0 / 2)), by simp only; omega, ⟨hc, by simpa using hol, hnew _ (by omega)⟩, Wk.mk' ⟨rfl, rfl, rfl, trivial⟩ ⟨rfl, trivial⟩⟩
  · have hc : i = m.length := by simp at hc; omega
    subst hc
    have hfin : o = wfix m.length (wv m / 2) := by
      refine list_getD (by rw [hol, wfix_length]) (fun k hk => ?_)
      rw [ho k, if_pos (by omega), wfix_getD _ (by omega)]
    have hlt := wv_lt hm
    refine AWP_exit ?_
    show AWP _ _ _ _ _ _
    refine a_fz [3] [7] 7 [(3, V1 (dW (wfix m.length (wv m / 2))))] [] rfl ?_ trivial ?_
    · exact ⟨frz_w (by rw [hfin]) (by rw [wfix_length]), trivial⟩
    refine AWP_reg_seq tok fun K hK => ?_
    refine s_move rfl rfl rfl ?_
    refine s_call rfl rfl (r1trim_c _ (wfix_ok _ _) (by rw [wfix_length]; omega)) rfl rfl rfl rfl ?_
    refine s_assign rfl rfl rfl ?_
    refine s_end (hK _ ?_); clear hK K
    refine AWP_ret ?_
    repeat (with_reducible refine tq_ret ?_)
    exact post_ret (fin_mk (by rfl) (by rfl) (by rw [wv_wfix, Nat.mod_eq_of_lt (by omega)]; rfl))

theorem r1Add_z (na nb : Bool) (wa wb : List Nat) (z : Int) (ha : wOK wa) (hb : wOK wb) (la : wa.length ≤ 536870912) (lb : wb.length ≤ 536870912) (h : zv na wa + zv nb wb = z) :
    Con Tryz.prog 65 [AG (IC na wa), AG (IC nb wb)] { v := AG (ZC z) } := h ▸ r1Add_c na nb wa wb ha hb la lb
theorem r1Sub_z (na nb : Bool) (wa wb : List Nat) (z : Int) (ha : wOK wa) (hb : wOK wb) (la : wa.length ≤ 536870912) (lb : wb.length ≤ 536870912) (h : zv na wa - zv nb wb = z) :
    Con Tryz.prog 82 [AG (IC na wa), AG (IC nb wb)] { v := AG (ZC z) } := h ▸ r1Sub_c na nb wa wb ha hb la lb

theorem tr_abs (na : Bool) (A B : Nat) : (tr na A B).natAbs = A % B := by
  unfold tr; split
  · rw [Int.natAbs_neg, Int.natAbs_natCast]
  · rw [Int.natAbs_natCast]
theorem tq_abs (na nb : Bool) (A B : Nat) : (tq na nb A B).natAbs = A / B := by
  unfold tq; split
  · rw [Int.natAbs_natCast]
  · rw [Int.natAbs_neg, Int.natAbs_natCast]
theorem r1DivMod_c (na nb : Bool) (wa wb : List Nat) (ha : wOK wa) (hb : wOK wb) (la : wa.length ≤ 268435456) (lb : wb.length ≤ 268435456) (h0 : zv nb wb ≠ 0) :
    Con Tryz.prog 74 [AG (IC na wa), AG (IC nb wb)] { v := .tup [.agg (ZC (zv na wa / zv nb wb)), .agg (ZC (zv na wa % zv nb wb)), .one (.d (lI 0))] } := by
  have hB0 : wv wb ≠ 0 := by intro h; apply h0; unfold zv; rw [h]; simp
  have hBp : 0 < wv wb := by omega
  have hla := wl_len ha
  have hlb := wl_len hb
  have hxa : zv na wa = sg na (wv wa) := rfl
  have hxb : zv nb wb = sg nb (wv wb) := rfl
  have habs : zv nb wb = sg nb (wv wb) := rfl
  rw [hxa, hxb]
  generalize hA : wv wa = A at *
  generalize hB : wv wb = B at *
  have hsgB : (sg nb B).natAbs = B := by unfold sg; split <;> omega
  have hrle : (wof (tr na A B).natAbs).length ≤ (wof A).length := wl_mono (by rw [tr_abs]; exact Nat.mod_le A B)
  have hqle : (wof (tq na nb A B).natAbs).length ≤ (wof A).length := wl_mono (by rw [tq_abs]; exact Nat.div_le_self A B)
  have hql : (wof (A / B)).length ≤ (wof A).length := wl_mono (Nat.div_le_self A B)
  have hrl : (wof (A % B)).length ≤ (wof A).length := wl_mono (Nat.mod_le A B)
  refine con_intro (fn := Tryz.f74) tok Tryz.func74 (by kernel_rfl) rfl ?_
  intro w0 X
  rw [entry_mkE _ _ [(0, AG (IC na wa)), (1, AG (IC nb wb))] rfl rfl]
  refine AWP_reg_seq tok fun K hK => ?_
  refine s_box rfl rfl rfl rfl rfl rfl ?_
  refine s_box rfl rfl rfl rfl rfl rfl ?_
  refine s_alloc rfl rfl rfl rfl rfl rfl ?_
  refine s_alloc rfl rfl rfl rfl rfl rfl ?_
  refine s_assign rfl rfl rfl ?_
  refine s_end (hK _ ?_); clear hK K
  refine AWP_seq ?_
  refine AWP_reg_seq tok fun K hK => ?_
  refine s_load rfl rfl rfl ?_
  refine s_call rfl rfl (r1Sign_c nb wb hb (by omega)) rfl rfl rfl rfl ?_
  refine s_bin rfl rfl rfl ?_
  refine s_end (hK _ ?_); clear hK K
  refine a_cond rfl (fun hc => ?_) (fun hc => ?_)
  · exfalso
    have : (zv nb wb).sign = 0 := by simpa using hc
    exact h0 (Int.sign_eq_zero_iff_zero.1 this)
  refine AWP_skip ?_
  show AWP _ _ _ _ _ _
  refine a_keep [(2, .ptr 2 0), (3, .ptr 3 0), (4, .ptr 4 0), (5, .ptr 5 0)] [(2, some (.box (IC na wa))), (3, some (.box (IC nb wb))), (4, some (.box [.d (.lit (.bool false)), .nil])), (5, some (.box [.d (.lit (.bool false)), .nil]))] ⟨rfl, rfl, rfl, rfl, trivial⟩ ⟨rfl, rfl, rfl, rfl, trivial⟩ ?_
  refine a_draw tok mixed (A := [[], [], [0], [], [], [0, 1, 3], [0, 1, 3, 4], [0, 1, 2, 3, 4, 5], [0, 1, 2, 3, 4, 5, 6], [0, 1, 2, 3, 4, 5, 6], [], []]) (an := [{}, {}, {}, { c := [19] }, { c := [19] }, {}, {}, {}, {}, {}, {}, {}]) rfl (by kernel_rfl) rfl fun K hK => ?_
  refine s_fieldAddr rfl rfl rfl ?_
  refine s_load rfl rfl rfl ?_
  refine s_call rfl rfl (hA ▸ r1trim_c wa ha (by omega)) rfl rfl rfl rfl ?_
  refine s_fieldAddr rfl rfl rfl ?_
  refine s_load rfl rfl rfl ?_
  refine s_call rfl rfl (hB ▸ r1trim_c wb hb (by omega)) rfl rfl rfl rfl ?_
  refine s_call rfl rfl (r1divide_c (wof A) (wof B) (wof_ok A) (wof_ok B) (wof_top B) (by rw [wv_wof]; exact hBp) (by omega) (by omega)) rfl rfl rfl rfl ?_
  refine s_move rfl rfl rfl ?_
  refine s_extract rfl rfl rfl ?_
  refine s_extract rfl rfl rfl ?_
  refine s_assign rfl rfl rfl ?_
  refine s_assign rfl rfl rfl ?_
  refine s_end (hK _ ?_); clear hK K
  refine AWP_reg_seq tok fun K hK => ?_
  refine s_fieldAddr rfl rfl rfl ?_
  refine s_load rfl rfl rfl ?_
  refine s_fieldAddr rfl rfl rfl ?_
  refine s_load rfl rfl rfl ?_
  refine s_bin rfl rfl rfl ?_
  refine s_move rfl rfl rfl ?_
  refine s_build rfl rfl rfl ?_
  refine s_call rfl rfl (r1Norm_z (!(na == nb)) _ (tq na nb A B) (wof_ok _) (by rw [wv_wof, wv_wof]; omega) (by unfold zv tq; rw [wv_wof, wv_wof, wv_wof]; cases na <;> cases nb <;> simp)) rfl rfl rfl rfl ?_
  refine s_alloc rfl rfl rfl rfl rfl rfl ?_
  refine s_store rfl rfl rfl rfl rfl ?_
  refine s_end (hK _ ?_); clear hK K
  refine AWP_reg_seq tok fun K hK => ?_
  refine s_fieldAddr rfl rfl rfl ?_
  refine s_load rfl rfl rfl ?_
  refine s_move rfl rfl rfl ?_
  refine s_build rfl rfl rfl ?_
  refine s_call rfl rfl (r1Norm_z na _ (tr na A B) (wof_ok _) (by rw [wv_wof, wv_wof]; omega) (by unfold zv tr; rw [wv_wof, wv_wof, wv_wof])) rfl rfl rfl rfl ?_
  refine s_alloc rfl rfl rfl rfl rfl rfl ?_
  refine s_store rfl rfl rfl rfl rfl ?_
  refine s_end (hK _ ?_); clear hK K
  refine a_join (α := Unit) (fun _ => mk 55 [(4, .ptr 4 0), (5, .ptr 5 0), (9, .ptr 9 0), (10, .ptr 10 0)] [(4, some (.box [.d (.lit (.bool false)), .nil])), (5, some (.box [.d (.lit (.bool false)), .nil])), (9, some (.box (ZC (sg na A / sg nb B)))), (10, some (.box (ZC (sg na A % sg nb B))))] []) (fun _ => True) ?_ ?_
  · refine a_keep [(3, .ptr 3 0), (4, .ptr 4 0), (5, .ptr 5 0), (9, .ptr 9 0), (10, .ptr 10 0)] [(3, some (.box (IC nb wb))), (4, some (.box [.d (.lit (.bool false)), .nil])), (5, some (.box [.d (.lit (.bool false)), .nil])), (9, some (.box (ZC (tq na nb A B)))), (10, some (.box (ZC (tr na A B))))] ⟨rfl, rfl, rfl, rfl, rfl, trivial⟩ ⟨rfl, rfl, rfl, rfl, rfl, trivial⟩ ?_
    refine AWP_reg_seq tok fun K hK => ?_
    refine s_fieldAddr rfl rfl rfl ?_
    refine s_load rfl rfl rfl ?_
    refine s_end (hK _ ?_); clear hK K
    refine a_cond rfl (fun hd => ?_) (fun hd => ?_)
    · have hd : tr na A B < 0 := of_decide_eq_true hd
      obtain ⟨e1, e2⟩ := tqr_neg na nb hBp hd
      refine a_keep [(3, .ptr 3 0), (4, .ptr 4 0), (5, .ptr 5 0), (9, .ptr 9 0), (10, .ptr 10 0)] [(3, some (.box (IC nb wb))), (4, some (.box [.d (.lit (.bool false)), .nil])), (5, some (.box [.d (.lit (.bool false)), .nil])), (9, some (.box (ZC (tq na nb A B)))), (10, some (.box (ZC (tr na A B))))] ⟨rfl, rfl, rfl, rfl, rfl, trivial⟩ ⟨rfl, rfl, rfl, rfl, rfl, trivial⟩ ?_
      have habB : (zv nb wb).natAbs = B := by rw [zv_abs]; exact hB
      refine a_draw tok mixed (A := [[], [], [], [1], []]) (an := [{}, {}, {}, {}, {}]) rfl (by kernel_rfl) rfl fun K hK => ?_
      refine s_load rfl rfl rfl ?_
      refine s_load rfl rfl rfl ?_
      refine s_call rfl rfl (habB ▸ r1Abs_c nb wb hb (by omega)) rfl rfl rfl rfl ?_
      refine s_call rfl rfl (r1Add_z (decide (tr na A B < 0)) (decide ((B : Int) < 0)) (wof (tr na A B).natAbs) (wof (B : Int).natAbs) (sg na A % sg nb B) (wof_ok _) (wof_ok _) (by omega) (by simp only [Int.natAbs_natCast]; omega) (by rw [zv_ZC, zv_ZC, e2])) rfl rfl rfl rfl ?_
      refine s_store rfl rfl rfl rfl rfl ?_
      refine s_end (hK _ ?_); clear hK K
      refine AWP_reg_seq tok fun K hK => ?_
      refine s_fieldAddr rfl rfl rfl ?_
      refine s_load rfl rfl rfl ?_
      refine s_end (hK _ ?_); clear hK K
      refine a_cond rfl (fun hn => ?_) (fun hn => ?_)
      · have hn : nb = true := hn
        subst hn
        refine a_draw1 tok mixed (A := [[], [], [], []]) (an := [{}, {}, {}, {}]) rfl (by kernel_rfl) rfl fun K hK => ?_
        refine s_load rfl rfl rfl ?_
        refine s_call rfl rfl (r1Of_c 1 (by unfold I64; omega)) rfl rfl rfl rfl ?_
        refine s_call rfl rfl (r1Add_z (decide (tq na true A B < 0)) (decide ((1 : Int) < 0)) (wof (tq na true A B).natAbs) (wof (1 : Int).natAbs) (sg na A / sg true B) (wof_ok _) (wof_ok _) (by omega) (by decide) (by rw [zv_ZC, zv_ZC, e1]; rfl)) rfl rfl rfl rfl ?_
        refine s_store rfl rfl rfl rfl rfl ?_
        refine s_end (hK _ ?_); clear hK K
        exact ⟨(), trivial, Wk.mk' ⟨rfl, rfl, rfl, rfl, trivial⟩ ⟨rfl, rfl, rfl, rfl, trivial⟩⟩
      · have hn : nb = false := hn
        subst hn
        refine a_draw1 tok mixed (A := [[], [], [], []]) (an := [{}, {}, {}, {}]) rfl (by kernel_rfl) rfl fun K hK => ?_
        refine s_load rfl rfl rfl ?_
        refine s_call rfl rfl (r1Of_c 1 (by unfold I64; omega)) rfl rfl rfl rfl ?_
        refine s_call rfl rfl (r1Sub_z (decide (tq na false A B < 0)) (decide ((1 : Int) < 0)) (wof (tq na false A B).natAbs) (wof (1 : Int).natAbs) (sg na A / sg false B) (wof_ok _) (wof_ok _) (by omega) (by decide) (by rw [zv_ZC, zv_ZC, e1]; rfl)) rfl rfl rfl rfl ?_
        refine s_store rfl rfl rfl rfl rfl ?_
        refine s_end (hK _ ?_); clear hK K
        exact ⟨(), trivial, Wk.mk' ⟨rfl, rfl, rfl, rfl, trivial⟩ ⟨rfl, rfl, rfl, rfl, trivial⟩⟩
    · have hd : 0 ≤ tr na A B := by have := of_decide_eq_false hd; omega
      obtain ⟨e1, e2⟩ := tqr_pos na nb hBp hd
      refine AWP_skip ?_
      exact ⟨(), trivial, Wk.mk' ⟨rfl, rfl, rfl, rfl, trivial⟩ ⟨rfl, rfl, by rw [e1]; rfl, by rw [e2]; rfl, trivial⟩⟩
  rintro - -
  show AWP _ _ _ _ _ (mk 55 [(4, .ptr 4 0), (5, .ptr 5 0), (9, .ptr 9 0), (10, .ptr 10 0)] [(4, some (.box [.d (.lit (.bool false)), .nil])), (5, some (.box [.d (.lit (.bool false)), .nil])), (9, some (.box (ZC (sg na A / sg nb B)))), (10, some (.box (ZC (sg na A % sg nb B))))] [])
  refine a_draw tok mixed (A := [[], [], [], [], []]) (an := [{}, {}, { d := [10] }, {}, {}]) rfl (by kernel_rfl) rfl fun K hK => ?_
  refine s_load rfl rfl rfl ?_
  refine s_load rfl rfl rfl ?_
  refine s_store rfl rfl rfl rfl rfl ?_
  refine s_store rfl rfl rfl rfl rfl ?_
  refine s_assign rfl rfl rfl ?_
  refine s_end (hK _ ?_); clear hK K
  refine AWP_ret ?_
  repeat (with_reducible refine tq_ret ?_)
  exact post_ret (fin_mk (by rfl) (by rfl) (by rfl))

theorem r1DivModZ_c (x y : Int) (hx : zl x ≤ 268435456) (hy : zl y ≤ 268435456) (h0 : y ≠ 0) :
    Con Tryz.prog 74 [AG (ZC x), AG (ZC y)] { v := .tup [.agg (ZC (x / y)), .agg (ZC (x % y)), .one (.d (lI 0))] } := by
  have := r1DivMod_c (decide (x < 0)) (decide (y < 0)) (wof x.natAbs) (wof y.natAbs) (wof_ok _) (wof_ok _) hx hy (by rw [zv_ZC]; exact h0)
  rw [zv_ZC, zv_ZC] at this
  exact this

theorem r1Gcd_c (na nb : Bool) (wa wb : List Nat) (ha : wOK wa) (hb : wOK wb) (la : wa.length ≤ 268435456) (lb : wb.length ≤ 268435456) :
    Con Tryz.prog 73 [AG (IC na wa), AG (IC nb wb)] { v := AG (ZC (Int.gcd (zv na wa) (zv nb wb) : Int)) } := by
  have hg : Int.gcd (zv na wa) (zv nb wb) = Nat.gcd (wv wa) (wv wb) := by
    show Nat.gcd (zv na wa).natAbs (zv nb wb).natAbs = _
    rw [zv_abs, zv_abs]
  have hla := wl_len ha
  have hlb := wl_len hb
  have eA : (zv na wa).natAbs = wv wa := zv_abs na wa
  have eB : (zv nb wb).natAbs = wv wb := zv_abs nb wb
  rw [hg]
  generalize hA : wv wa = A at *
  generalize hB : wv wb = B at *
  refine con_intro (fn := Tryz.f73) tok Tryz.func73 (by kernel_rfl) rfl ?_
  intro w0 X
  rw [entry_mkE _ _ [(0, AG (IC na wa)), (1, AG (IC nb wb))] rfl rfl]
  refine AWP_reg_seq tok fun K hK => ?_
  refine s_box rfl rfl rfl rfl rfl rfl ?_
  refine s_box rfl rfl rfl rfl rfl rfl ?_
  refine s_alloc rfl rfl rfl rfl rfl rfl ?_
  refine s_end (hK _ ?_); clear hK K
  refine AWP_reg_seq tok fun K hK => ?_
  refine s_fieldAddr rfl rfl rfl ?_
  refine s_load rfl rfl rfl ?_
  refine s_call rfl rfl (hA ▸ r1trim_c wa ha (by omega)) rfl rfl rfl rfl ?_
  refine s_assign rfl rfl rfl ?_
  refine s_end (hK _ ?_); clear hK K
  refine AWP_reg_seq tok fun K hK => ?_
  refine s_fieldAddr rfl rfl rfl ?_
  refine s_load rfl rfl rfl ?_
  refine s_call rfl rfl (hB ▸ r1trim_c wb hb (by omega)) rfl rfl rfl rfl ?_
  refine s_assign rfl rfl rfl ?_
  refine s_end (hK _ ?_); clear hK K
  refine AWP_seq ?_
  refine AWP_reg_seq tok fun K hK => ?_
  refine s_move rfl rfl rfl ?_
  refine s_blt rfl (len_w rfl rfl rfl) rfl ?_
  refine s_bin rfl rfl rfl ?_
  refine s_end (hK _ ?_); clear hK K
  refine a_cond rfl (fun hc => ?_) (fun hc => ?_)
  · have hc : wof A = [] := by simpa using hc
    have hA0 : A = 0 := wof_nil.1 hc
    refine AWP_reg_seq tok fun K hK => ?_
    refine s_load rfl rfl rfl ?_
    refine s_call rfl rfl (r1Abs_c nb wb hb (by omega)) rfl rfl rfl rfl ?_
    refine s_store rfl rfl rfl rfl rfl ?_
    refine s_end (hK _ ?_); clear hK K
    refine AWP_ret ?_
    repeat (with_reducible refine tq_ret ?_)
    exact post_ret (fin_mk (by rfl) (by rfl) (by rw [eB, hA0, Nat.gcd_zero_left]; rfl))
  have hc : wof A ≠ [] := by simpa using hc
  have hA0 : 0 < A := by
    rcases Nat.eq_zero_or_pos A with h | h
    · exact absurd (wof_nil.2 h) hc
    · exact h
  refine AWP_skip ?_
  show AWP _ _ _ _ _ _
  refine AWP_seq ?_
  refine AWP_reg_seq tok fun K hK => ?_
  refine s_move rfl rfl rfl ?_
  refine s_blt rfl (len_w rfl rfl rfl) rfl ?_
  refine s_bin rfl rfl rfl ?_
  refine s_end (hK _ ?_); clear hK K
  refine a_cond rfl (fun hd => ?_) (fun hd => ?_)
  · have hd : wof B = [] := by simpa using hd
    have hB0 : B = 0 := wof_nil.1 hd
    refine AWP_reg_seq tok fun K hK => ?_
    refine s_load rfl rfl rfl ?_
    refine s_call rfl rfl (r1Abs_c na wa ha (by omega)) rfl rfl rfl rfl ?_
    refine s_store rfl rfl rfl rfl rfl ?_
    refine s_end (hK _ ?_); clear hK K
    refine AWP_ret ?_
    repeat (with_reducible refine tq_ret ?_)
    exact post_ret (fin_mk (by rfl) (by rfl) (by rw [eA, hB0, Nat.gcd_zero_right]; rfl))
  have hd : wof B ≠ [] := by simpa using hd
  have hB0 : 0 < B := by
    rcases Nat.eq_zero_or_pos B with h | h
    · exact absurd (wof_nil.2 h) hd
    · exact h
  refine AWP_skip ?_
  show AWP _ _ _ _ _ _
  refine AWP_reg_seq tok fun K hK => ?_
  refine s_assign rfl rfl rfl ?_
  refine s_end (hK _ ?_); clear hK K
  have hlen : ∀ X, X ≤ A → (wof X).length ≤ 268435456 := fun X h => Nat.le_trans (wl_mono h) (Nat.le_trans hla la)
  have hlen' : ∀ X, X ≤ B → (wof X).length ≤ 268435456 := fun X h => Nat.le_trans (wl_mono h) (Nat.le_trans hlb lb)
  refine a_join (α := Nat × Nat × Nat) (fun p => mk 84 [(4, .ptr 4 0), (5, V1 (dW (wof p.1))), (6, V1 (dW (wof p.2.1))), (7, dI p.2.2)] [(4, some (.box [.d (.lit (.bool false)), .nil]))] []) (fun p => p.1 * 2 ^ p.2.2 = A ∧ p.2.1 * 2 ^ p.2.2 = B ∧ p.2.2 ≤ 8589934592 ∧ ¬ (p.1 % 2 = 0 ∧ p.2.1 % 2 = 0)) ?_ ?_
  · refine AWP_block (a_loop (α := Nat × Nat × Nat) (fun p => mk 84 [(4, .ptr 4 0), (5, V1 (dW (wof p.1))), (6, V1 (dW (wof p.2.1))), (7, dI p.2.2)] [(4, some (.box [.d (.lit (.bool false)), .nil]))] []) (fun p => p.1 * 2 ^ p.2.2 = A ∧ p.2.1 * 2 ^ p.2.2 = B) (fun p => p.1) (A, B, 0) ?_ ⟨by simp, by simp⟩ ?_)
    · exact Wk.mk' ⟨rfl, rfl, rfl, rfl, trivial⟩ ⟨rfl, trivial⟩
    rintro ⟨x, y, t⟩ ⟨i1, i2⟩
    simp only at i1 i2
    show AWP _ _ _ _ _ (mk 84 [(4, .ptr 4 0), (5, V1 (dW (wof x))), (6, V1 (dW (wof y))), (7, dI t)] [(4, some (.box [.d (.lit (.bool false)), .nil]))] [])
    have hx : 0 < x := by
      rcases Nat.eq_zero_or_pos x with h | h
      · rw [h, Nat.zero_mul] at i1; omega
      · exact h
    have hy : 0 < y := by
      rcases Nat.eq_zero_or_pos y with h | h
      · rw [h, Nat.zero_mul] at i2; omega
      · exact h
    have hxA : x ≤ A := by rw [← i1]; exact Nat.le_mul_of_pos_right _ (Nat.two_pow_pos t)
    have hyB : y ≤ B := by rw [← i2]; exact Nat.le_mul_of_pos_right _ (Nat.two_pow_pos t)
    have ht : t ≤ 8589934592 := by
      have h1 : 2 ^ t ≤ A := by rw [← i1]; exact Nat.le_mul_of_pos_left _ hx
      have h2 := wof_lt A
      rw [pow32] at h2
      have h3 : 2 ^ t < 2 ^ (32 * (wof A).length) := by omega
      have := (Nat.pow_lt_pow_iff_right (by decide : 1 < 2)).1 h3
      omega
    refine AWP_seq ?_
    refine a_join (α := Bool) (fun c => mk 84 [(4, .ptr 4 0), (5, V1 (dW (wof x))), (6, V1 (dW (wof y))), (7, dI t), (36, dB c)] [(4, some (.box [.d (.lit (.bool false)), .nil]))] []) (fun c => (c = true → x % 2 = 0 ∧ y % 2 = 0) ∧ (c = false → ¬ (x % 2 = 0 ∧ y % 2 = 0))) ?_ ?_
    · refine AWP_reg tok fun K hK => ?_
      refine s_move rfl rfl rfl ?_
      refine s_indexAddr rfl (x_wD (i := 0) rfl rfl rfl rfl rfl (wof_pos hx)) rfl ?_
      refine s_load rfl rfl rfl ?_
      refine s_bin rfl (e_remU (y := 2) (z := x % 2) (by omega) (wof_even x)) rfl ?_
      refine s_bin rfl rfl rfl ?_
      refine s_move rfl rfl rfl ?_
      refine s_split (fun he => ?_) (fun he => ?_)
      · have he : x % 2 = 0 := by simp at he; omega
        refine s_move rfl rfl rfl ?_
        refine s_indexAddr rfl (x_wD (i := 0) rfl rfl rfl rfl rfl (wof_pos hy)) rfl ?_
        refine s_load rfl rfl rfl ?_
        refine s_bin rfl (e_remU (y := 2) (z := y % 2) (by omega) (wof_even y)) rfl ?_
        refine s_bin rfl rfl rfl ?_
        refine s_pick rfl rfl rfl ?_
        refine s_end (hK _ ?_); clear hK K
        refine ⟨_, ⟨fun h => ⟨he, ?_⟩, fun h => ?_⟩, Wk.mk' ⟨rfl, rfl, rfl, rfl, rfl, trivial⟩ ⟨rfl, trivial⟩⟩
        · simp at h; omega
        · simp at h; omega
      · have he : ¬ x % 2 = 0 := by simp at he; omega
        refine s_skip rfl ?_
        refine s_skip rfl ?_
        refine s_skip rfl ?_
        refine s_skip rfl ?_
        refine s_skip rfl ?_
        refine s_pick rfl rfl rfl ?_
        refine s_end (hK _ ?_); clear hK K
        exact ⟨false, ⟨fun h => (by cases h), fun _ h => he h.1⟩, Wk.mk' ⟨rfl, rfl, rfl, rfl, rfl, trivial⟩ ⟨rfl, trivial⟩⟩
    rintro c ⟨k1, k2⟩
    refine a_cond rfl (fun he => ?_) (fun he => ?_)
    · obtain ⟨ex, ey⟩ := k1 he
      have l1 := hlen x hxA
      have l2 := hlen' y hyB
      refine AWP_skip ?_
      show AWP _ _ _ _ _ _
      refine AWP_block ?_
      refine AWP_reg_seq tok fun K hK => ?_
      refine s_move rfl rfl rfl ?_
      refine s_call rfl rfl (r1half_c (wof x) (wof_ok _) (by omega)) rfl rfl rfl rfl ?_
      refine s_assign rfl rfl rfl ?_
      refine s_end (hK _ ?_); clear hK K
      refine AWP_reg_seq tok fun K hK => ?_
      refine s_move rfl rfl rfl ?_
      refine s_call rfl rfl (r1half_c (wof y) (wof_ok _) (by omega)) rfl rfl rfl rfl ?_
      refine s_assign rfl rfl rfl ?_
      refine s_end (hK _ ?_); clear hK K
      refine AWP_reg tok fun K hK => ?_
      refine s_move rfl rfl rfl ?_
      refine s_bin rfl (e_add (c := ((t + 1 : Nat) : Int)) (by omega) (by omega)) rfl ?_
      refine s_assign rfl rfl rfl ?_
      refine s_end (hK _ ?_); clear hK K
      refine ⟨(x / 2, y / 2, t + 1), by simp only; omega, ⟨?_, ?_⟩, Wk.mk' ⟨rfl, dW_eq (by rw [wv_wof]), dW_eq (by rw [wv_wof]), rfl, trivial⟩ ⟨rfl, trivial⟩⟩
      · rw [← i1, Nat.pow_succ]
        have : x = 2 * (x / 2) := by omega
        conv => rhs; rw [this]
        simp only; grind
      · rw [← i2, Nat.pow_succ]
        have : y = 2 * (y / 2) := by omega
        conv => rhs; rw [this]
        simp only; grind
    · refine AWP_exit ?_
      exact ⟨(x, y, t), ⟨i1, i2, ht, k2 he⟩, Wk.mk' ⟨rfl, rfl, rfl, rfl, trivial⟩ ⟨rfl, trivial⟩⟩
  rintro ⟨x0, y0, t⟩ ⟨i1, i2, ht, hne⟩
  simp only at i1 i2 ht hne
  have hG : Nat.gcd x0 y0 * 2 ^ t = Nat.gcd A B := by rw [← i1, ← i2, Nat.gcd_mul_right]
  have hx0 : 0 < x0 := by
    rcases Nat.eq_zero_or_pos x0 with h | h
    · rw [h, Nat.zero_mul] at i1; omega
    · exact h
  have hy0 : 0 < y0 := by
    rcases Nat.eq_zero_or_pos y0 with h | h
    · rw [h, Nat.zero_mul] at i2; omega
    · exact h
  have hxA : x0 ≤ A := by rw [← i1]; exact Nat.le_mul_of_pos_right _ (Nat.two_pow_pos t)
  have hyB : y0 ≤ B := by rw [← i2]; exact Nat.le_mul_of_pos_right _ (Nat.two_pow_pos t)
  show AWP _ _ _ _ _ (mk 84 [(4, .ptr 4 0), (5, V1 (dW (wof x0))), (6, V1 (dW (wof y0))), (7, dI t)] [(4, some (.box [.d (.lit (.bool false)), .nil]))] [])
  refine a_join (α := Unit) (fun _ => mk 84 [(4, .ptr 4 0), (5, V1 (dW (wof (Nat.gcd x0 y0)))), (7, dI t)] [(4, some (.box [.d (.lit (.bool false)), .nil]))] []) (fun _ => True) ?_ ?_
  · refine AWP_block (a_loop (α := Nat × Nat) (fun p => mk 84 [(4, .ptr 4 0), (5, V1 (dW (wof p.1))), (6, V1 (dW (wof p.2))), (7, dI t)] [(4, some (.box [.d (.lit (.bool false)), .nil]))] []) (fun p => 0 < p.1 ∧ 0 < p.2 ∧ p.1 ≤ A ∧ p.2 ≤ B ∧ Nat.gcd p.1 p.2 = Nat.gcd x0 y0 ∧ ¬ (p.1 % 2 = 0 ∧ p.2 % 2 = 0)) (fun p => p.1 + p.2) (x0, y0) ?_ ⟨hx0, hy0, hxA, hyB, rfl, hne⟩ ?_)
    · exact Wk.mk' ⟨rfl, rfl, rfl, rfl, trivial⟩ ⟨rfl, trivial⟩
    rintro ⟨x, y⟩ ⟨px, py, lx, ly, hgc, hnb⟩
    simp only at px py lx ly hgc hnb
    show AWP _ _ _ _ _ (mk 84 [(4, .ptr 4 0), (5, V1 (dW (wof x))), (6, V1 (dW (wof y))), (7, dI t)] [(4, some (.box [.d (.lit (.bool false)), .nil]))] [])
    have l1 := hlen x lx
    have l2 := hlen' y ly
    have hcx : ncmp (wv (wof x)) (wv (wof y)) = ncmp x y := by rw [wv_wof, wv_wof]
    refine AWP_seq ?_
    refine AWP_reg_seq tok fun K hK => ?_
    refine s_move rfl rfl rfl ?_
    refine s_move rfl rfl rfl ?_
    refine s_call rfl rfl (r1cmp_c (wof x) (wof y) (wof_ok _) (wof_ok _) (wof_top _) (wof_top _) (by omega) (by omega)) rfl rfl rfl rfl ?_
    refine s_bin rfl rfl rfl ?_
    refine s_end (hK _ ?_); clear hK K
    refine a_cond rfl (fun he => ?_) (fun he => ?_)
    · have he : x ≠ y := by
        rw [hcx] at he
        intro h
        rw [ncmp_eq.2 h] at he; simp at he
      refine AWP_skip ?_
      show AWP _ _ _ _ _ _
      refine AWP_block ?_
      refine AWP_block ?_
      refine a_keep [(4, .ptr 4 0), (5, V1 (dW (wof x))), (6, V1 (dW (wof y))), (7, dI t)] [(4, some (.box [.d (.lit (.bool false)), .nil]))] ⟨rfl, rfl, rfl, rfl, trivial⟩ ⟨rfl, trivial⟩ ?_
      refine AWP_reg_seq tok fun K hK => ?_
      refine s_move rfl rfl rfl ?_
      refine s_indexAddr rfl (x_wD (i := 0) rfl rfl rfl rfl rfl (wof_pos px)) rfl ?_
      refine s_load rfl rfl rfl ?_
      refine s_bin rfl (e_remU (y := 2) (z := x % 2) (by omega) (wof_even x)) rfl ?_
      refine s_bin rfl rfl rfl ?_
      refine s_assign rfl rfl rfl ?_
      refine s_end (hK _ ?_); clear hK K
      refine a_cond rfl (fun hev => ?_) (fun hev => ?_)
      · have hev : x % 2 = 0 := by simp at hev; omega
        have hyo : y % 2 = 1 := by have : ¬ y % 2 = 0 := fun h => hnb ⟨hev, h⟩; omega
        refine AWP_reg tok fun K hK => ?_
        refine s_move rfl rfl rfl ?_
        refine s_call rfl rfl (r1half_c (wof x) (wof_ok _) (by omega)) rfl rfl rfl rfl ?_
        refine s_assign rfl rfl rfl ?_
        refine s_end (hK _ ?_); clear hK K
        exact ⟨(x / 2, y), by simp only; omega, ⟨by simp only; omega, py, by simp only; omega, ly, by rw [← hgc]; exact gcd_half hev hyo, by simp only; omega⟩, Wk.mk' ⟨rfl, dW_eq (by rw [wv_wof]), rfl, rfl, trivial⟩ ⟨rfl, trivial⟩⟩
      have hev : x % 2 = 1 := by simp at hev; omega
      refine AWP_reg_seq tok fun K hK => ?_
      refine s_move rfl rfl rfl ?_
      refine s_indexAddr rfl (x_wD (i := 0) rfl rfl rfl rfl rfl (wof_pos py)) rfl ?_
      refine s_load rfl rfl rfl ?_
      refine s_bin rfl (e_remU (y := 2) (z := y % 2) (by omega) (wof_even y)) rfl ?_
      refine s_bin rfl rfl rfl ?_
      refine s_assign rfl rfl rfl ?_
      refine s_end (hK _ ?_); clear hK K
      refine a_cond rfl (fun hod => ?_) (fun hod => ?_)
      · have hod : y % 2 = 0 := by simp at hod; omega
        refine AWP_reg tok fun K hK => ?_
        refine s_move rfl rfl rfl ?_
        refine s_call rfl rfl (r1half_c (wof y) (wof_ok _) (by omega)) rfl rfl rfl rfl ?_
        refine s_assign rfl rfl rfl ?_
        refine s_end (hK _ ?_); clear hK K
        exact ⟨(x, y / 2), by simp only; omega, ⟨px, by simp only; omega, lx, by simp only; omega, by rw [← hgc, Nat.gcd_comm x, Nat.gcd_comm x]; exact gcd_half hod hev, by simp only; omega⟩, Wk.mk' ⟨rfl, rfl, dW_eq (by rw [wv_wof]), rfl, trivial⟩ ⟨rfl, trivial⟩⟩
      have hod : y % 2 = 1 := by simp at hod; omega
      refine AWP_reg_seq tok fun K hK => ?_
      refine s_move rfl rfl rfl ?_
      refine s_move rfl rfl rfl ?_
      refine s_call rfl rfl (r1cmp_c (wof x) (wof y) (wof_ok _) (wof_ok _) (wof_top _) (wof_top _) (by omega) (by omega)) rfl rfl rfl rfl ?_
      refine s_bin rfl rfl rfl ?_
      refine s_assign rfl rfl rfl ?_
      refine s_end (hK _ ?_); clear hK K
      refine a_cond rfl (fun hgt => ?_) (fun hgt => ?_)
      · have hgt : y < x := by
          rw [hcx] at hgt
          exact ncmp_gt.1 (of_decide_eq_true hgt)
        refine AWP_reg tok fun K hK => ?_
        refine s_move rfl rfl rfl ?_
        refine s_move rfl rfl rfl ?_
        refine s_call rfl rfl (r1sub_c (wof x) (wof y) (wof_ok _) (wof_ok _) (by omega) (wl_mono (by omega)) (by rw [wv_wof, wv_wof]; omega)) rfl rfl rfl rfl ?_
        refine s_assign rfl rfl rfl ?_
        refine s_end (hK _ ?_); clear hK K
        exact ⟨(x - y, y), by simp only; omega, ⟨by simp only; omega, py, by simp only; omega, ly, by rw [← hgc]; exact Nat.gcd_sub_self_left (by omega), by simp only; omega⟩, Wk.mk' ⟨rfl, dW_eq (by rw [wv_wof, wv_wof]), rfl, rfl, trivial⟩ ⟨rfl, trivial⟩⟩
      · have hgt : x < y := by
          rw [hcx] at hgt
          have := mt ncmp_gt.2 (of_decide_eq_false hgt)
          omega
        refine AWP_reg tok fun K hK => ?_
        refine s_move rfl rfl rfl ?_
        refine s_move rfl rfl rfl ?_
        refine s_call rfl rfl (r1sub_c (wof y) (wof x) (wof_ok _) (wof_ok _) (by omega) (wl_mono (by omega)) (by rw [wv_wof, wv_wof]; omega)) rfl rfl rfl rfl ?_
        refine s_assign rfl rfl rfl ?_
        refine s_end (hK _ ?_); clear hK K
        exact ⟨(x, y - x), by simp only; omega, ⟨px, by simp only; omega, lx, by simp only; omega, by rw [← hgc]; exact Nat.gcd_sub_self_right (by omega), by simp only; omega⟩, Wk.mk' ⟨rfl, rfl, dW_eq (by rw [wv_wof, wv_wof]), rfl, trivial⟩ ⟨rfl, trivial⟩⟩
    · have he : x = y := by
        rw [hcx] at he
        simp at he; exact ncmp_eq.1 he
      subst he
      rw [Nat.gcd_self] at hgc
      refine AWP_exit ?_
      exact ⟨(), trivial, Wk.mk' ⟨rfl, by rw [← hgc]; rfl, rfl, trivial⟩ ⟨rfl, trivial⟩⟩
  rintro - -
  have hgle : Nat.gcd A B ≤ A := Nat.gcd_le_left _ hA0
  generalize hgg : Nat.gcd x0 y0 = g at *
  show AWP _ _ _ _ _ (mk 84 [(4, .ptr 4 0), (5, V1 (dW (wof g))), (7, dI t)] [(4, some (.box [.d (.lit (.bool false)), .nil]))] [])
  refine AWP_seq ?_
  refine AWP_reg_seq tok fun K hK => ?_
  refine s_assign rfl rfl rfl ?_
  refine s_end (hK _ ?_); clear hK K
  refine AWP_block (a_loop (α := Nat) (fun i => mk 84 [(4, .ptr 4 0), (5, V1 (dW (wof (g * 2 ^ i)))), (7, dI t), (8, dI i)] [(4, some (.box [.d (.lit (.bool false)), .nil]))] []) (fun i => i ≤ t) (fun i => t - i) 0 ?_ (Nat.zero_le _) ?_)
  · exact Wk.mk' ⟨rfl, by simp; rfl, rfl, rfl, trivial⟩ ⟨rfl, trivial⟩
  intro i hi
  refine AWP_seq ?_
  refine AWP_reg_seq tok fun K hK => ?_
  refine s_move rfl rfl rfl ?_
  refine s_move rfl rfl rfl ?_
  refine s_bin rfl rfl rfl ?_
  refine s_end (hK _ ?_); clear hK K
  refine a_cond rfl (fun he => ?_) (fun he => ?_)
  · have he : i < t := by simp at he; omega
    have hle : g * 2 ^ i ≤ A := by
      have : g * 2 ^ i ≤ g * 2 ^ t := Nat.mul_le_mul_left _ (Nat.pow_le_pow_right (by decide) hi)
      omega
    have l1 := hlen _ hle
    refine AWP_skip ?_
    show AWP _ _ _ _ _ _
    refine AWP_seq ?_
    refine AWP_block ?_
    refine AWP_reg tok fun K hK => ?_
    refine s_move rfl rfl rfl ?_
    refine s_move rfl rfl rfl ?_
    refine s_call rfl rfl (r1add_c (wof (g * 2 ^ i)) (wof (g * 2 ^ i)) (wof_ok _) (wof_ok _) (by omega) (by omega)) rfl rfl rfl rfl ?_
    refine s_assign rfl rfl rfl ?_
    refine s_end (hK _ ?_); clear hK K
    show AWP _ _ _ _ _ _
    refine AWP_reg tok fun K hK => ?_
    refine s_move rfl rfl rfl ?_
    refine s_bin rfl (e_add (c := ((i + 1 : Nat) : Int)) (by omega) (by omega)) rfl ?_
    refine s_assign rfl rfl rfl ?_
    refine s_end (hK _ ?_); clear hK K
    refine ⟨i + 1, by omega, he, Wk.mk' ⟨rfl, ?_, rfl, rfl, trivial⟩ ⟨rfl, trivial⟩⟩
    refine dW_eq ?_
    rw [wv_wof, Nat.pow_succ]
    congr 1; grind
  · have he : i = t := by simp at he; omega
    subst he
    rw [hG] at *
    refine AWP_exit ?_
    show AWP _ _ _ _ _ _
    refine AWP_reg_seq tok fun K hK => ?_
    refine s_move rfl rfl rfl ?_
    refine s_build rfl rfl rfl ?_
    refine s_store rfl rfl rfl rfl rfl ?_
    refine s_end (hK _ ?_); clear hK K
    refine AWP_ret ?_
    repeat (with_reducible refine tq_ret ?_)
    exact post_ret (fin_mk (by rfl) (by rfl) (by rw [ZC_nat]; rfl))
end Go.Proofs.YtcafppnjemgkiaaGreat

/- The reference's rationals. No condition. -/
namespace Go.Proofs.YtcafppnjemgkiaaGreat
attribute [local irreducible] lexA

theorem r1NegZ_c (x : Int) (hx : zl x ≤ 268435456) : Con Tryz.prog 75 [AG (ZC x)] { v := AG (ZC (-x)) } := by
  have := r1Neg_c (decide (x < 0)) (wof x.natAbs) (wof_ok _) (Nat.le_trans hx (by decide))
  rw [zv_ZC] at this; exact this
theorem r1AddZ_c (x y : Int) (hx : zl x ≤ 536870912) (hy : zl y ≤ 536870912) : Con Tryz.prog 65 [AG (ZC x), AG (ZC y)] { v := AG (ZC (x + y)) } := by
  have := r1Add_c (decide (x < 0)) (decide (y < 0)) (wof x.natAbs) (wof y.natAbs) (wof_ok _) (wof_ok _) hx hy
  rw [zv_ZC, zv_ZC] at this; exact this
theorem r1SubZ_c (x y : Int) (hx : zl x ≤ 536870912) (hy : zl y ≤ 536870912) : Con Tryz.prog 82 [AG (ZC x), AG (ZC y)] { v := AG (ZC (x - y)) } := by
  have := r1Sub_c (decide (x < 0)) (decide (y < 0)) (wof x.natAbs) (wof y.natAbs) (wof_ok _) (wof_ok _) hx hy
  rw [zv_ZC, zv_ZC] at this; exact this
theorem r1MulZ_c (x y : Int) (hx : zl x ≤ 500000000) (hy : zl y ≤ 500000000) : Con Tryz.prog 66 [AG (ZC x), AG (ZC y)] { v := AG (ZC (x * y)) } := by
  have := r1Mul_c (decide (x < 0)) (decide (y < 0)) (wof x.natAbs) (wof y.natAbs) (wof_ok _) (wof_ok _) hx hy
  rw [zv_ZC, zv_ZC] at this; exact this
theorem r1SignZ_c (x : Int) (hx : zl x ≤ 536870912) : Con Tryz.prog 52 [AG (ZC x)] { v := dI x.sign } := by
  have := r1Sign_c (decide (x < 0)) (wof x.natAbs) (wof_ok _) (Nat.le_trans hx (by decide))
  rw [zv_ZC] at this; exact this
theorem r1DivMod_q (na nb : Bool) (wa wb : List Nat) (x y q : Int) (ha : wOK wa) (hb : wOK wb) (la : wa.length ≤ 268435456) (lb : wb.length ≤ 268435456) (hx : zv na wa = x) (hy : zv nb wb = y) (h0 : y ≠ 0) (hq : x / y = q) :
    Con Tryz.prog 74 [AG (IC na wa), AG (IC nb wb)] { v := .tup [.agg (ZC q), .agg (ZC (x % y)), .one (.d (lI 0))] } := by
  subst hx hy hq
  exact r1DivMod_c na nb wa wb ha hb la lb h0

theorem r2One_c : Con Tryz.prog 83 [] { v := AG (ZC 1) } := by
  refine con_intro (fn := Tryz.f83) tok Tryz.func83 (by kernel_rfl) rfl ?_
  intro w0 X
  rw [entry_mkE _ _ [] rfl rfl]
  refine AWP_reg_seq tok fun K hK => ?_
  refine s_alloc rfl rfl rfl rfl rfl rfl ?_
  refine s_end (hK _ ?_); clear hK K
  refine AWP_reg_seq tok fun K hK => ?_
  refine s_call rfl rfl (r1Of_c 1 (by unfold I64; omega)) rfl rfl rfl rfl ?_
  refine s_store rfl rfl rfl rfl rfl ?_
  refine s_end (hK _ ?_); clear hK K
  refine AWP_ret ?_
  repeat (with_reducible refine tq_ret ?_)
  exact post_ret (fin_mk (by rfl) (by rfl) (by rfl))

theorem r2part_q (na nb : Bool) (wa wb : List Nat) (x y q : Int) (ha : wOK wa) (hb : wOK wb) (la : wa.length ≤ 268435456) (lb : wb.length ≤ 268435456) (hx : zv na wa = x) (hy : zv nb wb = y) (h0 : y ≠ 0) (hq : x / y = q) :
    Con Tryz.prog 84 [AG (IC na wa), AG (IC nb wb)] { v := AG (ZC q) } := by
  refine con_intro (fn := Tryz.f84) tok Tryz.func84 (by kernel_rfl) rfl ?_
  intro w0 X
  rw [entry_mkE _ _ [(0, AG (IC na wa)), (1, AG (IC nb wb))] rfl rfl]
  refine AWP_reg_seq tok fun K hK => ?_
  refine s_box rfl rfl rfl rfl rfl rfl ?_
  refine s_box rfl rfl rfl rfl rfl rfl ?_
  refine s_alloc rfl rfl rfl rfl rfl rfl ?_
  refine s_end (hK _ ?_); clear hK K
  refine AWP_reg_seq tok fun K hK => ?_
  refine s_load rfl rfl rfl ?_
  refine s_load rfl rfl rfl ?_
  refine s_call rfl rfl (r1DivMod_q na nb wa wb x y q ha hb la lb hx hy h0 hq) rfl rfl rfl rfl ?_
  refine s_move rfl rfl rfl ?_
  refine s_extract rfl rfl rfl ?_
  refine s_extract rfl rfl rfl ?_
  refine s_extract rfl rfl rfl ?_
  refine s_alloc rfl rfl rfl rfl rfl rfl ?_
  refine s_alloc rfl rfl rfl rfl rfl rfl ?_
  refine s_store rfl rfl rfl rfl rfl ?_
  refine s_store rfl rfl rfl rfl rfl ?_
  refine s_assign rfl rfl rfl ?_
  refine s_end (hK _ ?_); clear hK K
  refine AWP_reg_seq tok fun K hK => ?_
  refine s_load rfl rfl rfl ?_
  refine s_store rfl rfl rfl rfl rfl ?_
  refine s_end (hK _ ?_); clear hK K
  refine AWP_ret ?_
  repeat (with_reducible refine tq_ret ?_)
  exact post_ret (fin_mk (by rfl) (by rfl) (by rfl))

theorem r2New_c (na nb : Bool) (wa wb : List Nat) (ha : wOK wa) (hb : wOK wb) (la : wa.length ≤ 268435456) (lb : wb.length ≤ 268435456) :
    Con Tryz.prog 61 [AG (IC na wa), AG (IC nb wb)] { v := AG (QZ (Rat.divInt (zv na wa) (zv nb wb))) } := by
  have lza : zl (zv na wa) ≤ 268435456 := by unfold zl; rw [zv_abs]; exact Nat.le_trans (wl_len ha) la
  have lzb : zl (zv nb wb) ≤ 268435456 := by unfold zl; rw [zv_abs]; exact Nat.le_trans (wl_len hb) lb
  generalize hx : zv na wa = x at *
  generalize hy : zv nb wb = y at *
  refine con_intro (fn := Tryz.f61) tok Tryz.func61 (by kernel_rfl) rfl ?_
  intro w0 X
  rw [entry_mkE _ _ [(0, AG (IC na wa)), (1, AG (IC nb wb))] rfl rfl]
  refine AWP_reg_seq tok fun K hK => ?_
  refine s_box rfl rfl rfl rfl rfl rfl ?_
  refine s_box rfl rfl rfl rfl rfl rfl ?_
  refine s_alloc rfl rfl rfl rfl rfl rfl ?_
  refine s_end (hK _ ?_); clear hK K
  refine AWP_seq ?_
  refine a_join (α := Bool) (fun c => mk 34 [(2, .ptr 2 0), (3, .ptr 3 0), (4, .ptr 4 0), (13, dB c)] [(2, some (.box (IC na wa))), (3, some (.box (IC nb wb))), (4, some (.box [.d (.lit (.bool false)), .nil, .d (.lit (.bool false)), .nil]))] []) (fun c => (c = true → x = 0 ∨ y = 0) ∧ (c = false → x ≠ 0 ∧ y ≠ 0)) ?_ ?_
  · refine AWP_reg tok fun K hK => ?_
    refine s_load rfl rfl rfl ?_
    refine s_call rfl rfl (hx ▸ r1Sign_c na wa ha (by omega)) rfl rfl rfl rfl ?_
    refine s_bin rfl rfl rfl ?_
    refine s_move rfl rfl rfl ?_
    refine s_split (fun he => ?_) (fun he => ?_)
    · have he : x = 0 := Int.sign_eq_zero_iff_zero.1 (by simpa using he)
      refine s_skip rfl ?_
      refine s_skip rfl ?_
      refine s_skip rfl ?_
      refine s_pick rfl rfl rfl ?_
      refine s_end (hK _ ?_); clear hK K
      exact ⟨true, ⟨fun _ => Or.inl he, fun h => (by cases h)⟩, Wk.mk' ⟨rfl, rfl, rfl, rfl, trivial⟩ ⟨rfl, rfl, rfl, trivial⟩⟩
    · have he : x ≠ 0 := by intro h; subst h; simp at he
      refine s_load rfl rfl rfl ?_
      refine s_call rfl rfl (hy ▸ r1Sign_c nb wb hb (by omega)) rfl rfl rfl rfl ?_
      refine s_bin rfl rfl rfl ?_
      refine s_pick rfl rfl rfl ?_
      refine s_end (hK _ ?_); clear hK K
      refine ⟨_, ⟨fun h => ?_, fun h => ?_⟩, Wk.mk' ⟨rfl, rfl, rfl, rfl, trivial⟩ ⟨rfl, rfl, rfl, trivial⟩⟩
      · exact Or.inr (Int.sign_eq_zero_iff_zero.1 (by simpa using h))
      · exact ⟨he, by intro h'; subst h'; simp at h⟩
  rintro c ⟨k1, k2⟩
  refine a_cond rfl (fun hc => ?_) (fun hc => ?_)
  · have h0 : Rat.divInt x y = 0 := by
      rcases k1 hc with h | h
      · rw [h, Rat.zero_divInt]
      · rw [h, Rat.divInt_zero]
    refine AWP_reg_seq tok fun K hK => ?_
    refine s_call rfl rfl (r1Of_c 0 (by unfold I64; omega)) rfl rfl rfl rfl ?_
    refine s_call rfl rfl (r2One_c) rfl rfl rfl rfl ?_
    refine s_build rfl rfl rfl ?_
    refine s_store rfl rfl rfl rfl rfl ?_
    refine s_end (hK _ ?_); clear hK K
    refine AWP_ret ?_
    repeat (with_reducible refine tq_ret ?_)
    exact post_ret (fin_mk (by rfl) (by rfl) (by rw [h0]; rfl))
  obtain ⟨hx0, h0⟩ := k2 hc
  refine AWP_skip ?_
  show AWP _ _ _ _ _ _
  refine a_join (α := (Bool × List Nat) × (Bool × List Nat)) (fun p => mk 34 [(2, .ptr 2 0), (3, .ptr 3 0), (4, .ptr 4 0)] [(2, some (.box (IC p.1.1 p.1.2))), (3, some (.box (IC p.2.1 p.2.2))), (4, some (.box [.d (.lit (.bool false)), .nil, .d (.lit (.bool false)), .nil]))] []) (fun p => wOK p.1.2 ∧ wOK p.2.2 ∧ p.1.2.length ≤ 268435456 ∧ p.2.2.length ≤ 268435456 ∧ zv p.1.1 p.1.2 = y.sign * x ∧ zv p.2.1 p.2.2 = (y.natAbs : Int)) ?_ ?_
  · refine AWP_reg_seq tok fun K hK => ?_
    refine s_load rfl rfl rfl ?_
    refine s_call rfl rfl (hy ▸ r1Sign_c nb wb hb (by omega)) rfl rfl rfl rfl ?_
    refine s_bin rfl rfl rfl ?_
    refine s_end (hK _ ?_); clear hK K
    refine a_cond rfl (fun hd => ?_) (fun hd => ?_)
    · have hd : y < 0 := by
        have h1 : y.sign < 0 := of_decide_eq_true hd
        rcases Int.lt_trichotomy y 0 with h | h | h
        · exact h
        · exact absurd h h0
        · rw [Int.sign_eq_one_of_pos h] at h1; omega
      refine AWP_reg_seq tok fun K hK => ?_
      refine s_load rfl rfl rfl ?_
      refine s_call rfl rfl (hx ▸ r1Neg_c na wa ha (by omega)) rfl rfl rfl rfl ?_
      refine s_store rfl rfl rfl rfl rfl ?_
      refine s_end (hK _ ?_); clear hK K
      show AWP _ _ _ _ _ _
      refine AWP_reg tok fun K hK => ?_
      refine s_load rfl rfl rfl ?_
      refine s_call rfl rfl (hy ▸ r1Neg_c nb wb hb (by omega)) rfl rfl rfl rfl ?_
      refine s_store rfl rfl rfl rfl rfl ?_
      refine s_end (hK _ ?_); clear hK K
      refine ⟨((decide (-x < 0), wof (-x).natAbs), (decide (-y < 0), wof (-y).natAbs)), ⟨wof_ok _, wof_ok _, ?_, ?_, ?_, ?_⟩, Wk.mk' ⟨rfl, rfl, rfl, trivial⟩ ⟨rfl, rfl, rfl, trivial⟩⟩
      · show zl (-x) ≤ _; rw [zl_neg]; exact lza
      · show zl (-y) ≤ _; rw [zl_neg]; exact lzb
      · simp only; rw [zv_ZC, Int.sign_eq_neg_one_of_neg hd]; omega
      · simp only; rw [zv_ZC]; omega
    · have hd : 0 < y := by
        have h1 : ¬ y.sign < 0 := of_decide_eq_false hd
        rcases Int.lt_trichotomy y 0 with h | h | h
        · rw [Int.sign_eq_neg_one_of_neg h] at h1; omega
        · exact absurd h h0
        · exact h
      refine AWP_skip ?_
      refine ⟨((na, wa), (nb, wb)), ⟨ha, hb, la, lb, ?_, ?_⟩, Wk.mk' ⟨rfl, rfl, rfl, trivial⟩ ⟨rfl, rfl, rfl, trivial⟩⟩
      · simp only; rw [hx, Int.sign_eq_one_of_pos hd]; omega
      · simp only; rw [hy]; omega
  rintro ⟨⟨na', wa'⟩, ⟨nb', wb'⟩⟩ ⟨oa, ob, ka, kb, va, vb⟩
  simp only at oa ob ka kb va vb
  show AWP _ _ _ _ _ (mk 34 [(2, .ptr 2 0), (3, .ptr 3 0), (4, .ptr 4 0)] [(2, some (.box (IC na' wa'))), (3, some (.box (IC nb' wb'))), (4, some (.box [.d (.lit (.bool false)), .nil, .d (.lit (.bool false)), .nil]))] [])
  have hg : (Int.gcd (zv na' wa') (zv nb' wb') : Int) = (Int.gcd x y : Int) := by
    rw [va, vb]
    show ((Nat.gcd (y.sign * x).natAbs (y.natAbs : Int).natAbs : Nat) : Int) = _
    rw [Int.natAbs_mul, Int.natAbs_natCast]
    have : y.sign.natAbs = 1 := by
      rcases Int.lt_trichotomy y 0 with h | h | h
      · rw [Int.sign_eq_neg_one_of_neg h]; rfl
      · exact absurd h h0
      · rw [Int.sign_eq_one_of_pos h]; rfl
    rw [this, Nat.one_mul]; rfl
  have hgn : (Int.gcd x y : Int) ≠ 0 := by have := gcd_pos (x := x) h0; omega
  have hgl : (wof (Int.gcd x y : Int).natAbs).length ≤ 268435456 := Nat.le_trans (zl_gcd x h0) lzb
  refine AWP_reg_seq tok fun K hK => ?_
  refine s_load rfl rfl rfl ?_
  refine s_load rfl rfl rfl ?_
  refine s_call rfl rfl (hg ▸ r1Gcd_c na' nb' wa' wb' oa ob ka kb) rfl rfl rfl rfl ?_
  refine s_alloc rfl rfl rfl rfl rfl rfl ?_
  refine s_store rfl rfl rfl rfl rfl ?_
  refine s_end (hK _ ?_); clear hK K
  refine a_keep [(2, .ptr 2 0), (3, .ptr 3 0), (4, .ptr 4 0), (5, .ptr 5 0)] [(2, some (.box (IC na' wa'))), (3, some (.box (IC nb' wb'))), (4, some (.box [.d (.lit (.bool false)), .nil, .d (.lit (.bool false)), .nil])), (5, some (.box (ZC (Int.gcd x y : Int))))] ⟨rfl, rfl, rfl, rfl, trivial⟩ ⟨rfl, rfl, rfl, rfl, trivial⟩ ?_
  refine a_draw tok mixed (A := [[], [], [], [], [], [0, 1], [0, 1, 3, 4], []]) (an := [{}, {}, {}, { c := [29] }, { c := [29] }, {}, {}, {}]) rfl (by kernel_rfl) rfl fun K hK => ?_
  refine s_load rfl rfl rfl ?_
  refine s_load rfl rfl rfl ?_
  refine s_call rfl rfl (r2part_q na' (decide ((Int.gcd x y : Int) < 0)) wa' (wof (Int.gcd x y : Int).natAbs) (y.sign * x) (Int.gcd x y : Int) (Rat.divInt x y).num oa (wof_ok _) ka hgl va (zv_ZC _) hgn (num_gcd x y).symm) rfl rfl rfl rfl ?_
  refine s_load rfl rfl rfl ?_
  refine s_load rfl rfl rfl ?_
  refine s_call rfl rfl (r2part_q nb' (decide ((Int.gcd x y : Int) < 0)) wb' (wof (Int.gcd x y : Int).natAbs) (y.natAbs : Int) (Int.gcd x y : Int) ((Rat.divInt x y).den : Int) ob (wof_ok _) kb hgl vb (zv_ZC _) hgn (den_gcd h0).symm) rfl rfl rfl rfl ?_
  refine s_build rfl rfl rfl ?_
  refine s_store rfl rfl rfl rfl rfl ?_
  refine s_end (hK _ ?_); clear hK K
  refine AWP_ret ?_
  repeat (with_reducible refine tq_ret ?_)
  exact post_ret (fin_mk (by rfl) (by rfl) (by rfl))

theorem r2Of_c (n d : Int) (hn : I64 n) (hd : I64 d) : Con Tryz.prog 37 [dI n, dI d] { v := AG (QZ (Rat.divInt n d)) } := by
  have h1 := zl_i64 hn
  have h2 := zl_i64 hd
  have hz : Rat.divInt (zv (decide (n < 0)) (wof n.natAbs)) (zv (decide (d < 0)) (wof d.natAbs)) = Rat.divInt n d := by rw [zv_ZC, zv_ZC]
  refine con_intro (fn := Tryz.f37) tok Tryz.func37 (by kernel_rfl) rfl ?_
  intro w0 X
  rw [entry_mkE _ _ [(0, dI n), (1, dI d)] rfl rfl]
  refine AWP_reg_seq tok fun K hK => ?_
  refine s_alloc rfl rfl rfl rfl rfl rfl ?_
  refine s_end (hK _ ?_); clear hK K
  refine AWP_reg_seq tok fun K hK => ?_
  refine s_move rfl rfl rfl ?_
  refine s_call rfl rfl (r1Of_c n hn) rfl rfl rfl rfl ?_
  refine s_move rfl rfl rfl ?_
  refine s_call rfl rfl (r1Of_c d hd) rfl rfl rfl rfl ?_
  refine s_call rfl rfl (hz ▸ r2New_c (decide (n < 0)) (decide (d < 0)) (wof n.natAbs) (wof d.natAbs) (wof_ok _) (wof_ok _) (Nat.le_trans h1 (by decide)) (Nat.le_trans h2 (by decide))) rfl rfl rfl rfl ?_
  refine s_store rfl rfl rfl rfl rfl ?_
  refine s_end (hK _ ?_); clear hK K
  refine AWP_ret ?_
  repeat (with_reducible refine tq_ret ?_)
  exact post_ret (fin_mk (by rfl) (by rfl) (by rfl))

theorem r2NewZ_c (x y : Int) (q : Rat) (hx : zl x ≤ 268435456) (hy : zl y ≤ 268435456) (h : Rat.divInt x y = q) : Con Tryz.prog 61 [AG (ZC x), AG (ZC y)] { v := AG (QZ q) } := by
  have := r2New_c (decide (x < 0)) (decide (y < 0)) (wof x.natAbs) (wof y.natAbs) (wof_ok _) (wof_ok _) hx hy
  rw [zv_ZC, zv_ZC, h] at this; exact this

theorem r2Norm_c (na nb : Bool) (wa wb : List Nat) (ha : wOK wa) (hb : wOK wb) (la : wa.length ≤ 268435456) (lb : wb.length ≤ 268435456) :
    Con Tryz.prog 53 [AG (QC na wa nb wb)] { v := AG (QZ (qv na wa nb wb)) } := by
  refine con_intro (fn := Tryz.f53) tok Tryz.func53 (by kernel_rfl) rfl ?_
  intro w0 X
  rw [entry_mkE _ _ [(0, AG (QC na wa nb wb))] rfl rfl]
  refine AWP_reg_seq tok fun K hK => ?_
  refine s_box rfl rfl rfl rfl rfl rfl ?_
  refine s_alloc rfl rfl rfl rfl rfl rfl ?_
  refine s_end (hK _ ?_); clear hK K
  refine AWP_reg_seq tok fun K hK => ?_
  refine s_fieldAddr rfl rfl rfl ?_
  refine s_load rfl rfl rfl ?_
  refine s_fieldAddr rfl rfl rfl ?_
  refine s_load rfl rfl rfl ?_
  refine s_call rfl rfl (r2New_c na nb wa wb ha hb la lb) rfl rfl rfl rfl ?_
  refine s_store rfl rfl rfl rfl rfl ?_
  refine s_end (hK _ ?_); clear hK K
  refine AWP_ret ?_
  repeat (with_reducible refine tq_ret ?_)
  exact post_ret (fin_mk (by rfl) (by rfl) (by rfl))

theorem r2Sign_c (na nb : Bool) (wa wb : List Nat) (ha : wOK wa) (hb : wOK wb) (la : wa.length ≤ 268435456) (lb : wb.length ≤ 268435456) :
    Con Tryz.prog 26 [AG (QC na wa nb wb)] { v := dI (qv na wa nb wb).num.sign } := by
  have h1 := ql_qv (na := na) (nb := nb) ha hb la lb (by decide)
  have h2 := ql_num (qv na wa nb wb)
  refine con_intro (fn := Tryz.f26) tok Tryz.func26 (by kernel_rfl) rfl ?_
  intro w0 X
  rw [entry_mkE _ _ [(0, AG (QC na wa nb wb))] rfl rfl]
  refine AWP_reg_seq tok fun K hK => ?_
  refine s_box rfl rfl rfl rfl rfl rfl ?_
  refine s_assign rfl rfl rfl ?_
  refine s_end (hK _ ?_); clear hK K
  refine AWP_reg_seq tok fun K hK => ?_
  refine s_load rfl rfl rfl ?_
  refine s_call rfl rfl (r2Norm_c na nb wa wb ha hb la lb) rfl rfl rfl rfl ?_
  refine s_field rfl rfl rfl ?_
  refine s_call rfl rfl (r1SignZ_c (qv na wa nb wb).num (by omega)) rfl rfl rfl rfl ?_
  refine s_assign rfl rfl rfl ?_
  refine s_end (hK _ ?_); clear hK K
  refine AWP_ret ?_
  repeat (with_reducible refine tq_ret ?_)
  exact post_ret (fin_mk (by rfl) (by rfl) (by rfl))

theorem r2Neg_c (na nb : Bool) (wa wb : List Nat) (ha : wOK wa) (hb : wOK wb) (la : wa.length ≤ 268435456) (lb : wb.length ≤ 268435456) :
    Con Tryz.prog 67 [AG (QC na wa nb wb)] { v := AG (QZ (-(qv na wa nb wb))) } := by
  have h1 := ql_qv (na := na) (nb := nb) ha hb la lb (by decide)
  have h2 := ql_num (qv na wa nb wb)
  have h3 := ql_den (qv na wa nb wb)
  have hz : Rat.divInt (-(qv na wa nb wb).num) (qv na wa nb wb).den = -(qv na wa nb wb) := by rw [← Rat.neg_divInt, divInt_self]
  refine con_intro (fn := Tryz.f67) tok Tryz.func67 (by kernel_rfl) rfl ?_
  intro w0 X
  rw [entry_mkE _ _ [(0, AG (QC na wa nb wb))] rfl rfl]
  refine AWP_reg_seq tok fun K hK => ?_
  refine s_box rfl rfl rfl rfl rfl rfl ?_
  refine s_alloc rfl rfl rfl rfl rfl rfl ?_
  refine s_end (hK _ ?_); clear hK K
  refine AWP_reg_seq tok fun K hK => ?_
  refine s_load rfl rfl rfl ?_
  refine s_call rfl rfl (r2Norm_c na nb wa wb ha hb la lb) rfl rfl rfl rfl ?_
  refine s_alloc rfl rfl rfl rfl rfl rfl ?_
  refine s_store rfl rfl rfl rfl rfl ?_
  refine s_end (hK _ ?_); clear hK K
  refine a_draw tok mixed (A := [[], [], [0], [], [], [0, 1, 3], []]) (an := [{}, {}, {}, { c := [8] }, { c := [8] }, {}, {}]) rfl (by kernel_rfl) rfl fun K hK => ?_
  refine s_fieldAddr rfl rfl rfl ?_
  refine s_load rfl rfl rfl ?_
  refine s_call rfl rfl (r1NegZ_c (qv na wa nb wb).num (by omega)) rfl rfl rfl rfl ?_
  refine s_fieldAddr rfl rfl rfl ?_
  refine s_load rfl rfl rfl ?_
  refine s_call rfl rfl (r2NewZ_c (-(qv na wa nb wb).num) (qv na wa nb wb).den _ (by rw [zl_neg]; omega) (by omega) hz) rfl rfl rfl rfl ?_
  refine s_store rfl rfl rfl rfl rfl ?_
  refine s_end (hK _ ?_); clear hK K
  refine AWP_ret ?_
  repeat (with_reducible refine tq_ret ?_)
  exact post_ret (fin_mk (by rfl) (by rfl) (by rfl))

theorem r2Add_c (na nb nc nd : Bool) (wa wb wc wd : List Nat) (ha : wOK wa) (hb : wOK wb) (hc : wOK wc) (hd : wOK wd) (la : wa.length ≤ 16777216) (lb : wb.length ≤ 16777216) (lc : wc.length ≤ 16777216) (ld : wd.length ≤ 16777216) :
    Con Tryz.prog 45 [AG (QC na wa nb wb), AG (QC nc wc nd wd)] { v := AG (QZ (qv na wa nb wb + qv nc wc nd wd)) } := by
  have hx := ql_qv (na := na) (nb := nb) ha hb la lb (by decide)
  have hy := ql_qv (na := nc) (nb := nd) hc hd lc ld (by decide)
  have a1 := ql_num (qv na wa nb wb)
  have a2 := ql_den (qv na wa nb wb)
  have b1 := ql_num (qv nc wc nd wd)
  have b2 := ql_den (qv nc wc nd wd)
  have m1 := zl_mul (qv na wa nb wb).num (qv nc wc nd wd).den
  have m2 := zl_mul (qv nc wc nd wd).num (qv na wa nb wb).den
  have m3 := zl_mul (qv na wa nb wb).den (qv nc wc nd wd).den
  have m4 := zl_add ((qv na wa nb wb).num * (qv nc wc nd wd).den) ((qv nc wc nd wd).num * (qv na wa nb wb).den)
  refine con_intro (fn := Tryz.f45) tok Tryz.func45 (by kernel_rfl) rfl ?_
  intro w0 X
  rw [entry_mkE _ _ [(0, AG (QC na wa nb wb)), (1, AG (QC nc wc nd wd))] rfl rfl]
  refine AWP_reg_seq tok fun K hK => ?_
  refine s_box rfl rfl rfl rfl rfl rfl ?_
  refine s_box rfl rfl rfl rfl rfl rfl ?_
  refine s_alloc rfl rfl rfl rfl rfl rfl ?_
  refine s_end (hK _ ?_); clear hK K
  refine AWP_reg_seq tok fun K hK => ?_
  refine s_load rfl rfl rfl ?_
  refine s_call rfl rfl (r2Norm_c na nb wa wb ha hb (by omega) (by omega)) rfl rfl rfl rfl ?_
  refine s_alloc rfl rfl rfl rfl rfl rfl ?_
  refine s_store rfl rfl rfl rfl rfl ?_
  refine s_end (hK _ ?_); clear hK K
  refine AWP_reg_seq tok fun K hK => ?_
  refine s_load rfl rfl rfl ?_
  refine s_call rfl rfl (r2Norm_c nc nd wc wd hc hd (by omega) (by omega)) rfl rfl rfl rfl ?_
  refine s_alloc rfl rfl rfl rfl rfl rfl ?_
  refine s_store rfl rfl rfl rfl rfl ?_
  refine s_end (hK _ ?_); clear hK K
  refine a_draw tok mixed (A := [[], [], [], [], [0, 2], [], [], [], [], [0, 1, 2, 3, 5, 7], [0, 1, 2, 3, 5, 6, 7, 8], [], [], [], [], [0, 1, 2, 3, 4, 5, 6, 7, 8, 9, 11, 13], [0, 1, 2, 3, 4, 5, 6, 7, 8, 9, 11, 12, 13, 14], []]) (an := [{}, {}, {}, {}, {}, { c := [15] }, { c := [15] }, { c := [15] }, { c := [15] }, {}, {}, { c := [15, 20, 21] }, { c := [15, 20, 21] }, { c := [15, 20, 21] }, { c := [15, 20, 21] }, {}, {}, {}]) rfl (by kernel_rfl) rfl fun K hK => ?_
  refine s_fieldAddr rfl rfl rfl ?_
  refine s_load rfl rfl rfl ?_
  refine s_fieldAddr rfl rfl rfl ?_
  refine s_load rfl rfl rfl ?_
  refine s_call rfl rfl (r1MulZ_c (qv na wa nb wb).num (qv nc wc nd wd).den (by omega) (by omega)) rfl rfl rfl rfl ?_
  refine s_fieldAddr rfl rfl rfl ?_
  refine s_load rfl rfl rfl ?_
  refine s_fieldAddr rfl rfl rfl ?_
  refine s_load rfl rfl rfl ?_
  refine s_call rfl rfl (r1MulZ_c (qv nc wc nd wd).num (qv na wa nb wb).den (by omega) (by omega)) rfl rfl rfl rfl ?_
  refine s_call rfl rfl (r1AddZ_c ((qv na wa nb wb).num * (qv nc wc nd wd).den) ((qv nc wc nd wd).num * (qv na wa nb wb).den) (by omega) (by omega)) rfl rfl rfl rfl ?_
  refine s_fieldAddr rfl rfl rfl ?_
  refine s_load rfl rfl rfl ?_
  refine s_fieldAddr rfl rfl rfl ?_
  refine s_load rfl rfl rfl ?_
  refine s_call rfl rfl (r1MulZ_c (qv na wa nb wb).den (qv nc wc nd wd).den (by omega) (by omega)) rfl rfl rfl rfl ?_
  refine s_call rfl rfl (r2NewZ_c ((qv na wa nb wb).num * (qv nc wc nd wd).den + (qv nc wc nd wd).num * (qv na wa nb wb).den) (((qv na wa nb wb).den : Int) * (qv nc wc nd wd).den) _ (by omega) (by omega) (divInt_add (qv na wa nb wb) (qv nc wc nd wd)).symm) rfl rfl rfl rfl ?_
  refine s_store rfl rfl rfl rfl rfl ?_
  refine s_end (hK _ ?_); clear hK K
  refine AWP_ret ?_
  repeat (with_reducible refine tq_ret ?_)
  exact post_ret (fin_mk (by rfl) (by rfl) (by rfl))

theorem r2Mul_c (na nb nc nd : Bool) (wa wb wc wd : List Nat) (ha : wOK wa) (hb : wOK wb) (hc : wOK wc) (hd : wOK wd) (la : wa.length ≤ 16777216) (lb : wb.length ≤ 16777216) (lc : wc.length ≤ 16777216) (ld : wd.length ≤ 16777216) :
    Con Tryz.prog 46 [AG (QC na wa nb wb), AG (QC nc wc nd wd)] { v := AG (QZ (qv na wa nb wb * qv nc wc nd wd)) } := by
  have hx := ql_qv (na := na) (nb := nb) ha hb la lb (by decide)
  have hy := ql_qv (na := nc) (nb := nd) hc hd lc ld (by decide)
  have a1 := ql_num (qv na wa nb wb)
  have a2 := ql_den (qv na wa nb wb)
  have b1 := ql_num (qv nc wc nd wd)
  have b2 := ql_den (qv nc wc nd wd)
  have m1 := zl_mul (qv na wa nb wb).num (qv nc wc nd wd).num
  have m3 := zl_mul (qv na wa nb wb).den (qv nc wc nd wd).den
  refine con_intro (fn := Tryz.f46) tok Tryz.func46 (by kernel_rfl) rfl ?_
  intro w0 X
  rw [entry_mkE _ _ [(0, AG (QC na wa nb wb)), (1, AG (QC nc wc nd wd))] rfl rfl]
  refine AWP_reg_seq tok fun K hK => ?_
  refine s_box rfl rfl rfl rfl rfl rfl ?_
  refine s_box rfl rfl rfl rfl rfl rfl ?_
  refine s_alloc rfl rfl rfl rfl rfl rfl ?_
  refine s_end (hK _ ?_); clear hK K
  refine AWP_reg_seq tok fun K hK => ?_
  refine s_load rfl rfl rfl ?_
  refine s_call rfl rfl (r2Norm_c na nb wa wb ha hb (by omega) (by omega)) rfl rfl rfl rfl ?_
  refine s_alloc rfl rfl rfl rfl rfl rfl ?_
  refine s_store rfl rfl rfl rfl rfl ?_
  refine s_end (hK _ ?_); clear hK K
  refine AWP_reg_seq tok fun K hK => ?_
  refine s_load rfl rfl rfl ?_
  refine s_call rfl rfl (r2Norm_c nc nd wc wd hc hd (by omega) (by omega)) rfl rfl rfl rfl ?_
  refine s_alloc rfl rfl rfl rfl rfl rfl ?_
  refine s_store rfl rfl rfl rfl rfl ?_
  refine s_end (hK _ ?_); clear hK K
  refine a_draw tok mixed (A := [[], [], [], [], [0, 2], [], [], [], [], [0, 1, 2, 3, 5, 7], [0, 1, 2, 3, 5, 6, 7, 8], []]) (an := [{}, {}, {}, {}, {}, { c := [15] }, { c := [15] }, { c := [15] }, { c := [15] }, {}, {}, {}]) rfl (by kernel_rfl) rfl fun K hK => ?_
  refine s_fieldAddr rfl rfl rfl ?_
  refine s_load rfl rfl rfl ?_
  refine s_fieldAddr rfl rfl rfl ?_
  refine s_load rfl rfl rfl ?_
  refine s_call rfl rfl (r1MulZ_c (qv na wa nb wb).num (qv nc wc nd wd).num (by omega) (by omega)) rfl rfl rfl rfl ?_
  refine s_fieldAddr rfl rfl rfl ?_
  refine s_load rfl rfl rfl ?_
  refine s_fieldAddr rfl rfl rfl ?_
  refine s_load rfl rfl rfl ?_
  refine s_call rfl rfl (r1MulZ_c (qv na wa nb wb).den (qv nc wc nd wd).den (by omega) (by omega)) rfl rfl rfl rfl ?_
  refine s_call rfl rfl (r2NewZ_c ((qv na wa nb wb).num * (qv nc wc nd wd).num) (((qv na wa nb wb).den : Int) * (qv nc wc nd wd).den) _ (by omega) (by omega) (divInt_mul (qv na wa nb wb) (qv nc wc nd wd)).symm) rfl rfl rfl rfl ?_
  refine s_store rfl rfl rfl rfl rfl ?_
  refine s_end (hK _ ?_); clear hK K
  refine AWP_ret ?_
  repeat (with_reducible refine tq_ret ?_)
  exact post_ret (fin_mk (by rfl) (by rfl) (by rfl))

theorem r2Mul_q (x y : Rat) (na nb nc nd : Bool) (wa wb wc wd : List Nat) (ha : wOK wa) (hb : wOK wb) (hc : wOK wc) (hd : wOK wd) (la : wa.length ≤ 16777216) (lb : wb.length ≤ 16777216) (lc : wc.length ≤ 16777216) (ld : wd.length ≤ 16777216)
    (hx : qv na wa nb wb = x) (hy : qv nc wc nd wd = y) :
    Con Tryz.prog 46 [AG (QC na wa nb wb), AG (QC nc wc nd wd)] { v := AG (QZ (x * y)) } := by
  subst hx hy
  exact r2Mul_c na nb nc nd wa wb wc wd ha hb hc hd la lb lc ld
theorem r2MulZ_c (x y : Rat) (hx : ql x ≤ 16777216) (hy : ql y ≤ 16777216) : Con Tryz.prog 46 [AG (QZ x), AG (QZ y)] { v := AG (QZ (x * y)) } :=
  r2Mul_q x y _ _ _ _ _ _ _ _ (wof_ok _) (wof_ok _) (wof_ok _) (wof_ok _) (Nat.le_trans (ql_num x) hx) (Nat.le_trans (ql_den x) hx) (Nat.le_trans (ql_num y) hy) (Nat.le_trans (ql_den y) hy) (qv_QZ x) (qv_QZ y)
theorem r2Add_q (x y : Rat) (na nb nc nd : Bool) (wa wb wc wd : List Nat) (ha : wOK wa) (hb : wOK wb) (hc : wOK wc) (hd : wOK wd) (la : wa.length ≤ 16777216) (lb : wb.length ≤ 16777216) (lc : wc.length ≤ 16777216) (ld : wd.length ≤ 16777216)
    (hx : qv na wa nb wb = x) (hy : qv nc wc nd wd = y) :
    Con Tryz.prog 45 [AG (QC na wa nb wb), AG (QC nc wc nd wd)] { v := AG (QZ (x + y)) } := by
  subst hx hy
  exact r2Add_c na nb nc nd wa wb wc wd ha hb hc hd la lb lc ld
theorem r2AddZ_c (x y : Rat) (hx : ql x ≤ 16777216) (hy : ql y ≤ 16777216) : Con Tryz.prog 45 [AG (QZ x), AG (QZ y)] { v := AG (QZ (x + y)) } :=
  r2Add_q x y _ _ _ _ _ _ _ _ (wof_ok _) (wof_ok _) (wof_ok _) (wof_ok _) (Nat.le_trans (ql_num x) hx) (Nat.le_trans (ql_den x) hx) (Nat.le_trans (ql_num y) hy) (Nat.le_trans (ql_den y) hy) (qv_QZ x) (qv_QZ y)
theorem r2SignZ_c (x : Rat) (hx : ql x ≤ 268435456) : Con Tryz.prog 26 [AG (QZ x)] { v := dI x.num.sign } := by
  have := r2Sign_c (decide (x.num < 0)) (decide ((x.den : Int) < 0)) (wof x.num.natAbs) (wof (x.den : Int).natAbs) (wof_ok _) (wof_ok _) (Nat.le_trans (ql_num x) hx) (Nat.le_trans (ql_den x) hx)
  rw [qv_QZ] at this; exact this
end Go.Proofs.YtcafppnjemgkiaaGreat

/- Rotations as the program computes them. No condition. -/
namespace Go.Proofs.YtcafppnjemgkiaaGreat
attribute [local irreducible] lexA

/-- The cells of two integers. -/
def PZ (x y : Int) : List SC := QC (decide (x < 0)) (wof x.natAbs) (decide (y < 0)) (wof y.natAbs)
theorem sign0 {n : Bool} {w : List Nat} {x : Int} (h : zv n w = x) : (((zv n w).sign == 0) = true ↔ x = 0) ∧ (((zv n w).sign == 0) = false ↔ x ≠ 0) := by
  subst h
  have := Int.sign_eq_zero_iff_zero (a := zv n w)
  constructor
  · simp [this]
  · simp [this]

theorem tof0_c (np nq : Bool) (wp wq : List Nat) (hp : wOK wp) (hq : wOK wq) (lp : wp.length ≤ 268435456) (lq : wq.length ≤ 268435456) (h1 : zv np wp = 0) (h2 : zv nq wq = 0) :
    Con Tryz.prog 76 [AG (QC np wp nq wq)] { v := AG (PZ 1 0) } := by
  refine con_intro (fn := Tryz.f76) tok Tryz.func76 (by kernel_rfl) rfl ?_
  intro w0 X
  rw [entry_mkE _ _ [(0, AG (QC np wp nq wq))] rfl rfl]
  refine AWP_reg_seq tok fun K hK => ?_
  refine s_box rfl rfl rfl rfl rfl rfl ?_
  refine s_alloc rfl rfl rfl rfl rfl rfl ?_
  refine s_end (hK _ ?_); clear hK K
  refine AWP_seq ?_
  refine AWP_reg_seq tok fun K hK => ?_
  refine s_fieldAddr rfl rfl rfl ?_
  refine s_load rfl rfl rfl ?_
  refine s_call rfl rfl (iSign_c np wp hp (by omega)) rfl rfl rfl rfl ?_
  refine s_bin rfl rfl rfl ?_
  refine s_move rfl rfl rfl ?_
  rw [h1]
  refine s_env (v' := dB true) rfl ?_
  refine s_fieldAddr rfl rfl rfl ?_
  refine s_load rfl rfl rfl ?_
  refine s_call rfl rfl (iSign_c nq wq hq (by omega)) rfl rfl rfl rfl ?_
  refine s_bin rfl rfl rfl ?_
  rw [h2]
  refine s_pick rfl rfl rfl ?_
  refine s_end (hK _ ?_); clear hK K
  refine a_cond rfl (fun hc => ?_) (fun hc => by cases hc)
  refine AWP_reg_seq tok fun K hK => ?_
  refine s_call rfl rfl (iOf_c 1 (by unfold I64; omega)) rfl rfl rfl rfl ?_
  refine s_build rfl rfl rfl ?_
  refine s_store rfl rfl rfl rfl rfl ?_
  refine s_end (hK _ ?_); clear hK K
  refine AWP_ret ?_
  repeat (with_reducible refine tq_ret ?_)
  exact post_ret (fin_mk (by rfl) (by rfl) (by rfl))

theorem tof1_c (np nq : Bool) (wp wq : List Nat) (hp : wOK wp) (hq : wOK wq) (lp : wp.length ≤ 268435456) (lq : wq.length ≤ 268435456) (h : ¬ (zv np wp = 0 ∧ zv nq wq = 0)) :
    Con Tryz.prog 76 [AG (QC np wp nq wq)] { v := AG (QC nq wq np wp) } := by
  refine con_intro (fn := Tryz.f76) tok Tryz.func76 (by kernel_rfl) rfl ?_
  intro w0 X
  rw [entry_mkE _ _ [(0, AG (QC np wp nq wq))] rfl rfl]
  refine AWP_reg_seq tok fun K hK => ?_
  refine s_box rfl rfl rfl rfl rfl rfl ?_
  refine s_alloc rfl rfl rfl rfl rfl rfl ?_
  refine s_end (hK _ ?_); clear hK K
  refine AWP_seq ?_
  refine a_join (α := Unit) (fun _ => mk 20 [(1, .ptr 1 0), (2, .ptr 2 0), (12, dB false)] [(1, some (.box (QC np wp nq wq))), (2, some (.box [.d (.lit (.bool false)), .nil, .d (.lit (.bool false)), .nil]))] []) (fun _ => True) ?_ ?_
  · refine AWP_reg tok fun K hK => ?_
    refine s_fieldAddr rfl rfl rfl ?_
    refine s_load rfl rfl rfl ?_
    refine s_call rfl rfl (iSign_c np wp hp (by omega)) rfl rfl rfl rfl ?_
    refine s_bin rfl rfl rfl ?_
    refine s_move rfl rfl rfl ?_
    refine s_split (fun hb => ?_) (fun hb => ?_)
    · have hb : zv np wp = 0 := (sign0 rfl).1.1 hb
      have h2 : zv nq wq ≠ 0 := fun h' => h ⟨hb, h'⟩
      refine s_fieldAddr rfl rfl rfl ?_
      refine s_load rfl rfl rfl ?_
      refine s_call rfl rfl (iSign_c nq wq hq (by omega)) rfl rfl rfl rfl ?_
      refine s_bin rfl rfl rfl ?_
      refine s_pick rfl rfl rfl ?_
      refine s_end (hK _ ?_); clear hK K
      refine ⟨(), trivial, Wk.mk' ⟨rfl, rfl, ?_, trivial⟩ ⟨rfl, rfl, trivial⟩⟩
      exact dB_eq ((sign0 rfl).2.2 h2)
    · refine s_skip rfl ?_
      refine s_skip rfl ?_
      refine s_skip rfl ?_
      refine s_skip rfl ?_
      refine s_pick rfl rfl rfl ?_
      refine s_end (hK _ ?_); clear hK K
      exact ⟨(), trivial, Wk.mk' ⟨rfl, rfl, rfl, trivial⟩ ⟨rfl, rfl, trivial⟩⟩
  rintro - -
  refine a_cond rfl (fun hc => by cases hc) (fun hc => ?_)
  refine AWP_skip ?_
  show AWP _ _ _ _ _ _
  refine AWP_reg_seq tok fun K hK => ?_
  refine s_fieldAddr rfl rfl rfl ?_
  refine s_load rfl rfl rfl ?_
  refine s_fieldAddr rfl rfl rfl ?_
  refine s_load rfl rfl rfl ?_
  refine s_build rfl rfl rfl ?_
  refine s_store rfl rfl rfl rfl rfl ?_
  refine s_end (hK _ ?_); clear hK K
  refine AWP_ret ?_
  repeat (with_reducible refine tq_ret ?_)
  exact post_ret (fin_mk (by rfl) (by rfl) (by rfl))

theorem trot_c (nr ni : Bool) (wr wi : List Nat) (hr : wOK wr) (hi : wOK wi) (lr : wr.length ≤ 268435456) (li : wi.length ≤ 268435456) (h : ¬ (zv ni wi = 0 ∧ zv nr wr = 0)) :
    Con Tryz.prog 77 [AG (QC nr wr ni wi)] { v := AG (PZ (rP (zv ni wi) (zv nr wr)) (rQ (zv ni wi) (zv nr wr))) } := by
  have lzr : zl (zv nr wr) ≤ 268435456 := by unfold zl; rw [zv_abs]; exact Nat.le_trans (wl_len hr) lr
  have lzi : zl (zv ni wi) ≤ 268435456 := by unfold zl; rw [zv_abs]; exact Nat.le_trans (wl_len hi) li
  generalize hx : zv nr wr = x at *
  generalize hy : zv ni wi = y at *
  have hg : zl (Int.gcd y x : Int) ≤ 268435456 := by
    by_cases h0 : x = 0
    · have : y ≠ 0 := fun h' => h ⟨h', h0⟩
      rw [Int.gcd_comm]; exact Nat.le_trans (zl_gcd x this) lzi
    · exact Nat.le_trans (zl_gcd y h0) lzr
  have hgc : Int.gcd (zv nr wr) (zv ni wi) = Int.gcd y x := by rw [hx, hy, Int.gcd_comm]
  have hrg : zl (rg y x) ≤ 268435456 := by unfold zl; rw [natAbs_rg]; rw [zl_nat] at hg; exact hg
  have hrn := rg_ne h
  have sx := sign0 hx
  have sxl : (zv nr wr).sign < 0 ↔ x < 0 := by rw [hx]; exact Int.sign_neg_iff
  have syl : (zv ni wi).sign < 0 ↔ y < 0 := by rw [hy]; exact Int.sign_neg_iff
  refine con_intro (fn := Tryz.f77) tok Tryz.func77 (by kernel_rfl) rfl ?_
  intro w0 X
  rw [entry_mkE _ _ [(0, AG (QC nr wr ni wi))] rfl rfl]
  refine AWP_reg_seq tok fun K hK => ?_
  refine s_box rfl rfl rfl rfl rfl rfl ?_
  refine s_alloc rfl rfl rfl rfl rfl rfl ?_
  refine s_end (hK _ ?_); clear hK K
  refine AWP_reg_seq tok fun K hK => ?_
  refine s_fieldAddr rfl rfl rfl ?_
  refine s_load rfl rfl rfl ?_
  refine s_fieldAddr rfl rfl rfl ?_
  refine s_load rfl rfl rfl ?_
  refine s_call rfl rfl (hgc ▸ iGcd_c nr ni wr wi hr hi lr li) rfl rfl rfl rfl ?_
  refine s_alloc rfl rfl rfl rfl rfl rfl ?_
  refine s_store rfl rfl rfl rfl rfl ?_
  refine s_end (hK _ ?_); clear hK K
  refine a_join (α := Unit) (fun _ => mk 52 [(1, .ptr 1 0), (2, .ptr 2 0), (3, .ptr 3 0)] [(1, some (.box (QC nr wr ni wi))), (2, some (.box [.d (.lit (.bool false)), .nil, .d (.lit (.bool false)), .nil])), (3, some (.box (ZC (rg y x))))] []) (fun _ => True) ?_ ?_
  · refine AWP_reg_seq tok fun K hK => ?_
    refine s_fieldAddr rfl rfl rfl ?_
    refine s_load rfl rfl rfl ?_
    refine s_call rfl rfl (iSign_c nr wr hr (by omega)) rfl rfl rfl rfl ?_
    refine s_assign rfl rfl rfl ?_
    refine s_end (hK _ ?_); clear hK K
    refine a_join (α := Bool) (fun c => mk 52 [(1, .ptr 1 0), (2, .ptr 2 0), (3, .ptr 3 0), (30, dB c)] [(1, some (.box (QC nr wr ni wi))), (2, some (.box [.d (.lit (.bool false)), .nil, .d (.lit (.bool false)), .nil])), (3, some (.box (ZC (Int.gcd y x : Int))))] []) (fun c => c = rneg y x) ?_ ?_
    · refine AWP_regW fun K hK => ?_
      refine w_step tok rfl ?_
      refine s_move rfl rfl rfl ?_
      refine s_end ?_
      refine w_step tok rfl ?_
      refine s_bin rfl rfl rfl ?_
      refine s_end ?_
      refine w_step tok rfl ?_
      refine s_move rfl rfl rfl ?_
      refine s_end ?_
      refine w_split (fun hb => ?_) (fun hb => ?_)
      · have hb : x < 0 := sxl.1 (of_decide_eq_true hb)
        refine w_skip rfl rfl ?_
        refine w_skip rfl rfl ?_
        refine w_skip rfl rfl ?_
        refine w_skip2 rfl rfl rfl ?_
        refine w_skip2 rfl rfl rfl ?_
        refine w_skip2 rfl rfl rfl ?_
        refine w_skip2 rfl rfl rfl ?_
        refine w_skip rfl rfl ?_
        refine w_step tok rfl ?_
        refine s_pick rfl rfl rfl ?_
        refine s_end ?_
        refine w_end rfl (hK _ ?_); clear hK K
        exact ⟨true, by unfold rneg; simp [hb], Wk.mk' ⟨rfl, rfl, rfl, rfl, trivial⟩ ⟨rfl, rfl, rfl, trivial⟩⟩
      have hb : ¬ x < 0 := fun h' => of_decide_eq_false hb (sxl.2 h')
      refine w_step tok rfl ?_
      refine s_move rfl rfl rfl ?_
      refine s_end ?_
      refine w_step tok rfl ?_
      refine s_bin rfl rfl rfl ?_
      refine s_end ?_
      refine w_step tok rfl ?_
      refine s_move rfl rfl rfl ?_
      refine s_end ?_
      refine w_split (fun he => ?_) (fun he => ?_)
      · have he : x = 0 := sx.1.1 he
        refine w_step tok rfl ?_
        refine s_fieldAddr rfl rfl rfl ?_
        refine s_end ?_
        refine w_step tok rfl ?_
        refine s_load rfl rfl rfl ?_
        refine s_end ?_
        refine w_step tok rfl ?_
        refine s_call rfl rfl (iSign_c ni wi hi (by omega)) rfl rfl rfl rfl ?_
        refine s_end ?_
        refine w_step tok rfl ?_
        refine s_bin rfl rfl rfl ?_
        refine s_end ?_
        refine w_step tok rfl ?_
        refine s_pick rfl rfl rfl ?_
        refine s_end ?_
        refine w_step tok rfl ?_
        refine s_pick rfl rfl rfl ?_
        refine s_end ?_
        refine w_end rfl (hK _ ?_); clear hK K
        refine ⟨_, ?_, Wk.mk' ⟨rfl, rfl, rfl, rfl, trivial⟩ ⟨rfl, rfl, rfl, trivial⟩⟩
        unfold rneg
        rw [decide_eq_false hb, decide_eq_true he, Bool.false_or, Bool.true_and]
        exact decide_eq_decide.2 syl
      · have he : x ≠ 0 := sx.2.1 he
        refine w_skip rfl rfl ?_
        refine w_skip rfl rfl ?_
        refine w_skip rfl rfl ?_
        refine w_skip rfl rfl ?_
        refine w_step tok rfl ?_
        refine s_pick rfl rfl rfl ?_
        refine s_end ?_
        refine w_step tok rfl ?_
        refine s_pick rfl rfl rfl ?_
        refine s_end ?_
        refine w_end rfl (hK _ ?_); clear hK K
        exact ⟨false, by unfold rneg; simp [hb, he], Wk.mk' ⟨rfl, rfl, rfl, rfl, trivial⟩ ⟨rfl, rfl, rfl, trivial⟩⟩
    rintro c hcr
    refine a_cond rfl (fun hc => ?_) (fun hc => ?_)
    · rw [hcr] at hc
      refine AWP_reg tok fun K hK => ?_
      refine s_load rfl rfl rfl ?_
      refine s_call rfl rfl (iNegZ_c (Int.gcd y x : Int) hg) rfl rfl rfl rfl ?_
      refine s_store rfl rfl rfl rfl rfl ?_
      refine s_end (hK _ ?_); clear hK K
      exact ⟨(), trivial, Wk.mk' ⟨rfl, rfl, rfl, trivial⟩ ⟨rfl, rfl, by unfold rg; rw [if_pos hc]; rfl, trivial⟩⟩
    · rw [hcr] at hc
      refine AWP_skip ?_
      exact ⟨(), trivial, Wk.mk' ⟨rfl, rfl, rfl, trivial⟩ ⟨rfl, rfl, by unfold rg; rw [if_neg (by simp [hc])]; rfl, trivial⟩⟩
  rintro - -
  have e1 : rQ y x = x / rg y x := by unfold rQ; rw [if_neg h]
  have e2 : rP y x = y / rg y x := by unfold rP; rw [if_neg h]
  refine AWP_reg_seq tok fun K hK => ?_
  refine s_fieldAddr rfl rfl rfl ?_
  refine s_load rfl rfl rfl ?_
  refine s_load rfl rfl rfl ?_
  refine s_call rfl rfl (iDivMod_q nr (decide (rg y x < 0)) wr (wof (rg y x).natAbs) x (rg y x) (rQ y x) hr (wof_ok _) lr hrg hx (zv_ZC _) hrn e1.symm) rfl rfl rfl rfl ?_
  refine s_move rfl rfl rfl ?_
  refine s_extract rfl rfl rfl ?_
  refine s_extract rfl rfl rfl ?_
  refine s_extract rfl rfl rfl ?_
  refine s_alloc rfl rfl rfl rfl rfl rfl ?_
  refine s_alloc rfl rfl rfl rfl rfl rfl ?_
  refine s_store rfl rfl rfl rfl rfl ?_
  refine s_store rfl rfl rfl rfl rfl ?_
  refine s_assign rfl rfl rfl ?_
  refine s_end (hK _ ?_); clear hK K
  refine AWP_reg_seq tok fun K hK => ?_
  refine s_fieldAddr rfl rfl rfl ?_
  refine s_load rfl rfl rfl ?_
  refine s_load rfl rfl rfl ?_
  refine s_call rfl rfl (iDivMod_q ni (decide (rg y x < 0)) wi (wof (rg y x).natAbs) y (rg y x) (rP y x) hi (wof_ok _) li hrg hy (zv_ZC _) hrn e2.symm) rfl rfl rfl rfl ?_
  refine s_move rfl rfl rfl ?_
  refine s_extract rfl rfl rfl ?_
  refine s_extract rfl rfl rfl ?_
  refine s_extract rfl rfl rfl ?_
  refine s_alloc rfl rfl rfl rfl rfl rfl ?_
  refine s_alloc rfl rfl rfl rfl rfl rfl ?_
  refine s_store rfl rfl rfl rfl rfl ?_
  refine s_store rfl rfl rfl rfl rfl ?_
  refine s_assign rfl rfl rfl ?_
  refine s_end (hK _ ?_); clear hK K
  refine AWP_reg_seq tok fun K hK => ?_
  refine s_load rfl rfl rfl ?_
  refine s_load rfl rfl rfl ?_
  refine s_build rfl rfl rfl ?_
  refine s_store rfl rfl rfl rfl rfl ?_
  refine s_end (hK _ ?_); clear hK K
  refine AWP_ret ?_
  repeat (with_reducible refine tq_ret ?_)
  exact post_ret (fin_mk (by rfl) (by rfl) (by rfl))

theorem trotZ_c (x y : Int) (hx : zl x ≤ 268435456) (hy : zl y ≤ 268435456) (h : ¬ (y = 0 ∧ x = 0)) :
    Con Tryz.prog 77 [AG (PZ x y)] { v := AG (PZ (rP y x) (rQ y x)) } := by
  have := trot_c (decide (x < 0)) (decide (y < 0)) (wof x.natAbs) (wof y.natAbs) (wof_ok _) (wof_ok _) hx hy (by rw [zv_ZC, zv_ZC]; exact h)
  rw [zv_ZC, zv_ZC] at this; exact this

theorem tNorm_c (np nq : Bool) (wp wq : List Nat) (hp : wOK wp) (hq : wOK wq) (lp : wp.length ≤ 268435456) (lq : wq.length ≤ 268435456) :
    Con Tryz.prog 56 [AG (QC np wp nq wq)] { v := AG (PZ (rP (zv np wp) (zv nq wq)) (rQ (zv np wp) (zv nq wq))) } := by
  by_cases h : zv np wp = 0 ∧ zv nq wq = 0
  · have e : PZ (rP (zv np wp) (zv nq wq)) (rQ (zv np wp) (zv nq wq)) = PZ (rP 0 1) (rQ 0 1) := by rw [h.1, h.2]; rfl
    rw [e]
    refine con_intro (fn := Tryz.f56) tok Tryz.func56 (by kernel_rfl) rfl ?_
    intro w0 X
    rw [entry_mkE _ _ [(0, AG (QC np wp nq wq))] rfl rfl]
    refine AWP_reg_seq tok fun K hK => ?_
    refine s_box rfl rfl rfl rfl rfl rfl ?_
    refine s_alloc rfl rfl rfl rfl rfl rfl ?_
    refine s_end (hK _ ?_); clear hK K
    refine AWP_reg_seq tok fun K hK => ?_
    refine s_load rfl rfl rfl ?_
    refine s_call rfl rfl (tof0_c np nq wp wq hp hq lp lq h.1 h.2) rfl rfl rfl rfl ?_
    refine s_call rfl rfl (trotZ_c 1 0 (by decide) (by decide) (by decide)) rfl rfl rfl rfl ?_
    refine s_store rfl rfl rfl rfl rfl ?_
    refine s_end (hK _ ?_); clear hK K
    refine AWP_ret ?_
    repeat (with_reducible refine tq_ret ?_)
    exact post_ret (fin_mk (by rfl) (by rfl) (by rfl))
  · show Con _ _ _ _
    refine con_intro (fn := Tryz.f56) tok Tryz.func56 (by kernel_rfl) rfl ?_
    intro w0 X
    rw [entry_mkE _ _ [(0, AG (QC np wp nq wq))] rfl rfl]
    refine AWP_reg_seq tok fun K hK => ?_
    refine s_box rfl rfl rfl rfl rfl rfl ?_
    refine s_alloc rfl rfl rfl rfl rfl rfl ?_
    refine s_end (hK _ ?_); clear hK K
    refine AWP_reg_seq tok fun K hK => ?_
    refine s_load rfl rfl rfl ?_
    refine s_call rfl rfl (tof1_c np nq wp wq hp hq lp lq h) rfl rfl rfl rfl ?_
    refine s_call rfl rfl (trot_c nq np wq wp hq hp lq lp h) rfl rfl rfl rfl ?_
    refine s_store rfl rfl rfl rfl rfl ?_
    refine s_end (hK _ ?_); clear hK K
    refine AWP_ret ?_
    repeat (with_reducible refine tq_ret ?_)
    exact post_ret (fin_mk (by rfl) (by rfl) (by rfl))

theorem tofZ_c (x y : Int) (hx : zl x ≤ 268435456) (hy : zl y ≤ 268435456) (h : ¬ (x = 0 ∧ y = 0)) : Con Tryz.prog 76 [AG (PZ x y)] { v := AG (PZ y x) } :=
  tof1_c (decide (x < 0)) (decide (y < 0)) (wof x.natAbs) (wof y.natAbs) (wof_ok _) (wof_ok _) hx hy (by rw [zv_ZC, zv_ZC]; exact h)

theorem ttimes_c (a b c d : Int) (ha : zl a ≤ 134217728) (hb : zl b ≤ 134217728) (hc : zl c ≤ 134217728) (hd : zl d ≤ 134217728) :
    Con Tryz.prog 78 [AG (PZ a b), AG (PZ c d)] { v := AG (PZ (a * c - b * d) (a * d + b * c)) } := by
  have m1 := zl_mul a c
  have m2 := zl_mul b d
  have m3 := zl_mul a d
  have m4 := zl_mul b c
  refine con_intro (fn := Tryz.f78) tok Tryz.func78 (by kernel_rfl) rfl ?_
  intro w0 X
  rw [entry_mkE _ _ [(0, AG (PZ a b)), (1, AG (PZ c d))] rfl rfl]
  refine AWP_reg_seq tok fun K hK => ?_
  refine s_box rfl rfl rfl rfl rfl rfl ?_
  refine s_box rfl rfl rfl rfl rfl rfl ?_
  refine s_alloc rfl rfl rfl rfl rfl rfl ?_
  refine s_end (hK _ ?_); clear hK K
  refine a_draw tok mixed (A := [[], [], [], [], [0, 2], [], [], [], [], [0, 1, 2, 3, 5, 7], [0, 1, 2, 3, 5, 6, 7, 8], [], [], [], [], [0, 1, 2, 3, 4, 5, 6, 7, 8, 9, 11, 13], [], [], [], [], [0, 1, 2, 3, 4, 5, 6, 7, 8, 9, 10, 11, 12, 13, 14, 16, 18], [0, 1, 2, 3, 4, 5, 6, 7, 8, 9, 10, 11, 12, 13, 14, 16, 17, 18, 19], [0, 1, 2, 3, 4, 5, 6, 7, 8, 9, 11, 12, 13, 14, 15, 16, 17, 18, 19, 20], []]) (an := [{}, {}, {}, {}, {}, { c := [9] }, { c := [9] }, { c := [9] }, { c := [9] }, {}, {}, { c := [9, 14, 15] }, { c := [9, 14, 15] }, { c := [9, 14, 15] }, { c := [9, 14, 15] }, {}, { c := [9, 14, 15, 20] }, { c := [9, 14, 15, 20] }, { c := [9, 14, 15, 20] }, { c := [9, 14, 15, 20] }, {}, {}, {}, {}]) rfl (by kernel_rfl) rfl fun K hK => ?_
  refine s_fieldAddr rfl rfl rfl ?_
  refine s_load rfl rfl rfl ?_
  refine s_fieldAddr rfl rfl rfl ?_
  refine s_load rfl rfl rfl ?_
  refine s_call rfl rfl (iMulZ_c a c (by omega) (by omega)) rfl rfl rfl rfl ?_
  refine s_fieldAddr rfl rfl rfl ?_
  refine s_load rfl rfl rfl ?_
  refine s_fieldAddr rfl rfl rfl ?_
  refine s_load rfl rfl rfl ?_
  refine s_call rfl rfl (iMulZ_c b d (by omega) (by omega)) rfl rfl rfl rfl ?_
  refine s_call rfl rfl (iSubZ_c (a * c) (b * d) (by omega) (by omega)) rfl rfl rfl rfl ?_
  refine s_fieldAddr rfl rfl rfl ?_
  refine s_load rfl rfl rfl ?_
  refine s_fieldAddr rfl rfl rfl ?_
  refine s_load rfl rfl rfl ?_
  refine s_call rfl rfl (iMulZ_c a d (by omega) (by omega)) rfl rfl rfl rfl ?_
  refine s_fieldAddr rfl rfl rfl ?_
  refine s_load rfl rfl rfl ?_
  refine s_fieldAddr rfl rfl rfl ?_
  refine s_load rfl rfl rfl ?_
  refine s_call rfl rfl (iMulZ_c b c (by omega) (by omega)) rfl rfl rfl rfl ?_
  refine s_call rfl rfl (iAddZ_c (a * d) (b * c) (by omega) (by omega)) rfl rfl rfl rfl ?_
  refine s_build rfl rfl rfl ?_
  refine s_store rfl rfl rfl rfl rfl ?_
  refine s_end (hK _ ?_); clear hK K
  refine AWP_ret ?_
  repeat (with_reducible refine tq_ret ?_)
  exact post_ret (fin_mk (by rfl) (by rfl) (by rfl))

theorem tsquare_c (a b : Int) (ha : zl a ≤ 134217728) (hb : zl b ≤ 134217728) :
    Con Tryz.prog 102 [AG (PZ a b)] { v := AG (ZC (a * a + b * b)) } := by
  have m1 := zl_mul a a
  have m2 := zl_mul b b
  refine con_intro (fn := Tryz.f102) tok Tryz.func102 (by kernel_rfl) rfl ?_
  intro w0 X
  rw [entry_mkE _ _ [(0, AG (PZ a b))] rfl rfl]
  refine AWP_reg_seq tok fun K hK => ?_
  refine s_box rfl rfl rfl rfl rfl rfl ?_
  refine s_alloc rfl rfl rfl rfl rfl rfl ?_
  refine s_end (hK _ ?_); clear hK K
  refine a_draw tok mixed (A := [[], [], [], [], [0, 2], [], [], [], [], [0, 1, 2, 3, 5, 7], [0, 1, 2, 3, 5, 6, 7, 8], []]) (an := [{}, {}, {}, {}, {}, { c := [7] }, { c := [7] }, { c := [7] }, { c := [7] }, {}, {}, {}]) rfl (by kernel_rfl) rfl fun K hK => ?_
  refine s_fieldAddr rfl rfl rfl ?_
  refine s_load rfl rfl rfl ?_
  refine s_fieldAddr rfl rfl rfl ?_
  refine s_load rfl rfl rfl ?_
  refine s_call rfl rfl (iMulZ_c a a (by omega) (by omega)) rfl rfl rfl rfl ?_
  refine s_fieldAddr rfl rfl rfl ?_
  refine s_load rfl rfl rfl ?_
  refine s_fieldAddr rfl rfl rfl ?_
  refine s_load rfl rfl rfl ?_
  refine s_call rfl rfl (iMulZ_c b b (by omega) (by omega)) rfl rfl rfl rfl ?_
  refine s_call rfl rfl (iAddZ_c (a * a) (b * b) (by omega) (by omega)) rfl rfl rfl rfl ?_
  refine s_store rfl rfl rfl rfl rfl ?_
  refine s_end (hK _ ?_); clear hK K
  refine AWP_ret ?_
  repeat (with_reducible refine tq_ret ?_)
  exact post_ret (fin_mk (by rfl) (by rfl) (by rfl))

theorem zl_zv {n : Bool} {w : List Nat} {k : Nat} (h : wOK w) (l : w.length ≤ k) : zl (zv n w) ≤ k := by
  unfold zl; rw [zv_abs]; exact Nat.le_trans (wl_len h) l

theorem tNorm_q (np nq : Bool) (wp wq : List Nat) (a b : Int) (hp : wOK wp) (hq : wOK wq) (lp : wp.length ≤ 268435456) (lq : wq.length ≤ 268435456) (ha : rP (zv np wp) (zv nq wq) = a) (hb : rQ (zv np wp) (zv nq wq) = b) :
    Con Tryz.prog 56 [AG (QC np wp nq wq)] { v := AG (PZ a b) } := by
  subst ha hb
  exact tNorm_c np nq wp wq hp hq lp lq

theorem tThen_c (np nq nr ns : Bool) (wp wq wr ws : List Nat) (hp : wOK wp) (hq : wOK wq) (hr : wOK wr) (hs : wOK ws) (lp : wp.length ≤ 67108864) (lq : wq.length ≤ 67108864) (lr : wr.length ≤ 67108864) (ls : ws.length ≤ 67108864) :
    Con Tryz.prog 57 [AG (QC np wp nq wq), AG (QC nr wr ns ws)] { v := AG (PZ (thP (zv np wp) (zv nq wq) (zv nr wr) (zv ns ws)) (thQ (zv np wp) (zv nq wq) (zv nr wr) (zv ns ws))) } := by
  have r1 : zl (rP (zv np wp) (zv nq wq)) ≤ 67108864 := zl_rP_le rfl (zl_zv hp lp)
  have r2 : zl (rQ (zv np wp) (zv nq wq)) ≤ 67108864 := zl_rQ_le rfl (zl_zv hq lq)
  have r3 : zl (rP (zv nr wr) (zv ns ws)) ≤ 67108864 := zl_rP_le rfl (zl_zv hr lr)
  have r4 : zl (rQ (zv nr wr) (zv ns ws)) ≤ 67108864 := zl_rQ_le rfl (zl_zv hs ls)
  have n1 := rPQ_ne (zv np wp) (zv nq wq)
  have n2 := rPQ_ne (zv nr wr) (zv ns ws)
  have n3 := rmul_ne n1 n2
  unfold thP thQ
  generalize hA : rP (zv np wp) (zv nq wq) = a at *
  generalize hB : rQ (zv np wp) (zv nq wq) = b at *
  generalize hC : rP (zv nr wr) (zv ns ws) = c at *
  generalize hD : rQ (zv nr wr) (zv ns ws) = d at *
  have m5 : zl (b * d - a * c) ≤ 268435456 := le_d (zl_sub_le (zl_mul_le r2 r4) (zl_mul_le r1 r3)) rfl
  have m6 : zl (b * c + a * d) ≤ 268435456 := le_d (zl_add_le (zl_mul_le r2 r3) (zl_mul_le r1 r4)) rfl
  refine con_intro (fn := Tryz.f57) tok Tryz.func57 (by kernel_rfl) rfl ?_
  intro w0 X
  rw [entry_mkE _ _ [(0, AG (QC np wp nq wq)), (1, AG (QC nr wr ns ws))] rfl rfl]
  refine AWP_reg_seq tok fun K hK => ?_
  refine s_box rfl rfl rfl rfl rfl rfl ?_
  refine s_box rfl rfl rfl rfl rfl rfl ?_
  refine s_alloc rfl rfl rfl rfl rfl rfl ?_
  refine s_end (hK _ ?_); clear hK K
  refine a_draw tok mixed (A := [[], [], [0], [], [0, 1], [0, 1, 2, 3], [0, 1, 3, 4], [0, 1, 2, 3, 4, 5], []]) (an := [{}, {}, {}, { c := [6, 7] }, {}, {}, {}, {}, {}]) rfl (by kernel_rfl) rfl fun K hK => ?_
  refine s_load rfl rfl rfl ?_
  refine s_call rfl rfl (tNorm_q np nq wp wq a b hp hq (le_d lp rfl) (le_d lq rfl) hA hB) rfl rfl rfl rfl ?_
  refine s_call rfl rfl (tofZ_c a b (le_d r1 rfl) (le_d r2 rfl) n1) rfl rfl rfl rfl ?_
  refine s_load rfl rfl rfl ?_
  refine s_call rfl rfl (tNorm_q nr ns wr ws c d hr hs (le_d lr rfl) (le_d ls rfl) hC hD) rfl rfl rfl rfl ?_
  refine s_call rfl rfl (tofZ_c c d (le_d r3 rfl) (le_d r4 rfl) n2) rfl rfl rfl rfl ?_
  refine s_call rfl rfl (ttimes_c b a d c (le_d r2 rfl) (le_d r1 rfl) (le_d r4 rfl) (le_d r3 rfl)) rfl rfl rfl rfl ?_
  refine s_call rfl rfl (trotZ_c (b * d - a * c) (b * c + a * d) m5 m6 n3) rfl rfl rfl rfl ?_
  refine s_store rfl rfl rfl rfl rfl ?_
  refine s_end (hK _ ?_); clear hK K
  refine AWP_ret ?_
  repeat (with_reducible refine tq_ret ?_)
  exact post_ret (fin_mk (by rfl) (by rfl) (by rfl))

theorem tCos_c (np nq : Bool) (wp wq : List Nat) (hp : wOK wp) (hq : wOK wq) (lp : wp.length ≤ 67108864) (lq : wq.length ≤ 67108864) :
    Con Tryz.prog 79 [AG (QC np wp nq wq)] { v := AG (QZ (cosR (zv np wp) (zv nq wq))) } := by
  have r1 : zl (rP (zv np wp) (zv nq wq)) ≤ 67108864 := zl_rP_le rfl (zl_zv hp lp)
  have r2 : zl (rQ (zv np wp) (zv nq wq)) ≤ 67108864 := zl_rQ_le rfl (zl_zv hq lq)
  have n1 := rPQ_ne (zv np wp) (zv nq wq)
  unfold cosR
  generalize hA : rP (zv np wp) (zv nq wq) = a at *
  generalize hB : rQ (zv np wp) (zv nq wq) = b at *
  have m5 : zl (b * b - a * a) ≤ 268435456 := le_d (zl_sub_le (zl_mul_le r2 r2) (zl_mul_le r1 r1)) rfl
  have m6 : zl (b * b + a * a) ≤ 268435456 := le_d (zl_add_le (zl_mul_le r2 r2) (zl_mul_le r1 r1)) rfl
  refine con_intro (fn := Tryz.f79) tok Tryz.func79 (by kernel_rfl) rfl ?_
  intro w0 X
  rw [entry_mkE _ _ [(0, AG (QC np wp nq wq))] rfl rfl]
  refine AWP_reg_seq tok fun K hK => ?_
  refine s_box rfl rfl rfl rfl rfl rfl ?_
  refine s_alloc rfl rfl rfl rfl rfl rfl ?_
  refine s_end (hK _ ?_); clear hK K
  refine AWP_reg_seq tok fun K hK => ?_
  refine s_load rfl rfl rfl ?_
  refine s_call rfl rfl (tNorm_q np nq wp wq a b hp hq (le_d lp rfl) (le_d lq rfl) hA hB) rfl rfl rfl rfl ?_
  refine s_call rfl rfl (tofZ_c a b (le_d r1 rfl) (le_d r2 rfl) n1) rfl rfl rfl rfl ?_
  refine s_alloc rfl rfl rfl rfl rfl rfl ?_
  refine s_store rfl rfl rfl rfl rfl ?_
  refine s_end (hK _ ?_); clear hK K
  refine a_draw tok mixed (A := [[], [], [], [0, 1], [], [0, 1], [0, 1, 2, 4], []]) (an := [{}, {}, {}, {}, { c := [9] }, {}, {}, {}]) rfl (by kernel_rfl) rfl fun K hK => ?_
  refine s_load rfl rfl rfl ?_
  refine s_load rfl rfl rfl ?_
  refine s_call rfl rfl (ttimes_c b a b a (le_d r2 rfl) (le_d r1 rfl) (le_d r2 rfl) (le_d r1 rfl)) rfl rfl rfl rfl ?_
  refine s_field rfl rfl rfl ?_
  refine s_load rfl rfl rfl ?_
  refine s_call rfl rfl (tsquare_c b a (le_d r2 rfl) (le_d r1 rfl)) rfl rfl rfl rfl ?_
  refine s_call rfl rfl (qNewZ_c (b * b - a * a) (b * b + a * a) _ m5 m6 rfl) rfl rfl rfl rfl ?_
  refine s_store rfl rfl rfl rfl rfl ?_
  refine s_end (hK _ ?_); clear hK K
  refine AWP_ret ?_
  repeat (with_reducible refine tq_ret ?_)
  exact post_ret (fin_mk (by rfl) (by rfl) (by rfl))

theorem tSin_c (np nq : Bool) (wp wq : List Nat) (hp : wOK wp) (hq : wOK wq) (lp : wp.length ≤ 67108864) (lq : wq.length ≤ 67108864) :
    Con Tryz.prog 80 [AG (QC np wp nq wq)] { v := AG (QZ (sinR (zv np wp) (zv nq wq))) } := by
  have r1 : zl (rP (zv np wp) (zv nq wq)) ≤ 67108864 := zl_rP_le rfl (zl_zv hp lp)
  have r2 : zl (rQ (zv np wp) (zv nq wq)) ≤ 67108864 := zl_rQ_le rfl (zl_zv hq lq)
  have n1 := rPQ_ne (zv np wp) (zv nq wq)
  unfold sinR
  generalize hA : rP (zv np wp) (zv nq wq) = a at *
  generalize hB : rQ (zv np wp) (zv nq wq) = b at *
  have m5 : zl (b * a + a * b) ≤ 268435456 := le_d (zl_add_le (zl_mul_le r2 r1) (zl_mul_le r1 r2)) rfl
  have m6 : zl (b * b + a * a) ≤ 268435456 := le_d (zl_add_le (zl_mul_le r2 r2) (zl_mul_le r1 r1)) rfl
  refine con_intro (fn := Tryz.f80) tok Tryz.func80 (by kernel_rfl) rfl ?_
  intro w0 X
  rw [entry_mkE _ _ [(0, AG (QC np wp nq wq))] rfl rfl]
  refine AWP_reg_seq tok fun K hK => ?_
  refine s_box rfl rfl rfl rfl rfl rfl ?_
  refine s_alloc rfl rfl rfl rfl rfl rfl ?_
  refine s_end (hK _ ?_); clear hK K
  refine AWP_reg_seq tok fun K hK => ?_
  refine s_load rfl rfl rfl ?_
  refine s_call rfl rfl (tNorm_q np nq wp wq a b hp hq (le_d lp rfl) (le_d lq rfl) hA hB) rfl rfl rfl rfl ?_
  refine s_call rfl rfl (tofZ_c a b (le_d r1 rfl) (le_d r2 rfl) n1) rfl rfl rfl rfl ?_
  refine s_alloc rfl rfl rfl rfl rfl rfl ?_
  refine s_store rfl rfl rfl rfl rfl ?_
  refine s_end (hK _ ?_); clear hK K
  refine a_draw tok mixed (A := [[], [], [], [0, 1], [], [0, 1], [0, 1, 2, 4], []]) (an := [{}, {}, {}, {}, { c := [9] }, {}, {}, {}]) rfl (by kernel_rfl) rfl fun K hK => ?_
  refine s_load rfl rfl rfl ?_
  refine s_load rfl rfl rfl ?_
  refine s_call rfl rfl (ttimes_c b a b a (le_d r2 rfl) (le_d r1 rfl) (le_d r2 rfl) (le_d r1 rfl)) rfl rfl rfl rfl ?_
  refine s_field rfl rfl rfl ?_
  refine s_load rfl rfl rfl ?_
  refine s_call rfl rfl (tsquare_c b a (le_d r2 rfl) (le_d r1 rfl)) rfl rfl rfl rfl ?_
  refine s_call rfl rfl (qNewZ_c (b * a + a * b) (b * b + a * a) _ m5 m6 rfl) rfl rfl rfl rfl ?_
  refine s_store rfl rfl rfl rfl rfl ?_
  refine s_end (hK _ ?_); clear hK K
  refine AWP_ret ?_
  repeat (with_reducible refine tq_ret ?_)
  exact post_ret (fin_mk (by rfl) (by rfl) (by rfl))

theorem tTurn_c (np nq na nb nc nd : Bool) (wp wq wa wb wc wd : List Nat) (hp : wOK wp) (hq : wOK wq) (ha : wOK wa) (hb : wOK wb) (hc : wOK wc) (hd : wOK wd)
    (lp : wp.length ≤ 1048576) (lq : wq.length ≤ 1048576) (la : wa.length ≤ 1048576) (lb : wb.length ≤ 1048576) (lc : wc.length ≤ 1048576) (ld : wd.length ≤ 1048576) :
    Con Tryz.prog 58 [AG (QC np wp nq wq), AG (QC na wa nb wb), AG (QC nc wc nd wd)]
      { v := .tup [.agg (QZ (cosR (zv np wp) (zv nq wq) * qv na wa nb wb - sinR (zv np wp) (zv nq wq) * qv nc wc nd wd)), .agg (QZ (sinR (zv np wp) (zv nq wq) * qv na wa nb wb + cosR (zv np wp) (zv nq wq) * qv nc wc nd wd))] } := by
  have c1 : ql (cosR (zv np wp) (zv nq wq)) ≤ 2097153 := ql_cos (zv np wp) (zv nq wq) (zl_zv hp lp) (zl_zv hq lq) (by decide)
  have s1 : ql (sinR (zv np wp) (zv nq wq)) ≤ 2097153 := ql_sin (zv np wp) (zv nq wq) (zl_zv hp lp) (zl_zv hq lq) (by decide)
  have x1 := ql_qv (na := na) (nb := nb) ha hb la lb (by decide)
  have y1 := ql_qv (na := nc) (nb := nd) hc hd lc ld (by decide)
  generalize hC : cosR (zv np wp) (zv nq wq) = C at *
  generalize hS : sinR (zv np wp) (zv nq wq) = S at *
  generalize hx : qv na wa nb wb = x at *
  generalize hy : qv nc wc nd wd = y at *
  refine con_intro (fn := Tryz.f58) tok Tryz.func58 (by kernel_rfl) rfl ?_
  intro w0 X
  rw [entry_mkE _ _ [(0, AG (QC np wp nq wq)), (1, AG (QC na wa nb wb)), (2, AG (QC nc wc nd wd))] rfl rfl]
  refine AWP_reg_seq tok fun K hK => ?_
  refine s_box rfl rfl rfl rfl rfl rfl ?_
  refine s_box rfl rfl rfl rfl rfl rfl ?_
  refine s_box rfl rfl rfl rfl rfl rfl ?_
  refine s_alloc rfl rfl rfl rfl rfl rfl ?_
  refine s_alloc rfl rfl rfl rfl rfl rfl ?_
  refine s_end (hK _ ?_); clear hK K
  refine a_draw tok mixed (A := [[], [], [], [0], [], [], [2], []]) (an := [{}, {}, { c := [11] }, {}, { c := [11, 13] }, { c := [11, 13, 8] }, {}, {}]) rfl (by kernel_rfl) rfl fun K hK => ?_
  refine s_load rfl rfl rfl ?_
  refine s_call rfl rfl (hC ▸ tCos_c np nq wp wq hp hq (le_d lp rfl) (le_d lq rfl)) rfl rfl rfl rfl ?_
  refine s_load rfl rfl rfl ?_
  refine s_call rfl rfl (hS ▸ tSin_c np nq wp wq hp hq (le_d lp rfl) (le_d lq rfl)) rfl rfl rfl rfl ?_
  refine s_alloc rfl rfl rfl rfl rfl rfl ?_
  refine s_alloc rfl rfl rfl rfl rfl rfl ?_
  refine s_store rfl rfl rfl rfl rfl ?_
  refine s_store rfl rfl rfl rfl rfl ?_
  refine s_end (hK _ ?_); clear hK K
  refine a_draw tok mixed (A := [[], [], [], [], [], [0, 1], [0, 1, 3, 4], [], [], [0, 1, 2, 3, 4, 5], [], [], [0, 1, 2, 3, 4, 5, 6, 7, 8], [0, 1, 2, 3, 4, 5, 6, 7, 8, 10, 11], [7, 8, 9, 10, 11, 12], []]) (an := [{}, {}, {}, { c := [16] }, { c := [16] }, {}, {}, { c := [16, 19, 20] }, { c := [16, 19, 20] }, {}, { c := [16, 19, 20, 23] }, { c := [16, 19, 20, 23] }, {}, {}, {}, {}]) rfl (by kernel_rfl) rfl fun K hK => ?_
  refine s_load rfl rfl rfl ?_
  refine s_load rfl rfl rfl ?_
  refine s_call rfl rfl (qMul_q C x _ _ _ _ _ _ _ _ (wof_ok _) (wof_ok _) ha hb (le_d (ql_num_le c1) rfl) (le_d (ql_den_le c1) rfl) (le_d la rfl) (le_d lb rfl) (qv_QZ C) hx) rfl rfl rfl rfl ?_
  refine s_load rfl rfl rfl ?_
  refine s_load rfl rfl rfl ?_
  refine s_call rfl rfl (qMul_q S y _ _ _ _ _ _ _ _ (wof_ok _) (wof_ok _) hc hd (le_d (ql_num_le s1) rfl) (le_d (ql_den_le s1) rfl) (le_d lc rfl) (le_d ld rfl) (qv_QZ S) hy) rfl rfl rfl rfl ?_
  refine s_call rfl rfl (qSubZ_c (C * x) (S * y) (le_d (ql_mul_le c1 x1) rfl) (le_d (ql_mul_le s1 y1) rfl)) rfl rfl rfl rfl ?_
  refine s_load rfl rfl rfl ?_
  refine s_load rfl rfl rfl ?_
  refine s_call rfl rfl (qMul_q S x _ _ _ _ _ _ _ _ (wof_ok _) (wof_ok _) ha hb (le_d (ql_num_le s1) rfl) (le_d (ql_den_le s1) rfl) (le_d la rfl) (le_d lb rfl) (qv_QZ S) hx) rfl rfl rfl rfl ?_
  refine s_load rfl rfl rfl ?_
  refine s_load rfl rfl rfl ?_
  refine s_call rfl rfl (qMul_q C y _ _ _ _ _ _ _ _ (wof_ok _) (wof_ok _) hc hd (le_d (ql_num_le c1) rfl) (le_d (ql_den_le c1) rfl) (le_d lc rfl) (le_d ld rfl) (qv_QZ C) hy) rfl rfl rfl rfl ?_
  refine s_call rfl rfl (qAddZ_c (S * x) (C * y) (le_d (ql_mul_le s1 x1) rfl) (le_d (ql_mul_le c1 y1) rfl)) rfl rfl rfl rfl ?_
  refine s_store rfl rfl rfl rfl rfl ?_
  refine s_store rfl rfl rfl rfl rfl ?_
  refine s_end (hK _ ?_); clear hK K
  refine AWP_ret ?_
  repeat (with_reducible refine tq_ret ?_)
  exact post_ret (fin_mk (by rfl) (by rfl) (by rfl))
end Go.Proofs.YtcafppnjemgkiaaGreat

/- The reference's rotations. No condition. -/
namespace Go.Proofs.YtcafppnjemgkiaaGreat
attribute [local irreducible] lexA

theorem ediv_sign {x g : Int} (hg : 0 < g) (hd : g ∣ x) : (x / g < 0 ↔ x < 0) ∧ (x / g = 0 ↔ x = 0) := by
  obtain ⟨k, rfl⟩ := hd
  rw [Int.mul_ediv_cancel_left _ (by omega)]
  refine ⟨⟨fun h => Int.mul_neg_of_pos_of_neg hg h, fun h => ?_⟩, ⟨fun h => by rw [h, Int.mul_zero], fun h => ?_⟩⟩
  · rcases (by omega : k < 0 ∨ 0 ≤ k) with h' | h'
    · exact h'
    · have := Int.mul_nonneg (Int.le_of_lt hg) h'; omega
  · rcases Int.mul_eq_zero.1 h with h' | h'
    · omega
    · exact h'
theorem dec_sign (x : Int) : decide (x.sign < 0) = decide (x < 0) ∧ (x.sign == 0) = decide (x = 0) := by
  constructor
  · exact decide_eq_decide.2 Int.sign_neg_iff
  · rw [Bool.eq_iff_iff]
    simp [Int.sign_eq_zero_iff_zero]

theorem r3Norm_c (np nq : Bool) (wp wq : List Nat) (hp : wOK wp) (hq : wOK wq) (lp : wp.length ≤ 268435456) (lq : wq.length ≤ 268435456) :
    Con Tryz.prog 54 [AG (QC np wp nq wq)] { v := AG (PZ (rP (zv np wp) (zv nq wq)) (rQ (zv np wp) (zv nq wq))) } := by
  have z1 := zl_zv (n := np) hp lp
  have z2 := zl_zv (n := nq) hq lq
  generalize hx : zv np wp = x at *
  generalize hy : zv nq wq = y at *
  have hgz : Int.gcd (zv (decide (x < 0)) (wof x.natAbs)) (zv (decide (y < 0)) (wof y.natAbs)) = Int.gcd x y := by rw [zv_ZC, zv_ZC]
  have hgl : zl (Int.gcd x y : Int) ≤ 268435456 := by
    by_cases h0 : y = 0
    · subst h0
      rw [Int.gcd_zero_right, zl_nat]; exact z1
    · exact Nat.le_trans (zl_gcd x h0) z2
  have hg0 : (Int.gcd x y : Int).sign = 0 → x = 0 ∧ y = 0 := by
    intro h
    have := Int.sign_eq_zero_iff_zero.1 h
    exact Int.gcd_eq_zero_iff.1 (by omega)
  refine con_intro (fn := Tryz.f54) tok Tryz.func54 (by kernel_rfl) rfl ?_
  intro w0 X
  rw [entry_mkE _ _ [(0, AG (QC np wp nq wq))] rfl rfl]
  refine AWP_reg_seq tok fun K hK => ?_
  refine s_box rfl rfl rfl rfl rfl rfl ?_
  refine s_alloc rfl rfl rfl rfl rfl rfl ?_
  refine s_end (hK _ ?_); clear hK K
  refine a_draw tok mixed (A := [[], [], [0], [], [], [0, 1, 3], [], [], [3, 4], []]) (an := [{}, {}, {}, { c := [8] }, { c := [8] }, {}, { c := [8, 11] }, { c := [8, 11, 3] }, {}, {}]) rfl (by kernel_rfl) rfl fun K hK => ?_
  refine s_fieldAddr rfl rfl rfl ?_
  refine s_load rfl rfl rfl ?_
  refine s_call rfl rfl (hx ▸ r1Norm_c np wp hp (le_d lp rfl)) rfl rfl rfl rfl ?_
  refine s_fieldAddr rfl rfl rfl ?_
  refine s_load rfl rfl rfl ?_
  refine s_call rfl rfl (hy ▸ r1Norm_c nq wq hq (le_d lq rfl)) rfl rfl rfl rfl ?_
  refine s_alloc rfl rfl rfl rfl rfl rfl ?_
  refine s_alloc rfl rfl rfl rfl rfl rfl ?_
  refine s_store rfl rfl rfl rfl rfl ?_
  refine s_store rfl rfl rfl rfl rfl ?_
  refine s_end (hK _ ?_); clear hK K
  refine AWP_reg_seq tok fun K hK => ?_
  refine s_load rfl rfl rfl ?_
  refine s_load rfl rfl rfl ?_
  refine s_call rfl rfl (hgz ▸ r1Gcd_c (decide (x < 0)) (decide (y < 0)) (wof x.natAbs) (wof y.natAbs) (wof_ok _) (wof_ok _) z1 z2) rfl rfl rfl rfl ?_
  refine s_alloc rfl rfl rfl rfl rfl rfl ?_
  refine s_store rfl rfl rfl rfl rfl ?_
  refine s_end (hK _ ?_); clear hK K
  refine a_keep [(2, .ptr 2 0), (3, .ptr 3 0), (4, .ptr 4 0), (5, .ptr 5 0)] [(2, some (.box [.d (.lit (.bool false)), .nil, .d (.lit (.bool false)), .nil])), (3, some (.box (ZC x))), (4, some (.box (ZC y))), (5, some (.box (ZC (Int.gcd x y : Int))))] ⟨rfl, rfl, rfl, rfl, trivial⟩ ⟨rfl, rfl, rfl, rfl, trivial⟩ ?_
  refine AWP_seq ?_
  refine AWP_reg_seq tok fun K hK => ?_
  refine s_load rfl rfl rfl ?_
  refine s_call rfl rfl (r1SignZ_c (Int.gcd x y : Int) (le_d hgl rfl)) rfl rfl rfl rfl ?_
  refine s_bin rfl rfl rfl ?_
  refine s_end (hK _ ?_); clear hK K
  refine a_cond rfl (fun hc => ?_) (fun hc => ?_)
  · obtain ⟨e1, e2⟩ := hg0 (by simpa using hc)
    refine AWP_reg_seq tok fun K hK => ?_
    refine s_call rfl rfl (r1Of_c 0 (by unfold I64; omega)) rfl rfl rfl rfl ?_
    refine s_call rfl rfl (r1Of_c 1 (by unfold I64; omega)) rfl rfl rfl rfl ?_
    refine s_build rfl rfl rfl ?_
    refine s_store rfl rfl rfl rfl rfl ?_
    refine s_end (hK _ ?_); clear hK K
    refine AWP_ret ?_
    repeat (with_reducible refine tq_ret ?_)
    exact post_ret (fin_mk (by rfl) (by rfl) (by rw [e1, e2]; rfl))
  have hne : ¬ (x = 0 ∧ y = 0) := by
    rintro ⟨h1, h2⟩
    subst h1 h2
    simp at hc
  have hgn := gcd_ne hne
  have hgp : (0 : Int) < (Int.gcd x y : Int) := by omega
  have d1 : (Int.gcd x y : Int) ∣ x := Int.gcd_dvd_left ..
  have d2 : (Int.gcd x y : Int) ∣ y := Int.gcd_dvd_right ..
  have s1 := ediv_sign hgp d1
  have s2 := ediv_sign hgp d2
  have l1 : zl (x / (Int.gcd x y : Int)) ≤ 268435456 := Nat.le_trans (wl_mono (natAbs_ediv_le x _)) z1
  have l2 : zl (y / (Int.gcd x y : Int)) ≤ 268435456 := Nat.le_trans (wl_mono (natAbs_ediv_le y _)) z2
  have eP : rP x y = if rneg x y then -(x / (Int.gcd x y : Int)) else x / (Int.gcd x y : Int) := by
    unfold rP rg; rw [if_neg hne]; split
    · rw [Int.ediv_neg]
    · rfl
  have eQ : rQ x y = if rneg x y then -(y / (Int.gcd x y : Int)) else y / (Int.gcd x y : Int) := by
    unfold rQ rg; rw [if_neg hne]; split
    · rw [Int.ediv_neg]
    · rfl
  have eN : rneg x y = (decide (y / (Int.gcd x y : Int) < 0) || (decide (y / (Int.gcd x y : Int) = 0) && decide (x / (Int.gcd x y : Int) < 0))) := by
    unfold rneg
    rw [decide_eq_decide.2 s2.1, decide_eq_decide.2 s2.2, decide_eq_decide.2 s1.1]
  refine AWP_skip ?_
  show AWP _ _ _ _ _ _
  refine AWP_reg_seq tok fun K hK => ?_
  refine s_load rfl rfl rfl ?_
  refine s_load rfl rfl rfl ?_
  refine s_call rfl rfl (r1DivModZ_c x (Int.gcd x y : Int) z1 hgl hgn) rfl rfl rfl rfl ?_
  refine s_move rfl rfl rfl ?_
  refine s_extract rfl rfl rfl ?_
  refine s_extract rfl rfl rfl ?_
  refine s_extract rfl rfl rfl ?_
  refine s_store rfl rfl rfl rfl rfl ?_
  refine s_end (hK _ ?_); clear hK K
  refine AWP_reg_seq tok fun K hK => ?_
  refine s_load rfl rfl rfl ?_
  refine s_load rfl rfl rfl ?_
  refine s_call rfl rfl (r1DivModZ_c y (Int.gcd x y : Int) z2 hgl hgn) rfl rfl rfl rfl ?_
  refine s_move rfl rfl rfl ?_
  refine s_extract rfl rfl rfl ?_
  refine s_extract rfl rfl rfl ?_
  refine s_extract rfl rfl rfl ?_
  refine s_store rfl rfl rfl rfl rfl ?_
  refine s_end (hK _ ?_); clear hK K
  generalize x / (Int.gcd x y : Int) = a at *
  generalize y / (Int.gcd x y : Int) = b at *
  refine a_join (α := Unit) (fun _ => mk 55 [(2, .ptr 2 0), (3, .ptr 3 0), (4, .ptr 4 0)] [(2, some (.box [.d (.lit (.bool false)), .nil, .d (.lit (.bool false)), .nil])), (3, some (.box (ZC (rP x y)))), (4, some (.box (ZC (rQ x y))))] []) (fun _ => True) ?_ ?_
  · refine a_keep [(2, .ptr 2 0), (3, .ptr 3 0), (4, .ptr 4 0)] [(2, some (.box [.d (.lit (.bool false)), .nil, .d (.lit (.bool false)), .nil])), (3, some (.box (ZC a))), (4, some (.box (ZC b)))] ⟨rfl, rfl, rfl, trivial⟩ ⟨rfl, rfl, rfl, trivial⟩ ?_
    refine a_join (α := Bool) (fun c => mk 55 [(2, .ptr 2 0), (3, .ptr 3 0), (4, .ptr 4 0), (47, dB c)] [(2, some (.box [.d (.lit (.bool false)), .nil, .d (.lit (.bool false)), .nil])), (3, some (.box (ZC a))), (4, some (.box (ZC b)))] []) (fun c => c = rneg x y) ?_ ?_
    · refine AWP_regW fun K hK => ?_
      refine w_step tok rfl ?_
      refine s_load rfl rfl rfl ?_
      refine s_end ?_
      refine w_step tok rfl ?_
      refine s_call rfl rfl (r1SignZ_c b (le_d l2 rfl)) rfl rfl rfl rfl ?_
      refine s_end ?_
      refine w_step tok rfl ?_
      refine s_bin rfl rfl rfl ?_
      refine s_end ?_
      refine w_step tok rfl ?_
      refine s_move rfl rfl rfl ?_
      refine s_end ?_
      refine w_split (fun hb => ?_) (fun hb => ?_)
      · rw [(dec_sign b).1] at hb
        refine w_skip rfl rfl ?_
        refine w_skip rfl rfl ?_
        refine w_skip rfl rfl ?_
        refine w_skip rfl rfl ?_
        refine w_skip2 rfl rfl rfl ?_
        refine w_skip2 rfl rfl rfl ?_
        refine w_skip2 rfl rfl rfl ?_
        refine w_skip rfl rfl ?_
        refine w_step tok rfl ?_
        refine s_pick rfl rfl rfl ?_
        refine s_end ?_
        refine w_end rfl (hK _ ?_); clear hK K
        exact ⟨true, by rw [eN, hb, Bool.true_or], Wk.mk' ⟨rfl, rfl, rfl, rfl, trivial⟩ ⟨rfl, rfl, rfl, trivial⟩⟩
      rw [(dec_sign b).1] at hb
      refine w_step tok rfl ?_
      refine s_load rfl rfl rfl ?_
      refine s_end ?_
      refine w_step tok rfl ?_
      refine s_call rfl rfl (r1SignZ_c b (le_d l2 rfl)) rfl rfl rfl rfl ?_
      refine s_end ?_
      refine w_step tok rfl ?_
      refine s_bin rfl rfl rfl ?_
      refine s_end ?_
      refine w_step tok rfl ?_
      refine s_move rfl rfl rfl ?_
      refine s_end ?_
      refine w_split (fun he => ?_) (fun he => ?_)
      · rw [(dec_sign b).2] at he
        refine w_step tok rfl ?_
        refine s_load rfl rfl rfl ?_
        refine s_end ?_
        refine w_step tok rfl ?_
        refine s_call rfl rfl (r1SignZ_c a (le_d l1 rfl)) rfl rfl rfl rfl ?_
        refine s_end ?_
        refine w_step tok rfl ?_
        refine s_bin rfl rfl rfl ?_
        refine s_end ?_
        refine w_step tok rfl ?_
        refine s_pick rfl rfl rfl ?_
        refine s_end ?_
        refine w_step tok rfl ?_
        refine s_pick rfl rfl rfl ?_
        refine s_end ?_
        refine w_end rfl (hK _ ?_); clear hK K
        refine ⟨_, ?_, Wk.mk' ⟨rfl, rfl, rfl, rfl, trivial⟩ ⟨rfl, rfl, rfl, trivial⟩⟩
        rw [eN, hb, he, Bool.false_or, Bool.true_and]
        exact (dec_sign a).1
      · rw [(dec_sign b).2] at he
        refine w_skip rfl rfl ?_
        refine w_skip rfl rfl ?_
        refine w_skip rfl rfl ?_
        refine w_step tok rfl ?_
        refine s_pick rfl rfl rfl ?_
        refine s_end ?_
        refine w_step tok rfl ?_
        refine s_pick rfl rfl rfl ?_
        refine s_end ?_
        refine w_end rfl (hK _ ?_); clear hK K
        exact ⟨false, by rw [eN, hb, he]; rfl, Wk.mk' ⟨rfl, rfl, rfl, rfl, trivial⟩ ⟨rfl, rfl, rfl, trivial⟩⟩
    rintro c hcr
    refine a_cond rfl (fun hc => ?_) (fun hc => ?_)
    · rw [hcr] at hc
      rw [hc, if_pos rfl] at eP eQ
      refine a_draw1 tok mixed (A := [[], [], [], [0], [2], []]) (an := [{}, {}, { c := [49] }, {}, {}, {}]) rfl (by kernel_rfl) rfl fun K hK => ?_
      refine s_load rfl rfl rfl ?_
      refine s_call rfl rfl (r1NegZ_c a l1) rfl rfl rfl rfl ?_
      refine s_load rfl rfl rfl ?_
      refine s_call rfl rfl (r1NegZ_c b l2) rfl rfl rfl rfl ?_
      refine s_store rfl rfl rfl rfl rfl ?_
      refine s_store rfl rfl rfl rfl rfl ?_
      refine s_end (hK _ ?_); clear hK K
      exact ⟨(), trivial, Wk.mk' ⟨rfl, rfl, rfl, trivial⟩ ⟨rfl, by rw [eP]; rfl, by rw [eQ]; rfl, trivial⟩⟩
    · rw [hcr] at hc
      rw [hc, if_neg (by decide)] at eP eQ
      refine AWP_skip ?_
      exact ⟨(), trivial, Wk.mk' ⟨rfl, rfl, rfl, trivial⟩ ⟨rfl, by rw [eP]; rfl, by rw [eQ]; rfl, trivial⟩⟩
  rintro - -
  show AWP _ _ _ _ _ (mk 55 [(2, .ptr 2 0), (3, .ptr 3 0), (4, .ptr 4 0)] [(2, some (.box [.d (.lit (.bool false)), .nil, .d (.lit (.bool false)), .nil])), (3, some (.box (ZC (rP x y)))), (4, some (.box (ZC (rQ x y))))] [])
  refine AWP_reg_seq tok fun K hK => ?_
  refine s_load rfl rfl rfl ?_
  refine s_load rfl rfl rfl ?_
  refine s_build rfl rfl rfl ?_
  refine s_store rfl rfl rfl rfl rfl ?_
  refine s_end (hK _ ?_); clear hK K
  refine AWP_ret ?_
  repeat (with_reducible refine tq_ret ?_)
  exact post_ret (fin_mk (by rfl) (by rfl) (by rfl))

theorem r3Norm_q (np nq : Bool) (wp wq : List Nat) (a b : Int) (hp : wOK wp) (hq : wOK wq) (lp : wp.length ≤ 268435456) (lq : wq.length ≤ 268435456) (ha : rP (zv np wp) (zv nq wq) = a) (hb : rQ (zv np wp) (zv nq wq) = b) :
    Con Tryz.prog 54 [AG (QC np wp nq wq)] { v := AG (PZ a b) } := by
  subst ha hb
  exact r3Norm_c np nq wp wq hp hq lp lq
theorem r3NormZ_q (x y a b : Int) (hx : zl x ≤ 268435456) (hy : zl y ≤ 268435456) (ha : rP x y = a) (hb : rQ x y = b) : Con Tryz.prog 54 [AG (PZ x y)] { v := AG (PZ a b) } :=
  r3Norm_q _ _ _ _ a b (wof_ok _) (wof_ok _) hx hy (by rw [zv_ZC, zv_ZC]; exact ha) (by rw [zv_ZC, zv_ZC]; exact hb)

theorem r3Of_c (p q : Int) (hp : I64 p) (hq : I64 q) : Con Tryz.prog 27 [dI p, dI q] { v := AG (PZ (rP p q) (rQ p q)) } := by
  refine con_intro (fn := Tryz.f27) tok Tryz.func27 (by kernel_rfl) rfl ?_
  intro w0 X
  rw [entry_mkE _ _ [(0, dI p), (1, dI q)] rfl rfl]
  refine AWP_reg_seq tok fun K hK => ?_
  refine s_alloc rfl rfl rfl rfl rfl rfl ?_
  refine s_end (hK _ ?_); clear hK K
  refine AWP_reg_seq tok fun K hK => ?_
  refine s_move rfl rfl rfl ?_
  refine s_call rfl rfl (r1Of_c p hp) rfl rfl rfl rfl ?_
  refine s_move rfl rfl rfl ?_
  refine s_call rfl rfl (r1Of_c q hq) rfl rfl rfl rfl ?_
  refine s_build rfl rfl rfl ?_
  refine s_call rfl rfl (r3NormZ_q p q _ _ (le_d (zl_i64 hp) rfl) (le_d (zl_i64 hq) rfl) rfl rfl) rfl rfl rfl rfl ?_
  refine s_store rfl rfl rfl rfl rfl ?_
  refine s_end (hK _ ?_); clear hK K
  refine AWP_ret ?_
  repeat (with_reducible refine tq_ret ?_)
  exact post_ret (fin_mk (by rfl) (by rfl) (by rfl))

theorem r2Sub_q (x y : Rat) (na nb nc nd : Bool) (wa wb wc wd : List Nat) (ha : wOK wa) (hb : wOK wb) (hc : wOK wc) (hd : wOK wd) (la : wa.length ≤ 16777215) (lb : wb.length ≤ 16777215) (lc : wc.length ≤ 16777215) (ld : wd.length ≤ 16777215)
    (hx : qv na wa nb wb = x) (hy : qv nc wc nd wd = y) :
    Con Tryz.prog 48 [AG (QC na wa nb wb), AG (QC nc wc nd wd)] { v := AG (QZ (x - y)) } := by
  have y1 : ql (-y) ≤ 16777215 := by rw [ql_neg, ← hy]; exact ql_qv hc hd lc ld (by decide)
  have e : x - y = x + -y := Rat.sub_eq_add_neg x y
  rw [e]
  refine con_intro (fn := Tryz.f48) tok Tryz.func48 (by kernel_rfl) rfl ?_
  intro w0 X
  rw [entry_mkE _ _ [(0, AG (QC na wa nb wb)), (1, AG (QC nc wc nd wd))] rfl rfl]
  refine AWP_reg_seq tok fun K hK => ?_
  refine s_box rfl rfl rfl rfl rfl rfl ?_
  refine s_box rfl rfl rfl rfl rfl rfl ?_
  refine s_alloc rfl rfl rfl rfl rfl rfl ?_
  refine s_end (hK _ ?_); clear hK K
  refine a_draw tok mixed (A := [[], [], [], [1], []]) (an := [{}, {}, {}, {}, {}]) rfl (by kernel_rfl) rfl fun K hK => ?_
  refine s_load rfl rfl rfl ?_
  refine s_load rfl rfl rfl ?_
  refine s_call rfl rfl (hy ▸ r2Neg_c nc nd wc wd hc hd (le_d lc rfl) (le_d ld rfl)) rfl rfl rfl rfl ?_
  refine s_call rfl rfl (r2Add_q x (-y) na nb _ _ wa wb _ _ ha hb (wof_ok _) (wof_ok _) (le_d la rfl) (le_d lb rfl) (le_d (ql_num_le y1) rfl) (le_d (ql_den_le y1) rfl) hx (qv_QZ _)) rfl rfl rfl rfl ?_
  refine s_store rfl rfl rfl rfl rfl ?_
  refine s_end (hK _ ?_); clear hK K
  refine AWP_ret ?_
  repeat (with_reducible refine tq_ret ?_)
  exact post_ret (fin_mk (by rfl) (by rfl) (by rfl))

theorem r2SubZ_c (x y : Rat) (hx : ql x ≤ 16777215) (hy : ql y ≤ 16777215) : Con Tryz.prog 48 [AG (QZ x), AG (QZ y)] { v := AG (QZ (x - y)) } :=
  r2Sub_q x y _ _ _ _ _ _ _ _ (wof_ok _) (wof_ok _) (wof_ok _) (wof_ok _) (Nat.le_trans (ql_num x) hx) (Nat.le_trans (ql_den x) hx) (Nat.le_trans (ql_num y) hy) (Nat.le_trans (ql_den y) hy) (qv_QZ x) (qv_QZ y)

theorem r3Cos_c (np nq : Bool) (wp wq : List Nat) (hp : wOK wp) (hq : wOK wq) (lp : wp.length ≤ 67108864) (lq : wq.length ≤ 67108864) :
    Con Tryz.prog 59 [AG (QC np wp nq wq)] { v := AG (QZ (cosR (zv np wp) (zv nq wq))) } := by
  have r1 : zl (rP (zv np wp) (zv nq wq)) ≤ 67108864 := zl_rP_le rfl (zl_zv hp lp)
  have r2 : zl (rQ (zv np wp) (zv nq wq)) ≤ 67108864 := zl_rQ_le rfl (zl_zv hq lq)
  unfold cosR
  generalize hA : rP (zv np wp) (zv nq wq) = a at *
  generalize hB : rQ (zv np wp) (zv nq wq) = b at *
  have m5 : zl (b * b - a * a) ≤ 268435456 := le_d (zl_sub_le (zl_mul_le r2 r2) (zl_mul_le r1 r1)) rfl
  have m6 : zl (b * b + a * a) ≤ 268435456 := le_d (zl_add_le (zl_mul_le r2 r2) (zl_mul_le r1 r1)) rfl
  refine con_intro (fn := Tryz.f59) tok Tryz.func59 (by kernel_rfl) rfl ?_
  intro w0 X
  rw [entry_mkE _ _ [(0, AG (QC np wp nq wq))] rfl rfl]
  refine AWP_reg_seq tok fun K hK => ?_
  refine s_box rfl rfl rfl rfl rfl rfl ?_
  refine s_alloc rfl rfl rfl rfl rfl rfl ?_
  refine s_end (hK _ ?_); clear hK K
  refine AWP_reg_seq tok fun K hK => ?_
  refine s_load rfl rfl rfl ?_
  refine s_call rfl rfl (r3Norm_q np nq wp wq a b hp hq (le_d lp rfl) (le_d lq rfl) hA hB) rfl rfl rfl rfl ?_
  refine s_store rfl rfl rfl rfl rfl ?_
  refine s_end (hK _ ?_); clear hK K
  refine a_draw tok mixed (A := [[], [], [], [], [0, 2], [], [], [], [], [0, 1, 2, 3, 5, 7], [], [], [5, 6, 7, 8], []]) (an := [{}, {}, {}, {}, {}, { c := [11] }, { c := [11] }, { c := [11] }, { c := [11] }, {}, { c := [11, 16] }, { c := [11, 16, 3] }, {}, {}]) rfl (by kernel_rfl) rfl fun K hK => ?_
  refine s_fieldAddr rfl rfl rfl ?_
  refine s_load rfl rfl rfl ?_
  refine s_fieldAddr rfl rfl rfl ?_
  refine s_load rfl rfl rfl ?_
  refine s_call rfl rfl (r1MulZ_c a a (le_d r1 rfl) (le_d r1 rfl)) rfl rfl rfl rfl ?_
  refine s_fieldAddr rfl rfl rfl ?_
  refine s_load rfl rfl rfl ?_
  refine s_fieldAddr rfl rfl rfl ?_
  refine s_load rfl rfl rfl ?_
  refine s_call rfl rfl (r1MulZ_c b b (le_d r2 rfl) (le_d r2 rfl)) rfl rfl rfl rfl ?_
  refine s_alloc rfl rfl rfl rfl rfl rfl ?_
  refine s_alloc rfl rfl rfl rfl rfl rfl ?_
  refine s_store rfl rfl rfl rfl rfl ?_
  refine s_store rfl rfl rfl rfl rfl ?_
  refine s_end (hK _ ?_); clear hK K
  refine a_draw tok mixed (A := [[], [], [], [], [], [0, 1], [0, 1, 3, 4], []]) (an := [{}, {}, {}, { c := [19] }, { c := [19] }, {}, {}, {}]) rfl (by kernel_rfl) rfl fun K hK => ?_
  refine s_load rfl rfl rfl ?_
  refine s_load rfl rfl rfl ?_
  refine s_call rfl rfl (r1SubZ_c (b * b) (a * a) (le_d (zl_mul_le r2 r2) rfl) (le_d (zl_mul_le r1 r1) rfl)) rfl rfl rfl rfl ?_
  refine s_load rfl rfl rfl ?_
  refine s_load rfl rfl rfl ?_
  refine s_call rfl rfl (r1AddZ_c (b * b) (a * a) (le_d (zl_mul_le r2 r2) rfl) (le_d (zl_mul_le r1 r1) rfl)) rfl rfl rfl rfl ?_
  refine s_call rfl rfl (r2NewZ_c (b * b - a * a) (b * b + a * a) _ m5 m6 rfl) rfl rfl rfl rfl ?_
  refine s_store rfl rfl rfl rfl rfl ?_
  refine s_end (hK _ ?_); clear hK K
  refine AWP_ret ?_
  repeat (with_reducible refine tq_ret ?_)
  exact post_ret (fin_mk (by rfl) (by rfl) (by rfl))

theorem r3Sin_c (np nq : Bool) (wp wq : List Nat) (hp : wOK wp) (hq : wOK wq) (lp : wp.length ≤ 67108864) (lq : wq.length ≤ 67108864) :
    Con Tryz.prog 60 [AG (QC np wp nq wq)] { v := AG (QZ (sinR (zv np wp) (zv nq wq))) } := by
  have r1 : zl (rP (zv np wp) (zv nq wq)) ≤ 67108864 := zl_rP_le rfl (zl_zv hp lp)
  have r2 : zl (rQ (zv np wp) (zv nq wq)) ≤ 67108864 := zl_rQ_le rfl (zl_zv hq lq)
  unfold sinR
  generalize hA : rP (zv np wp) (zv nq wq) = a at *
  generalize hB : rQ (zv np wp) (zv nq wq) = b at *
  have m5 : zl (a * b + a * b) ≤ 268435456 := le_d (zl_add_le (zl_mul_le r1 r2) (zl_mul_le r1 r2)) rfl
  have m6 : zl (a * a + b * b) ≤ 268435456 := le_d (zl_add_le (zl_mul_le r1 r1) (zl_mul_le r2 r2)) rfl
  have e1 : b * a + a * b = a * b + a * b := by rw [Int.mul_comm b a]
  have e2 : b * b + a * a = a * a + b * b := Int.add_comm _ _
  rw [e1, e2]
  refine con_intro (fn := Tryz.f60) tok Tryz.func60 (by kernel_rfl) rfl ?_
  intro w0 X
  rw [entry_mkE _ _ [(0, AG (QC np wp nq wq))] rfl rfl]
  refine AWP_reg_seq tok fun K hK => ?_
  refine s_box rfl rfl rfl rfl rfl rfl ?_
  refine s_alloc rfl rfl rfl rfl rfl rfl ?_
  refine s_end (hK _ ?_); clear hK K
  refine AWP_reg_seq tok fun K hK => ?_
  refine s_load rfl rfl rfl ?_
  refine s_call rfl rfl (r3Norm_q np nq wp wq a b hp hq (le_d lp rfl) (le_d lq rfl) hA hB) rfl rfl rfl rfl ?_
  refine s_store rfl rfl rfl rfl rfl ?_
  refine s_end (hK _ ?_); clear hK K
  refine AWP_reg_seq tok fun K hK => ?_
  refine s_fieldAddr rfl rfl rfl ?_
  refine s_load rfl rfl rfl ?_
  refine s_fieldAddr rfl rfl rfl ?_
  refine s_load rfl rfl rfl ?_
  refine s_call rfl rfl (r1MulZ_c a b (le_d r1 rfl) (le_d r2 rfl)) rfl rfl rfl rfl ?_
  refine s_alloc rfl rfl rfl rfl rfl rfl ?_
  refine s_store rfl rfl rfl rfl rfl ?_
  refine s_end (hK _ ?_); clear hK K
  refine a_draw tok mixed (A := [[], [], [], [], [], [], [], [0, 1, 3, 5], [], [], [], [], [0, 1, 2, 3, 4, 5, 6, 8, 10], [0, 1, 2, 3, 4, 5, 6, 8, 9, 10, 11], [0, 1, 3, 4, 5, 6, 7, 8, 9, 10, 11, 12], []]) (an := [{}, {}, {}, { c := [13] }, { c := [13] }, { c := [13] }, { c := [13] }, {}, { c := [13, 18] }, { c := [13, 18] }, { c := [13, 18] }, { c := [13, 18] }, {}, {}, {}, {}]) rfl (by kernel_rfl) rfl fun K hK => ?_
  refine s_load rfl rfl rfl ?_
  refine s_load rfl rfl rfl ?_
  refine s_call rfl rfl (r1AddZ_c (a * b) (a * b) (le_d (zl_mul_le r1 r2) rfl) (le_d (zl_mul_le r1 r2) rfl)) rfl rfl rfl rfl ?_
  refine s_fieldAddr rfl rfl rfl ?_
  refine s_load rfl rfl rfl ?_
  refine s_fieldAddr rfl rfl rfl ?_
  refine s_load rfl rfl rfl ?_
  refine s_call rfl rfl (r1MulZ_c a a (le_d r1 rfl) (le_d r1 rfl)) rfl rfl rfl rfl ?_
  refine s_fieldAddr rfl rfl rfl ?_
  refine s_load rfl rfl rfl ?_
  refine s_fieldAddr rfl rfl rfl ?_
  refine s_load rfl rfl rfl ?_
  refine s_call rfl rfl (r1MulZ_c b b (le_d r2 rfl) (le_d r2 rfl)) rfl rfl rfl rfl ?_
  refine s_call rfl rfl (r1AddZ_c (a * a) (b * b) (le_d (zl_mul_le r1 r1) rfl) (le_d (zl_mul_le r2 r2) rfl)) rfl rfl rfl rfl ?_
  refine s_call rfl rfl (r2NewZ_c (a * b + a * b) (a * a + b * b) _ m5 m6 rfl) rfl rfl rfl rfl ?_
  refine s_store rfl rfl rfl rfl rfl ?_
  refine s_end (hK _ ?_); clear hK K
  refine AWP_ret ?_
  repeat (with_reducible refine tq_ret ?_)
  exact post_ret (fin_mk (by rfl) (by rfl) (by rfl))

theorem r3Turn_c (np nq na nb nc nd : Bool) (wp wq wa wb wc wd : List Nat) (hp : wOK wp) (hq : wOK wq) (ha : wOK wa) (hb : wOK wb) (hc : wOK wc) (hd : wOK wd)
    (lp : wp.length ≤ 1048576) (lq : wq.length ≤ 1048576) (la : wa.length ≤ 1048576) (lb : wb.length ≤ 1048576) (lc : wc.length ≤ 1048576) (ld : wd.length ≤ 1048576) :
    Con Tryz.prog 36 [AG (QC np wp nq wq), AG (QC na wa nb wb), AG (QC nc wc nd wd)]
      { v := .tup [.agg (QZ (cosR (zv np wp) (zv nq wq) * qv na wa nb wb - sinR (zv np wp) (zv nq wq) * qv nc wc nd wd)), .agg (QZ (sinR (zv np wp) (zv nq wq) * qv na wa nb wb + cosR (zv np wp) (zv nq wq) * qv nc wc nd wd))] } := by
  have c1 : ql (cosR (zv np wp) (zv nq wq)) ≤ 2097153 := ql_cos (zv np wp) (zv nq wq) (zl_zv hp lp) (zl_zv hq lq) (by decide)
  have s1 : ql (sinR (zv np wp) (zv nq wq)) ≤ 2097153 := ql_sin (zv np wp) (zv nq wq) (zl_zv hp lp) (zl_zv hq lq) (by decide)
  have x1 := ql_qv (na := na) (nb := nb) ha hb la lb (by decide)
  have y1 := ql_qv (na := nc) (nb := nd) hc hd lc ld (by decide)
  generalize hC : cosR (zv np wp) (zv nq wq) = C at *
  generalize hS : sinR (zv np wp) (zv nq wq) = S at *
  generalize hx : qv na wa nb wb = x at *
  generalize hy : qv nc wc nd wd = y at *
  refine con_intro (fn := Tryz.f36) tok Tryz.func36 (by kernel_rfl) rfl ?_
  intro w0 X
  rw [entry_mkE _ _ [(0, AG (QC np wp nq wq)), (1, AG (QC na wa nb wb)), (2, AG (QC nc wc nd wd))] rfl rfl]
  refine AWP_reg_seq tok fun K hK => ?_
  refine s_box rfl rfl rfl rfl rfl rfl ?_
  refine s_box rfl rfl rfl rfl rfl rfl ?_
  refine s_box rfl rfl rfl rfl rfl rfl ?_
  refine s_alloc rfl rfl rfl rfl rfl rfl ?_
  refine s_alloc rfl rfl rfl rfl rfl rfl ?_
  refine s_end (hK _ ?_); clear hK K
  refine a_draw tok mixed (A := [[], [], [], [0], [], [], [2], []]) (an := [{}, {}, { c := [13] }, {}, { c := [13, 15] }, { c := [13, 15, 8] }, {}, {}]) rfl (by kernel_rfl) rfl fun K hK => ?_
  refine s_load rfl rfl rfl ?_
  refine s_call rfl rfl (hC ▸ r3Cos_c np nq wp wq hp hq (le_d lp rfl) (le_d lq rfl)) rfl rfl rfl rfl ?_
  refine s_load rfl rfl rfl ?_
  refine s_call rfl rfl (hS ▸ r3Sin_c np nq wp wq hp hq (le_d lp rfl) (le_d lq rfl)) rfl rfl rfl rfl ?_
  refine s_alloc rfl rfl rfl rfl rfl rfl ?_
  refine s_alloc rfl rfl rfl rfl rfl rfl ?_
  refine s_store rfl rfl rfl rfl rfl ?_
  refine s_store rfl rfl rfl rfl rfl ?_
  refine s_end (hK _ ?_); clear hK K
  refine a_draw tok mixed (A := [[], [], [], [], [], [0, 1], [0, 1, 3, 4], [], []]) (an := [{}, {}, {}, { c := [18] }, { c := [18] }, {}, {}, { c := [18, 21, 22] }, {}]) rfl (by kernel_rfl) rfl fun K hK => ?_
  refine s_load rfl rfl rfl ?_
  refine s_load rfl rfl rfl ?_
  refine s_call rfl rfl (r2Mul_q C x _ _ _ _ _ _ _ _ (wof_ok _) (wof_ok _) ha hb (le_d (ql_num_le c1) rfl) (le_d (ql_den_le c1) rfl) (le_d la rfl) (le_d lb rfl) (qv_QZ C) hx) rfl rfl rfl rfl ?_
  refine s_load rfl rfl rfl ?_
  refine s_load rfl rfl rfl ?_
  refine s_call rfl rfl (r2Mul_q S y _ _ _ _ _ _ _ _ (wof_ok _) (wof_ok _) hc hd (le_d (ql_num_le s1) rfl) (le_d (ql_den_le s1) rfl) (le_d lc rfl) (le_d ld rfl) (qv_QZ S) hy) rfl rfl rfl rfl ?_
  refine s_call rfl rfl (r2SubZ_c (C * x) (S * y) (le_d (ql_mul_le c1 x1) rfl) (le_d (ql_mul_le s1 y1) rfl)) rfl rfl rfl rfl ?_
  refine s_alloc rfl rfl rfl rfl rfl rfl ?_
  refine s_store rfl rfl rfl rfl rfl ?_
  refine s_end (hK _ ?_); clear hK K
  refine a_draw tok mixed (A := [[], [], [], [], [], [0, 1], [0, 1, 3, 4], [], []]) (an := [{}, {}, {}, { c := [25] }, { c := [25] }, {}, {}, { c := [25, 28, 29] }, {}]) rfl (by kernel_rfl) rfl fun K hK => ?_
  refine s_load rfl rfl rfl ?_
  refine s_load rfl rfl rfl ?_
  refine s_call rfl rfl (r2Mul_q S x _ _ _ _ _ _ _ _ (wof_ok _) (wof_ok _) ha hb (le_d (ql_num_le s1) rfl) (le_d (ql_den_le s1) rfl) (le_d la rfl) (le_d lb rfl) (qv_QZ S) hx) rfl rfl rfl rfl ?_
  refine s_load rfl rfl rfl ?_
  refine s_load rfl rfl rfl ?_
  refine s_call rfl rfl (r2Mul_q C y _ _ _ _ _ _ _ _ (wof_ok _) (wof_ok _) hc hd (le_d (ql_num_le c1) rfl) (le_d (ql_den_le c1) rfl) (le_d lc rfl) (le_d ld rfl) (qv_QZ C) hy) rfl rfl rfl rfl ?_
  refine s_call rfl rfl (r2AddZ_c (S * x) (C * y) (le_d (ql_mul_le s1 x1) rfl) (le_d (ql_mul_le c1 y1) rfl)) rfl rfl rfl rfl ?_
  refine s_alloc rfl rfl rfl rfl rfl rfl ?_
  refine s_store rfl rfl rfl rfl rfl ?_
  refine s_end (hK _ ?_); clear hK K
  refine a_draw tok mixed (A := [[], [], [], []]) (an := [{}, {}, { d := [11] }, {}]) rfl (by kernel_rfl) rfl fun K hK => ?_
  refine s_load rfl rfl rfl ?_
  refine s_load rfl rfl rfl ?_
  refine s_store rfl rfl rfl rfl rfl ?_
  refine s_store rfl rfl rfl rfl rfl ?_
  refine s_end (hK _ ?_); clear hK K
  refine AWP_ret ?_
  repeat (with_reducible refine tq_ret ?_)
  exact post_ret (fin_mk (by rfl) (by rfl) (by rfl))

end Go.Proofs.YtcafppnjemgkiaaGreat

/- Data of the graph layer: rationals, rotations, links, positions as they stand. No condition. -/
namespace Go.Proofs.YtcafppnjemgkiaaGreat

/-- Two integers as they stand: a rational (numerator, denominator) or a rotation (P, Q). -/
structure RW where
  np : Bool
  wp : List Nat
  nq : Bool
  wq : List Nat
  deriving DecidableEq
def RW.dc (r : RW) : List DC := [.lit (.bool r.np), dW r.wp, .lit (.bool r.nq), dW r.wq]
abbrev RW.cs (r : RW) : List SC := QC r.np r.wp r.nq r.wq
/-- Its words are words, at most k of each. -/
structure RW.OK (k : Nat) (r : RW) : Prop where
  op : wOK r.wp
  oq : wOK r.wq
  lp : r.wp.length ≤ k
  lq : r.wq.length ≤ k
def RW.p (r : RW) : Int := zv r.np r.wp
def RW.q (r : RW) : Int := zv r.nq r.wq
/-- The rational. -/
def RW.v (r : RW) : Rat := qv r.np r.wp r.nq r.wq
/-- Canonical ones. -/
def pzW (x y : Int) : RW := ⟨decide (x < 0), wof x.natAbs, decide (y < 0), wof y.natAbs⟩
def qzW (q : Rat) : RW := pzW q.num q.den
theorem pzW_p (x y : Int) : (pzW x y).p = x := zv_ZC x
theorem pzW_q (x y : Int) : (pzW x y).q = y := zv_ZC y
theorem qzW_v (q : Rat) : (qzW q).v = q := qv_QZ q
theorem pzW_ok {x y : Int} {k : Nat} (hx : zl x ≤ k) (hy : zl y ≤ k) : (pzW x y).OK k := ⟨wof_ok _, wof_ok _, hx, hy⟩
theorem qzW_ok {q : Rat} {k : Nat} (h : ql q ≤ k) : (qzW q).OK k := pzW_ok (ql_num_le h) (ql_den_le h)
theorem RW.OK.mono {r : RW} {k m : Nat} (h : r.OK k) (hk : Nat.ble k m = true) : r.OK m := ⟨h.op, h.oq, le_d h.lp hk, le_d h.lq hk⟩
theorem RW.OK.ql {r : RW} {k : Nat} (h : r.OK k) (hk : Nat.ble 1 k = true) : ql r.v ≤ k := ql_qv h.op h.oq h.lp h.lq (Nat.le_of_ble_eq_true hk)

/-- Links. -/
structure LK where
  f : Int
  t : Int
  x : Int
  y : Int
  w : Int
  deriving DecidableEq
def LK.dc (l : LK) : List DC := [lI l.f, lI l.t, lI l.x, lI l.y, lI l.w]
/-- Positions. -/
structure SP where
  x : RW
  y : RW
  deriving DecidableEq
def SP.dc (s : SP) : List DC := [.lit (.bool s.x.np), dW s.x.wp, .lit (.bool s.x.nq), dW s.x.wq, .lit (.bool s.y.np), dW s.y.wp, .lit (.bool s.y.nq), dW s.y.wq]
def SP.cs (s : SP) : List SC := [.d (.lit (.bool s.x.np)), .d (dW s.x.wp), .d (.lit (.bool s.x.nq)), .d (dW s.x.wq), .d (.lit (.bool s.y.np)), .d (dW s.y.wp), .d (.lit (.bool s.y.nq)), .d (dW s.y.wq)]
/-- Points. -/
structure PT where
  x : Int
  y : Int
  deriving DecidableEq
def PT.dc (p : PT) : List DC := [lI p.x, lI p.y]
/-- Lists. -/
def dRs (l : List RW) : DC := .sl (l.map RW.dc)
def dLs (l : List LK) : DC := .sl (l.map LK.dc)
def dSs (l : List SP) : DC := .sl (l.map SP.dc)
def dPs (l : List PT) : DC := .sl (l.map PT.dc)
def cI (n : Int) : List DC := [lI n]
def dIs (l : List Int) : DC := .sl (l.map cI)
def cM (l : List RW) : List DC := [dRs l]
def dMs (m : List (List RW)) : DC := .sl (m.map cM)
/-- A graph. -/
structure GR where
  nodes : List RW
  links : List LK
def GR.cs (g : GR) : List SC := [.d (dRs g.nodes), .d (dLs g.links)]

section
variable {T : Tab} {t e : TypeId} {ti ei : TI} {α : Type}
theorem x_m {k : IntKind} {n : Int} {i : Nat} {l : List α} (f : α → List DC) (h1 : T t = some ti) (h2 : ti.und = .slice e) (h3 : T e = some ei) (hn : n = (i : Int)) (hi : i < l.length) (hl : (f l[i]).length = ei.size) :
    effIndexAddr T t (V1 (.sl (l.map f))) (V1 (.lit (.int k n))) = .set (.pd (f l[i])) :=
  x_d h1 h2 h3 hn (by rw [List.getElem?_map, List.getElem?_eq_getElem hi]; rfl) hl
theorem len_m {S : Objs} {l : List α} (f : α → List DC) (h1 : T t = some ti) (h2 : ti.und = .slice e) : effCall T ⟨[], S, []⟩ (.builtin .len) [V1 (.sl (l.map f))] [t] = .set (dI l.length) :=
  len_d h1 h2 (by simp)
end
theorem take_eq_succ {α : Type} {a b : List α} {i : Nat} (ha : i < a.length) (hb : i < b.length) (h : a.take i = b.take i) (he : a[i] = b[i]) : a.take (i + 1) = b.take (i + 1) := by
  rw [List.take_succ_eq_append_getElem ha, List.take_succ_eq_append_getElem hb, h, he]
theorem take_eq_all {α : Type} {a b : List α} (hl : a.length = b.length) (h : a.take a.length = b.take a.length) : a = b := by
  rwa [List.take_of_length_le (Nat.le_refl _), List.take_of_length_le (by omega)] at h
theorem ne_of_get {α : Type} {a b : List α} {i : Nat} (ha : i < a.length) (hb : i < b.length) (he : a[i] ≠ b[i]) : a ≠ b := by
  intro h; subst h; exact he rfl
end Go.Proofs.YtcafppnjemgkiaaGreat

/- What is read at this program's types. No condition. -/
namespace Go.Proofs.YtcafppnjemgkiaaGreat
open Go.RowKit

/-- Words are words. -/
def RW.W (r : RW) : Prop := wOK r.wp ∧ wOK r.wq
def SP.W (s : SP) : Prop := s.x.W ∧ s.y.W
def LK.I (l : LK) : Prop := I64 l.f ∧ I64 l.t ∧ I64 l.x ∧ I64 l.y ∧ I64 l.w
def PT.I (p : PT) : Prop := I64 p.x ∧ I64 p.y

theorem wf_i64 {n : Int} (h : (Lit.int .i64 n).wf = true) : I64 n := by
  simp [Lit.wf, IntKind.min, IntKind.max, IntKind.signed, IntKind.bits] at h
  exact ⟨by omega, by omega⟩
theorem wf_u32 {n : Int} (h : (Lit.int .u32 n).wf = true) : ∃ x : Nat, n = x ∧ x < 4294967296 := by
  simp [Lit.wf, IntKind.min, IntKind.max, IntKind.signed, IntKind.bits] at h
  exact ⟨n.toNat, by omega, by omega⟩
theorem wf_u8 {n : Int} (h : (Lit.int .u8 n).wf = true) : ∃ x : Nat, n = x ∧ x < 256 := by
  simp [Lit.wf, IntKind.min, IntKind.max, IntKind.signed, IntKind.bits] at h
  exact ⟨n.toNat, by omega, by omega⟩
theorem wf_u64 {n : Int} (h : (Lit.int .u64 n).wf = true) : ∃ x : Nat, n = x ∧ x < 18446744073709551616 := by
  simp [Lit.wf, IntKind.min, IntKind.max, IntKind.signed, IntKind.bits] at h
  exact ⟨n.toNat, by omega, by omega⟩

section
variable {w : World}
abbrev QI : List DC → Prop := fun ds => ∃ n, I64 n ∧ ds = [lI n]
theorem rd_I : Reads Tryz.prog w 3 QI := (rd_int tok rfl rfl).mono fun ds ⟨n, h, e⟩ => ⟨n, wf_i64 h, e⟩
theorem rd_W : Reads Tryz.prog w 32 (fun ds => ∃ ws : List Nat, wOK ws ∧ ds = [dW ws]) := by
  have h1 : Reads Tryz.prog w 96 (fun ds => ∃ x : Nat, x < 4294967296 ∧ ds = cW x) := (rd_int tok rfl rfl).mono fun ds ⟨n, h, e⟩ => by
    obtain ⟨x, rfl, hx⟩ := wf_u32 h
    exact ⟨x, hx, e⟩
  exact (rd_slice cW (fun x => x < 4294967296) tok rfl rfl rfl rfl h1).mono fun ds ⟨l, h, e⟩ => ⟨l, h, e⟩
abbrev QZ' : List DC → Prop := fun ds => ∃ (b : Bool) (ws : List Nat), wOK ws ∧ ds = [.lit (.bool b), dW ws]
theorem rd_Z : Reads Tryz.prog w 34 QZ' := by
  refine (rd_struct (qs := [fun ds => ∃ b, ds = [.lit (.bool b)], fun ds => ∃ ws : List Nat, wOK ws ∧ ds = [dW ws]]) tok rfl rfl rfl rfl ?_).mono fun ds h => ?_
  · exact ⟨rfl, rd_bool tok rfl rfl, _, rfl, rfl, rd_W, _, rfl, trivial⟩
  · obtain ⟨a, b, e, ⟨n, h1⟩, c, d, e', ⟨ws, hw, h2⟩, h3⟩ := h
    have h3 : d = [] := h3
    subst e e' h1 h2 h3
    exact ⟨n, ws, hw, rfl⟩
abbrev QR : List DC → Prop := fun ds => ∃ r : RW, r.W ∧ ds = r.dc
theorem rw_of : ∀ ds, QFs [QZ', QZ'] ds → QR ds := fun ds ⟨a, b, e, ⟨n, ws, hw, h1⟩, c, d, e', ⟨m, vs, hv, h2⟩, h3⟩ => by
    have h3 : d = [] := h3
    subst e e' h1 h2 h3
    exact ⟨⟨n, ws, m, vs⟩, ⟨hw, hv⟩, rfl⟩
theorem rd_Rot : Reads Tryz.prog w 59 QR := by
  refine (rd_struct (qs := [QZ', QZ']) tok rfl rfl rfl rfl ?_).mono rw_of
  exact ⟨rfl, rd_Z, _, rfl, rfl, rd_Z, _, rfl, trivial⟩
theorem rd_Q : Reads Tryz.prog w 36 QR := by
  refine (rd_struct (qs := [QZ', QZ']) tok rfl rfl rfl rfl ?_).mono rw_of
  exact ⟨rfl, rd_Z, _, rfl, rfl, rd_Z, _, rfl, trivial⟩
abbrev QS : List DC → Prop := fun ds => ∃ s : SP, s.W ∧ ds = s.dc
theorem rd_S : Reads Tryz.prog w 38 QS := by
  refine (rd_struct (qs := [QR, QR]) tok rfl rfl rfl rfl ?_).mono fun ds h => ?_
  · exact ⟨rfl, rd_Q, _, rfl, rfl, rd_Q, _, rfl, trivial⟩
  · obtain ⟨a, b, e, ⟨x, hx, h1⟩, c, d, e', ⟨y, hy, h2⟩, h3⟩ := h
    have h3 : d = [] := h3
    subst e e' h1 h2 h3
    exact ⟨⟨x, y⟩, ⟨hx, hy⟩, rfl⟩
abbrev QP : List DC → Prop := fun ds => ∃ p : PT, p.I ∧ ds = p.dc
theorem rd_P : Reads Tryz.prog w 64 QP := by
  refine (rd_struct (qs := [QI, QI]) tok rfl rfl rfl rfl ?_).mono fun ds h => ?_
  · exact ⟨rfl, rd_I, _, rfl, rfl, rd_I, _, rfl, trivial⟩
  · obtain ⟨a, b, e, ⟨x, hx, h1⟩, c, d, e', ⟨y, hy, h2⟩, h3⟩ := h
    have h3 : d = [] := h3
    subst e e' h1 h2 h3
    exact ⟨⟨x, y⟩, ⟨hx, hy⟩, rfl⟩
abbrev QL : List DC → Prop := fun ds => ∃ l : LK, l.I ∧ ds = l.dc
theorem rd_L : Reads Tryz.prog w 72 QL := by
  refine (rd_struct (qs := [QI, QI, QI, QI, QI]) tok rfl rfl rfl rfl ?_).mono fun ds h => ?_
  · exact ⟨rfl, rd_I, _, rfl, rfl, rd_I, _, rfl, rfl, rd_I, _, rfl, rfl, rd_I, _, rfl, rfl, rd_I, _, rfl, trivial⟩
  · obtain ⟨a1, b1, e1, ⟨x1, h1, k1⟩, a2, b2, e2, ⟨x2, h2, k2⟩, a3, b3, e3, ⟨x3, h3, k3⟩, a4, b4, e4, ⟨x4, h4, k4⟩, a5, b5, e5, ⟨x5, h5, k5⟩, h6⟩ := h
    have h6 : b5 = [] := h6
    subst e1 e2 e3 e4 e5 k1 k2 k3 k4 k5 h6
    exact ⟨⟨x1, x2, x3, x4, x5⟩, ⟨h1, h2, h3, h4, h5⟩, rfl⟩
theorem rd_Rots : Reads Tryz.prog w 22 (fun ds => ∃ l : List RW, (∀ x ∈ l, x.W) ∧ ds = [.sl (l.map RW.dc)]) := rd_slice RW.dc RW.W tok rfl rfl rfl rfl rd_Rot
theorem rd_Spots : Reads Tryz.prog w 50 (fun ds => ∃ l : List SP, (∀ x ∈ l, x.W) ∧ ds = [.sl (l.map SP.dc)]) := rd_slice SP.dc SP.W tok rfl rfl rfl rfl rd_S
theorem rd_Points : Reads Tryz.prog w 65 (fun ds => ∃ l : List PT, (∀ x ∈ l, x.I) ∧ ds = [.sl (l.map PT.dc)]) := rd_slice PT.dc PT.I tok rfl rfl rfl rfl rd_P
theorem rd_Links : Reads Tryz.prog w 23 (fun ds => ∃ l : List LK, (∀ x ∈ l, x.I) ∧ ds = [.sl (l.map LK.dc)]) := rd_slice LK.dc LK.I tok rfl rfl rfl rfl rd_L
def GR.W (g : GR) : Prop := (∀ r ∈ g.nodes, r.W) ∧ ∀ l ∈ g.links, l.I
theorem rd_G : Reads Tryz.prog w 25 (fun ds => ∃ g : GR, g.W ∧ ds = [dRs g.nodes, dLs g.links]) := by
  refine (rd_struct (qs := [fun ds => ∃ l : List RW, (∀ x ∈ l, x.W) ∧ ds = [.sl (l.map RW.dc)], fun ds => ∃ l : List LK, (∀ x ∈ l, x.I) ∧ ds = [.sl (l.map LK.dc)]]) tok rfl rfl rfl rfl ?_).mono fun ds h => ?_
  · exact ⟨rfl, rd_Rots, _, rfl, rfl, rd_Links, _, rfl, trivial⟩
  · obtain ⟨a, b, e, ⟨x, hx, h1⟩, c, d, e', ⟨y, hy, h2⟩, h3⟩ := h
    have h3 : d = [] := h3
    subst e e' h1 h2 h3
    exact ⟨⟨x, y⟩, ⟨hx, hy⟩, rfl⟩
end

section
variable {w : World} {H : Type} {enc : TypeId × Value → H} {sp : Nat → Bool} {v : Value} {d : DataW H} {ps : List MemPlace} {base : Nat}
set_option maxRecDepth 100000 in
theorem arg_G (hv : Value.okWide Tryz.prog w .any base 25 v) (hd : DataW.Trod enc Tryz.prog w 0 sp true 25 v d ps) : ∃ g : GR, g.W ∧ RelV w (fun _ => False) (fun _ => 0) v (AG g.cs) := by
  obtain ⟨ti, fs, a, b⟩ : ∃ ti fs, tab.ty 25 = some ti ∧ ti.und = .struct fs := ⟨_, _, rfl, rfl⟩
  obtain ⟨ds, ⟨g, hg, rfl⟩, hr⟩ := arg_agg tok a b rd_G hv hd (fun _ => 0)
  exact ⟨g, hg, hr⟩
set_option maxRecDepth 100000 in
theorem arg_S (hv : Value.okWide Tryz.prog w .any base 38 v) (hd : DataW.Trod enc Tryz.prog w 0 sp true 38 v d ps) : ∃ s : SP, s.W ∧ RelV w (fun _ => False) (fun _ => 0) v (AG s.cs) := by
  obtain ⟨ti, fs, a, b⟩ : ∃ ti fs, tab.ty 38 = some ti ∧ ti.und = .struct fs := ⟨_, _, rfl, rfl⟩
  obtain ⟨ds, ⟨g, hg, rfl⟩, hr⟩ := arg_agg tok a b rd_S hv hd (fun _ => 0)
  exact ⟨g, hg, hr⟩
set_option maxRecDepth 100000 in
theorem arg_Rots (hv : Value.okWide Tryz.prog w .any base 22 v) (hd : DataW.Trod enc Tryz.prog w 0 sp true 22 v d ps) : ∃ l : List RW, (∀ r ∈ l, r.W) ∧ RelV w (fun _ => False) (fun _ => 0) v (V1 (dRs l)) := by
  obtain ⟨ti, e, a, b⟩ : ∃ ti e, tab.ty 22 = some ti ∧ ti.und = .slice e := ⟨_, _, rfl, rfl⟩
  exact arg_slice tok a b rd_Rots hv hd _
set_option maxRecDepth 100000 in
theorem arg_Spots (hv : Value.okWide Tryz.prog w .any base 50 v) (hd : DataW.Trod enc Tryz.prog w 0 sp true 50 v d ps) : ∃ l : List SP, (∀ r ∈ l, r.W) ∧ RelV w (fun _ => False) (fun _ => 0) v (V1 (dSs l)) := by
  obtain ⟨ti, e, a, b⟩ : ∃ ti e, tab.ty 50 = some ti ∧ ti.und = .slice e := ⟨_, _, rfl, rfl⟩
  exact arg_slice tok a b rd_Spots hv hd _
set_option maxRecDepth 100000 in
theorem arg_Points (hv : Value.okWide Tryz.prog w .any base 65 v) (hd : DataW.Trod enc Tryz.prog w 0 sp true 65 v d ps) : ∃ l : List PT, (∀ r ∈ l, r.I) ∧ RelV w (fun _ => False) (fun _ => 0) v (V1 (dPs l)) := by
  obtain ⟨ti, e, a, b⟩ : ∃ ti e, tab.ty 65 = some ti ∧ ti.und = .slice e := ⟨_, _, rfl, rfl⟩
  exact arg_slice tok a b rd_Points hv hd _
set_option maxRecDepth 100000 in
theorem arg_I (hv : Value.okWide Tryz.prog w .any base 3 v) (hd : DataW.Trod enc Tryz.prog w 0 sp true 3 v d ps) : ∃ n : Int, I64 n ∧ RelV w (fun _ => False) (fun _ => 0) v (dI n) := by
  obtain ⟨ti, a, b⟩ : ∃ ti, tab.ty 3 = some ti ∧ ti.und = .int .i64 := ⟨_, rfl, rfl⟩
  obtain ⟨n, h1, h2⟩ := arg_int tok a b hv hd (fun _ => 0)
  exact ⟨n, wf_i64 h1, h2⟩
set_option maxRecDepth 100000 in
theorem arg_u8 (hv : Value.okWide Tryz.prog w .any base 5 v) (hd : DataW.Trod enc Tryz.prog w 0 sp true 5 v d ps) : ∃ n : Nat, n < 256 ∧ RelV w (fun _ => False) (fun _ => 0) v (V1 (.lit (.int .u8 n))) := by
  obtain ⟨ti, a, b⟩ : ∃ ti, tab.ty 5 = some ti ∧ ti.und = .int .u8 := ⟨_, rfl, rfl⟩
  obtain ⟨n, h1, h2⟩ := arg_int tok a b hv hd (fun _ => 0)
  obtain ⟨x, rfl, hx⟩ := wf_u8 h1
  exact ⟨x, hx, h2⟩
set_option maxRecDepth 100000 in
theorem arg_u64L {T64 : TypeId} (ti : TI) (a : tab.ty T64 = some ti) (b : ti.und = .int .u64) (hv : Value.okWide Tryz.prog w .any base T64 v) (hd : DataW.Trod enc Tryz.prog w 0 sp true T64 v d ps) : ∃ n : Nat, n < 18446744073709551616 ∧ RelV w (fun _ => False) (fun _ => 0) v (V1 (.lit (.int .u64 n))) := by
  obtain ⟨n, h1, h2⟩ := arg_int tok a b hv hd (fun _ => 0)
  obtain ⟨x, rfl, hx⟩ := wf_u64 h1
  exact ⟨x, hx, h2⟩
end
/-- The arguments one by one. -/
theorem args1 {vs : List Value} {xs : List SV} {w : World} (h1 : vs.length = xs.length) (h : ∀ (i : Nat) (v : Value) (a : SV), vs[i]? = some v → xs[i]? = some a → RelV w (fun _ => False) (fun _ => 0) v a) :
    vs.length = xs.length ∧ ∀ (i : Nat) (x : SV), xs[i]? = some x → ∃ v, vs[i]? = some v ∧ RelV w (fun _ => False) (fun _ => 0) v x :=
  ⟨h1, fun i x hx => by
    have hi : i < vs.length := by rw [h1]; exact (List.getElem?_eq_some_iff.1 hx).1
    exact ⟨vs[i], List.getElem?_eq_getElem hi, h i _ _ (List.getElem?_eq_getElem hi) hx⟩⟩
end Go.Proofs.YtcafppnjemgkiaaGreat

/- Comparisons of the base package; sizes of numbers. No condition. -/
namespace Go.Proofs.YtcafppnjemgkiaaGreat
attribute [local irreducible] lexA

theorem bInt_c (na nb : Bool) (wa wb : List Nat) (la : wa.length ≤ 9223372036854775806) : Con Tryz.prog 51 [AG (IC na wa), AG (IC nb wb)] { v := dB (decide (na = nb ∧ wa = wb)) } := by
  refine con_intro (fn := Tryz.f51) tok Tryz.func51 (by kernel_rfl) rfl ?_
  intro w0 X
  rw [entry_mkE _ _ [(0, AG (IC na wa)), (1, AG (IC nb wb))] rfl rfl]
  refine AWP_reg_seq tok fun K hK => ?_
  refine s_box rfl rfl rfl rfl rfl rfl ?_
  refine s_box rfl rfl rfl rfl rfl rfl ?_
  refine s_assign rfl rfl rfl ?_
  refine s_end (hK _ ?_); clear hK K
  refine AWP_seq ?_
  refine a_join (α := Bool) (fun c => mk 38 [(2, .ptr 2 0), (3, .ptr 3 0), (19, dB c)] [(2, some (.box (IC na wa))), (3, some (.box (IC nb wb)))] []) (fun c => (c = true → ¬ (na = nb ∧ wa = wb)) ∧ (c = false → na = nb ∧ wa.length = wb.length)) ?_ ?_
  · refine AWP_reg tok fun K hK => ?_
    refine s_fieldAddr rfl rfl rfl ?_
    refine s_load rfl rfl rfl ?_
    refine s_fieldAddr rfl rfl rfl ?_
    refine s_load rfl rfl rfl ?_
    refine s_bin rfl rfl rfl ?_
    refine s_move rfl rfl rfl ?_
    refine s_split (fun h => ?_) (fun h => ?_)
    · have h : na ≠ nb := by simpa using h
      refine s_skip rfl ?_
      refine s_skip rfl ?_
      refine s_skip rfl ?_
      refine s_skip rfl ?_
      refine s_skip rfl ?_
      refine s_skip rfl ?_
      refine s_skip rfl ?_
      refine s_pick rfl rfl rfl ?_
      refine s_end (hK _ ?_); clear hK K
      exact ⟨true, ⟨fun _ h' => h h'.1, fun h => (by cases h)⟩, Wk.mk' ⟨rfl, rfl, rfl, trivial⟩ ⟨rfl, rfl, trivial⟩⟩
    · have h : na = nb := by simpa using h
      refine s_fieldAddr rfl rfl rfl ?_
      refine s_load rfl rfl rfl ?_
      refine s_blt rfl (len_w rfl rfl rfl) rfl ?_
      refine s_fieldAddr rfl rfl rfl ?_
      refine s_load rfl rfl rfl ?_
      refine s_blt rfl (len_w rfl rfl rfl) rfl ?_
      refine s_bin rfl rfl rfl ?_
      refine s_pick rfl rfl rfl ?_
      refine s_end (hK _ ?_); clear hK K
      refine ⟨_, ⟨fun h' h2 => ?_, fun h' => ⟨h, ?_⟩⟩, Wk.mk' ⟨rfl, rfl, rfl, trivial⟩ ⟨rfl, rfl, trivial⟩⟩
      · rw [h2.2] at h'; simp at h'
      · simp at h'; omega
  rintro c ⟨k1, k2⟩
  refine a_cond rfl (fun hc => ?_) (fun hc => ?_)
  · refine AWP_reg_seq tok fun K hK => ?_
    refine s_assign rfl rfl rfl ?_
    refine s_end (hK _ ?_); clear hK K
    refine AWP_ret ?_
    repeat (with_reducible refine tq_ret ?_)
    exact post_ret (fin_mk (by rfl) (by rfl) (by rw [decide_eq_false (k1 hc)]; rfl))
  obtain ⟨hn, hl⟩ := k2 hc
  refine AWP_skip ?_
  show AWP _ _ _ _ _ _
  refine AWP_seq ?_
  refine AWP_reg_seq tok fun K hK => ?_
  refine s_assign rfl rfl rfl ?_
  refine s_end (hK _ ?_); clear hK K
  refine AWP_block (a_loop (α := Nat) (fun i => mk 38 [(2, .ptr 2 0), (3, .ptr 3 0), (5, dI i)] [(2, some (.box (IC na wa))), (3, some (.box (IC nb wb)))] []) (fun i => i ≤ wa.length ∧ wa.take i = wb.take i) (fun i => wa.length - i) 0 ?_ ⟨Nat.zero_le _, rfl⟩ ?_)
  · exact Wk.mk' ⟨rfl, rfl, rfl, trivial⟩ ⟨rfl, rfl, trivial⟩
  rintro i ⟨hi, ht⟩
  refine AWP_seq ?_
  refine AWP_reg_seq tok fun K hK => ?_
  refine s_move rfl rfl rfl ?_
  refine s_fieldAddr rfl rfl rfl ?_
  refine s_load rfl rfl rfl ?_
  refine s_blt rfl (len_w rfl rfl rfl) rfl ?_
  refine s_bin rfl rfl rfl ?_
  refine s_end (hK _ ?_); clear hK K
  refine a_cond rfl (fun hg => ?_) (fun hg => ?_)
  · have hg : i < wa.length := by simp at hg; omega
    have hg' : i < wb.length := by omega
    refine AWP_skip ?_
    show AWP _ _ _ _ _ _
    refine AWP_seq ?_
    refine AWP_block ?_
    refine a_draw tok mixed (A := [[], [], [], [0], [0, 1, 2], [], [], [], [5], [5, 6, 7], [0, 1, 2, 3, 5, 6, 7, 8]]) (an := [{}, {}, {}, {}, {}, {}, {}, {}, {}, {}, {}]) rfl (by kernel_rfl) rfl fun K hK => ?_
    refine s_fieldAddr rfl rfl rfl ?_
    refine s_load rfl rfl rfl ?_
    refine s_move rfl rfl rfl ?_
    refine s_indexAddr rfl (x_w (i := i) rfl rfl rfl rfl rfl hg) rfl ?_
    refine s_load rfl rfl rfl ?_
    refine s_fieldAddr rfl rfl rfl ?_
    refine s_load rfl rfl rfl ?_
    refine s_move rfl rfl rfl ?_
    refine s_indexAddr rfl (x_w (i := i) rfl rfl rfl rfl rfl hg') rfl ?_
    refine s_load rfl rfl rfl ?_
    refine s_bin rfl rfl rfl ?_
    refine s_end (hK _ ?_); clear hK K
    refine a_cond rfl (fun hd => ?_) (fun hd => ?_)
    · have hd : wa[i] ≠ wb[i] := by simp at hd; omega
      refine AWP_reg_seq tok fun K hK => ?_
      refine s_assign rfl rfl rfl ?_
      refine s_end (hK _ ?_); clear hK K
      refine AWP_ret ?_
      repeat (with_reducible refine tq_ret ?_)
      exact post_ret (fin_mk (by rfl) (by rfl) (by rw [decide_eq_false (fun h' => ne_of_get hg hg' hd h'.2)]; rfl))
    · have hd : wa[i] = wb[i] := by simp at hd; omega
      refine AWP_skip ?_
      show AWP _ _ _ _ _ _
      refine AWP_reg tok fun K hK => ?_
      refine s_move rfl rfl rfl ?_
      refine s_bin rfl (e_add (c := ((i + 1 : Nat) : Int)) (by omega) (by omega)) rfl ?_
      refine s_assign rfl rfl rfl ?_
      refine s_end (hK _ ?_); clear hK K
      exact ⟨i + 1, by omega, ⟨hg, take_eq_succ hg hg' ht hd⟩, Wk.mk' ⟨rfl, rfl, rfl, trivial⟩ ⟨rfl, rfl, trivial⟩⟩
  · have hg : i = wa.length := by simp at hg; omega
    subst hg
    refine AWP_exit ?_
    show AWP _ _ _ _ _ _
    refine AWP_reg_seq tok fun K hK => ?_
    refine s_assign rfl rfl rfl ?_
    refine s_end (hK _ ?_); clear hK K
    refine AWP_ret ?_
    repeat (with_reducible refine tq_ret ?_)
    exact post_ret (fin_mk (by rfl) (by rfl) (by rw [decide_eq_true ⟨hn, take_eq_all hl ht⟩]; rfl))

theorem RW.eq_iff (a b : RW) : decide (a = b) = (decide (a.np = b.np ∧ a.wp = b.wp) && decide (a.nq = b.nq ∧ a.wq = b.wq)) := by
  obtain ⟨a1, a2, a3, a4⟩ := a
  obtain ⟨b1, b2, b3, b4⟩ := b
  rw [Bool.eq_iff_iff]
  simp [RW.mk.injEq, and_assoc]
theorem bRat_c (a b : RW) (la : a.wp.length ≤ 9223372036854775806) (lb : a.wq.length ≤ 9223372036854775806) : Con Tryz.prog 25 [AG a.cs, AG b.cs] { v := dB (decide (a = b)) } := by
  rw [RW.eq_iff]
  refine con_intro (fn := Tryz.f25) tok Tryz.func25 (by kernel_rfl) rfl ?_
  intro w0 X
  rw [entry_mkE _ _ [(0, AG a.cs), (1, AG b.cs)] rfl rfl]
  refine AWP_reg_seq tok fun K hK => ?_
  refine s_box rfl rfl rfl rfl rfl rfl ?_
  refine s_box rfl rfl rfl rfl rfl rfl ?_
  refine s_assign rfl rfl rfl ?_
  refine s_end (hK _ ?_); clear hK K
  refine AWP_reg_seq tok fun K hK => ?_
  refine s_fieldAddr rfl rfl rfl ?_
  refine s_load rfl rfl rfl ?_
  refine s_fieldAddr rfl rfl rfl ?_
  refine s_load rfl rfl rfl ?_
  refine s_call rfl rfl (bInt_c a.np b.np a.wp b.wp la) rfl rfl rfl rfl ?_
  refine s_move rfl rfl rfl ?_
  refine s_split (fun h => ?_) (fun h => ?_)
  · refine s_fieldAddr rfl rfl rfl ?_
    refine s_load rfl rfl rfl ?_
    refine s_fieldAddr rfl rfl rfl ?_
    refine s_load rfl rfl rfl ?_
    refine s_call rfl rfl (bInt_c a.nq b.nq a.wq b.wq lb) rfl rfl rfl rfl ?_
    refine s_pick rfl rfl rfl ?_
    refine s_assign rfl rfl rfl ?_
    refine s_end (hK _ ?_); clear hK K
    refine AWP_ret ?_
    repeat (with_reducible refine tq_ret ?_)
    exact post_ret (fin_mk (by rfl) (by rfl) (by rw [h, Bool.true_and]; rfl))
  · refine s_skip rfl ?_
    refine s_skip rfl ?_
    refine s_skip rfl ?_
    refine s_skip rfl ?_
    refine s_skip rfl ?_
    refine s_pick rfl rfl rfl ?_
    refine s_assign rfl rfl rfl ?_
    refine s_end (hK _ ?_); clear hK K
    refine AWP_ret ?_
    repeat (with_reducible refine tq_ret ?_)
    exact post_ret (fin_mk (by rfl) (by rfl) (by rw [h, Bool.false_and]; rfl))

theorem bRats_c (a b : List RW) (la : a.length ≤ 9223372036854775806) (ha : ∀ r ∈ a, r.wp.length ≤ 9223372036854775806 ∧ r.wq.length ≤ 9223372036854775806) :
    Con Tryz.prog 19 [V1 (dRs a), V1 (dRs b)] { v := dB (decide (a = b)) } := by
  refine con_intro (fn := Tryz.f19) tok Tryz.func19 (by kernel_rfl) rfl ?_
  intro w0 X
  rw [entry_mkE _ _ [(0, V1 (dRs a)), (1, V1 (dRs b))] rfl rfl]
  refine AWP_reg_seq tok fun K hK => ?_
  refine s_assign rfl rfl rfl ?_
  refine s_end (hK _ ?_); clear hK K
  refine AWP_seq ?_
  refine AWP_reg_seq tok fun K hK => ?_
  refine s_move rfl rfl rfl ?_
  refine s_blt rfl (len_m RW.dc rfl rfl) rfl ?_
  refine s_move rfl rfl rfl ?_
  refine s_blt rfl (len_m RW.dc rfl rfl) rfl ?_
  refine s_bin rfl rfl rfl ?_
  refine s_end (hK _ ?_); clear hK K
  refine a_cond rfl (fun hc => ?_) (fun hc => ?_)
  · have hc : a.length ≠ b.length := by simp at hc; omega
    refine AWP_reg_seq tok fun K hK => ?_
    refine s_assign rfl rfl rfl ?_
    refine s_end (hK _ ?_); clear hK K
    refine AWP_ret ?_
    repeat (with_reducible refine tq_ret ?_)
    exact post_ret (fin_mk (by rfl) (by rfl) (by rw [decide_eq_false (fun h => hc (by rw [h]))]; rfl))
  have hl : a.length = b.length := by simp at hc; omega
  refine AWP_skip ?_
  show AWP _ _ _ _ _ _
  refine AWP_seq ?_
  refine AWP_reg_seq tok fun K hK => ?_
  refine s_assign rfl rfl rfl ?_
  refine s_end (hK _ ?_); clear hK K
  refine AWP_block (a_loop (α := Nat) (fun i => mk 27 [(0, V1 (dRs a)), (1, V1 (dRs b)), (5, dI i)] [] []) (fun i => i ≤ a.length ∧ a.take i = b.take i) (fun i => a.length - i) 0 ?_ ⟨Nat.zero_le _, rfl⟩ ?_)
  · exact Wk.mk' ⟨rfl, rfl, rfl, trivial⟩ trivial
  rintro i ⟨hi, ht⟩
  refine AWP_seq ?_
  refine AWP_reg_seq tok fun K hK => ?_
  refine s_move rfl rfl rfl ?_
  refine s_move rfl rfl rfl ?_
  refine s_blt rfl (len_m RW.dc rfl rfl) rfl ?_
  refine s_bin rfl rfl rfl ?_
  refine s_end (hK _ ?_); clear hK K
  refine a_cond rfl (fun hg => ?_) (fun hg => ?_)
  · have hg : i < a.length := by simp at hg; omega
    have hg' : i < b.length := by omega
    have hai := ha a[i] (List.getElem_mem hg)
    refine AWP_skip ?_
    show AWP _ _ _ _ _ _
    refine AWP_seq ?_
    refine AWP_block ?_
    refine a_draw tok mixed (A := [[], [], [], [0, 1], [], [], [], [4, 5], [0, 1, 2, 4, 5, 6], [0, 1, 2, 3, 4, 5, 6, 7]]) (an := [{}, {}, {}, {}, {}, {}, {}, {}, {}, {}]) rfl (by kernel_rfl) rfl fun K hK => ?_
    refine s_move rfl rfl rfl ?_
    refine s_move rfl rfl rfl ?_
    refine s_indexAddr rfl (x_m RW.dc rfl rfl rfl rfl hg rfl) rfl ?_
    refine s_load rfl rfl rfl ?_
    refine s_move rfl rfl rfl ?_
    refine s_move rfl rfl rfl ?_
    refine s_indexAddr rfl (x_m RW.dc rfl rfl rfl rfl hg' rfl) rfl ?_
    refine s_load rfl rfl rfl ?_
    refine s_call rfl rfl (bRat_c a[i] b[i] hai.1 hai.2) rfl rfl rfl rfl ?_
    refine s_un rfl rfl rfl ?_
    refine s_end (hK _ ?_); clear hK K
    refine a_cond rfl (fun hd => ?_) (fun hd => ?_)
    · have hd : a[i] ≠ b[i] := by simpa using hd
      refine AWP_reg_seq tok fun K hK => ?_
      refine s_assign rfl rfl rfl ?_
      refine s_end (hK _ ?_); clear hK K
      refine AWP_ret ?_
      repeat (with_reducible refine tq_ret ?_)
      exact post_ret (fin_mk (by rfl) (by rfl) (by rw [decide_eq_false (fun h' => ne_of_get hg hg' hd h')]; rfl))
    · have hd : a[i] = b[i] := by simpa using hd
      refine AWP_skip ?_
      show AWP _ _ _ _ _ _
      refine AWP_reg tok fun K hK => ?_
      refine s_move rfl rfl rfl ?_
      refine s_bin rfl (e_add (c := ((i + 1 : Nat) : Int)) (by omega) (by omega)) rfl ?_
      refine s_assign rfl rfl rfl ?_
      refine s_end (hK _ ?_); clear hK K
      exact ⟨i + 1, by omega, ⟨hg, take_eq_succ hg hg' ht hd⟩, Wk.mk' ⟨rfl, rfl, rfl, trivial⟩ trivial⟩
  · have hg : i = a.length := by simp at hg; omega
    subst hg
    refine AWP_exit ?_
    show AWP _ _ _ _ _ _
    refine AWP_reg_seq tok fun K hK => ?_
    refine s_assign rfl rfl rfl ?_
    refine s_end (hK _ ?_); clear hK K
    refine AWP_ret ?_
    repeat (with_reducible refine tq_ret ?_)
    exact post_ret (fin_mk (by rfl) (by rfl) (by rw [decide_eq_true (take_eq_all hl ht)]; rfl))

theorem bInts_c (a b : List Int) (la : a.length ≤ 9223372036854775806) : Con Tryz.prog 14 [V1 (dIs a), V1 (dIs b)] { v := dB (decide (a = b)) } := by
  refine con_intro (fn := Tryz.f14) tok Tryz.func14 (by kernel_rfl) rfl ?_
  intro w0 X
  rw [entry_mkE _ _ [(0, V1 (dIs a)), (1, V1 (dIs b))] rfl rfl]
  refine AWP_reg_seq tok fun K hK => ?_
  refine s_assign rfl rfl rfl ?_
  refine s_end (hK _ ?_); clear hK K
  refine AWP_seq ?_
  refine AWP_reg_seq tok fun K hK => ?_
  refine s_move rfl rfl rfl ?_
  refine s_blt rfl (len_m cI rfl rfl) rfl ?_
  refine s_move rfl rfl rfl ?_
  refine s_blt rfl (len_m cI rfl rfl) rfl ?_
  refine s_bin rfl rfl rfl ?_
  refine s_end (hK _ ?_); clear hK K
  refine a_cond rfl (fun hc => ?_) (fun hc => ?_)
  · have hc : a.length ≠ b.length := by simp at hc; omega
    refine AWP_reg_seq tok fun K hK => ?_
    refine s_assign rfl rfl rfl ?_
    refine s_end (hK _ ?_); clear hK K
    refine AWP_ret ?_
    repeat (with_reducible refine tq_ret ?_)
    exact post_ret (fin_mk (by rfl) (by rfl) (by rw [decide_eq_false (fun h => hc (by rw [h]))]; rfl))
  have hl : a.length = b.length := by simp at hc; omega
  refine AWP_skip ?_
  show AWP _ _ _ _ _ _
  refine AWP_seq ?_
  refine AWP_reg_seq tok fun K hK => ?_
  refine s_assign rfl rfl rfl ?_
  refine s_end (hK _ ?_); clear hK K
  refine AWP_block (a_loop (α := Nat) (fun i => mk 26 [(0, V1 (dIs a)), (1, V1 (dIs b)), (5, dI i)] [] []) (fun i => i ≤ a.length ∧ a.take i = b.take i) (fun i => a.length - i) 0 ?_ ⟨Nat.zero_le _, rfl⟩ ?_)
  · exact Wk.mk' ⟨rfl, rfl, rfl, trivial⟩ trivial
  rintro i ⟨hi, ht⟩
  refine AWP_seq ?_
  refine AWP_reg_seq tok fun K hK => ?_
  refine s_move rfl rfl rfl ?_
  refine s_move rfl rfl rfl ?_
  refine s_blt rfl (len_m cI rfl rfl) rfl ?_
  refine s_bin rfl rfl rfl ?_
  refine s_end (hK _ ?_); clear hK K
  refine a_cond rfl (fun hg => ?_) (fun hg => ?_)
  · have hg : i < a.length := by simp at hg; omega
    have hg' : i < b.length := by omega
    refine AWP_skip ?_
    show AWP _ _ _ _ _ _
    refine AWP_seq ?_
    refine AWP_block ?_
    refine a_draw tok mixed (A := [[], [], [], [0, 1], [], [], [], [4, 5], [0, 1, 2, 4, 5, 6]]) (an := [{}, {}, {}, {}, {}, {}, {}, {}, {}]) rfl (by kernel_rfl) rfl fun K hK => ?_
    refine s_move rfl rfl rfl ?_
    refine s_move rfl rfl rfl ?_
    refine s_indexAddr rfl (x_m cI rfl rfl rfl rfl hg rfl) rfl ?_
    refine s_load rfl rfl rfl ?_
    refine s_move rfl rfl rfl ?_
    refine s_move rfl rfl rfl ?_
    refine s_indexAddr rfl (x_m cI rfl rfl rfl rfl hg' rfl) rfl ?_
    refine s_load rfl rfl rfl ?_
    refine s_bin rfl rfl rfl ?_
    refine s_end (hK _ ?_); clear hK K
    refine a_cond rfl (fun hd => ?_) (fun hd => ?_)
    · have hd : a[i] ≠ b[i] := by simpa using hd
      refine AWP_reg_seq tok fun K hK => ?_
      refine s_assign rfl rfl rfl ?_
      refine s_end (hK _ ?_); clear hK K
      refine AWP_ret ?_
      repeat (with_reducible refine tq_ret ?_)
      exact post_ret (fin_mk (by rfl) (by rfl) (by rw [decide_eq_false (fun h' => ne_of_get hg hg' hd h')]; rfl))
    · have hd : a[i] = b[i] := by simpa using hd
      refine AWP_skip ?_
      show AWP _ _ _ _ _ _
      refine AWP_reg tok fun K hK => ?_
      refine s_move rfl rfl rfl ?_
      refine s_bin rfl (e_add (c := ((i + 1 : Nat) : Int)) (by omega) (by omega)) rfl ?_
      refine s_assign rfl rfl rfl ?_
      refine s_end (hK _ ?_); clear hK K
      exact ⟨i + 1, by omega, ⟨hg, take_eq_succ hg hg' ht hd⟩, Wk.mk' ⟨rfl, rfl, rfl, trivial⟩ trivial⟩
  · have hg : i = a.length := by simp at hg; omega
    subst hg
    refine AWP_exit ?_
    show AWP _ _ _ _ _ _
    refine AWP_reg_seq tok fun K hK => ?_
    refine s_assign rfl rfl rfl ?_
    refine s_end (hK _ ?_); clear hK K
    refine AWP_ret ?_
    repeat (with_reducible refine tq_ret ?_)
    exact post_ret (fin_mk (by rfl) (by rfl) (by rw [decide_eq_true (take_eq_all hl ht)]; rfl))

/-- Few words. -/
def SP.small (s : SP) : Prop := (s.x.wp.length ≤ 9223372036854775806 ∧ s.x.wq.length ≤ 9223372036854775806) ∧ (s.y.wp.length ≤ 9223372036854775806 ∧ s.y.wq.length ≤ 9223372036854775806)
theorem SP.eq_iff (a b : SP) : a = b ↔ a.x = b.x ∧ a.y = b.y := by
  obtain ⟨a1, a2⟩ := a
  obtain ⟨b1, b2⟩ := b
  simp [SP.mk.injEq]

theorem bSpots_c (a b : List SP) (la : a.length ≤ 9223372036854775806) (ha : ∀ r ∈ a, r.small) :
    Con Tryz.prog 30 [V1 (dSs a), V1 (dSs b)] { v := dB (decide (a = b)) } := by
  refine con_intro (fn := Tryz.f30) tok Tryz.func30 (by kernel_rfl) rfl ?_
  intro w0 X
  rw [entry_mkE _ _ [(0, V1 (dSs a)), (1, V1 (dSs b))] rfl rfl]
  refine AWP_reg_seq tok fun K hK => ?_
  refine s_assign rfl rfl rfl ?_
  refine s_end (hK _ ?_); clear hK K
  refine AWP_seq ?_
  refine AWP_reg_seq tok fun K hK => ?_
  refine s_move rfl rfl rfl ?_
  refine s_blt rfl (len_m SP.dc rfl rfl) rfl ?_
  refine s_move rfl rfl rfl ?_
  refine s_blt rfl (len_m SP.dc rfl rfl) rfl ?_
  refine s_bin rfl rfl rfl ?_
  refine s_end (hK _ ?_); clear hK K
  refine a_cond rfl (fun hc => ?_) (fun hc => ?_)
  · have hc : a.length ≠ b.length := by simp at hc; omega
    refine AWP_reg_seq tok fun K hK => ?_
    refine s_assign rfl rfl rfl ?_
    refine s_end (hK _ ?_); clear hK K
    refine AWP_ret ?_
    repeat (with_reducible refine tq_ret ?_)
    exact post_ret (fin_mk (by rfl) (by rfl) (by rw [decide_eq_false (fun h => hc (by rw [h]))]; rfl))
  have hl : a.length = b.length := by simp at hc; omega
  refine AWP_skip ?_
  show AWP _ _ _ _ _ _
  refine AWP_seq ?_
  refine AWP_reg_seq tok fun K hK => ?_
  refine s_assign rfl rfl rfl ?_
  refine s_end (hK _ ?_); clear hK K
  refine AWP_block (a_loop (α := Nat) (fun i => mk 43 [(0, V1 (dSs a)), (1, V1 (dSs b)), (5, dI i)] [] []) (fun i => i ≤ a.length ∧ a.take i = b.take i) (fun i => a.length - i) 0 ?_ ⟨Nat.zero_le _, rfl⟩ ?_)
  · exact Wk.mk' ⟨rfl, rfl, rfl, trivial⟩ trivial
  rintro i ⟨hi, ht⟩
  refine AWP_seq ?_
  refine AWP_reg_seq tok fun K hK => ?_
  refine s_move rfl rfl rfl ?_
  refine s_move rfl rfl rfl ?_
  refine s_blt rfl (len_m SP.dc rfl rfl) rfl ?_
  refine s_bin rfl rfl rfl ?_
  refine s_end (hK _ ?_); clear hK K
  refine a_cond rfl (fun hg => ?_) (fun hg => ?_)
  · have hg : i < a.length := by simp at hg; omega
    have hg' : i < b.length := by omega
    have hai := ha a[i] (List.getElem_mem hg)
    refine AWP_skip ?_
    show AWP _ _ _ _ _ _
    refine AWP_seq ?_
    refine AWP_block ?_
    refine a_join (α := Bool) (fun c => mk 43 [(0, V1 (dSs a)), (1, V1 (dSs b)), (5, dI i), (42, dB c)] [] []) (fun c => (c = true → a[i] ≠ b[i]) ∧ (c = false → a[i] = b[i])) ?_ ?_
    · refine a_draw1 tok mixed (A := [[], [], [], [0, 1], [0, 1, 2], [], [], [], [5, 6], [5, 6, 7], [0, 1, 2, 3, 5, 6, 7, 8], [0, 1, 2, 3, 4, 5, 6, 7, 8, 9], [0, 1, 2, 3, 4, 5, 6, 7, 8, 9], [0, 1, 2, 3, 4, 5, 6, 7, 8, 9, 10, 11], [0, 1, 2, 3, 4, 5, 6, 7, 8, 9, 10, 11], [0, 1, 2, 3, 4, 5, 6, 7, 8, 9, 10, 11], [0, 1, 2, 3, 4, 5, 6, 7, 8, 9, 10, 11, 13, 14], [0, 1, 2, 3, 4, 5, 6, 7, 8, 9, 10, 11, 13, 14, 15], [0, 1, 2, 3, 4, 5, 6, 7, 8, 9, 10, 11], [0, 1, 2, 3, 4, 5, 6, 7, 8, 9, 10, 11], [0, 1, 2, 3, 4, 5, 6, 7, 8, 9, 10, 11], [0, 1, 2, 3, 4, 5, 6, 7, 8, 9, 10, 11, 18, 19], [0, 1, 2, 3, 4, 5, 6, 7, 8, 9, 10, 11, 18, 19, 20], [0, 1, 2, 3, 4, 5, 6, 7, 8, 9, 10, 11, 13, 14, 15, 16, 18, 19, 20, 21], [0, 1, 2, 3, 4, 5, 6, 7, 8, 9, 10, 11, 13, 14, 15, 16, 17, 18, 19, 20, 21, 22], [0, 1, 2, 3, 4, 5, 6, 7, 8, 9, 10, 11, 13, 14, 15, 16, 17, 18, 19, 20, 21, 22, 23]]) (an := [{}, {}, {}, {}, {}, {}, {}, {}, {}, {}, {}, {}, {}, {}, {}, {}, {}, {}, {}, {}, {}, {}, {}, {}, {}, {}]) rfl (by kernel_rfl) rfl fun K hK => ?_
      refine s_move rfl rfl rfl ?_
      refine s_move rfl rfl rfl ?_
      refine s_indexAddr rfl (x_m SP.dc rfl rfl rfl rfl hg rfl) rfl ?_
      refine s_fieldAddr rfl rfl rfl ?_
      refine s_load rfl rfl rfl ?_
      refine s_move rfl rfl rfl ?_
      refine s_move rfl rfl rfl ?_
      refine s_indexAddr rfl (x_m SP.dc rfl rfl rfl rfl hg' rfl) rfl ?_
      refine s_fieldAddr rfl rfl rfl ?_
      refine s_load rfl rfl rfl ?_
      refine s_call rfl rfl (bRat_c a[i].x b[i].x hai.1.1 hai.1.2) rfl rfl rfl rfl ?_
      refine s_un rfl rfl rfl ?_
      refine s_move rfl rfl rfl ?_
      refine s_split (fun hx => ?_) (fun hx => ?_)
      · have hx : a[i].x ≠ b[i].x := by simpa using hx
        refine s_skip rfl ?_
        refine s_skip rfl ?_
        refine s_skip rfl ?_
        refine s_skip rfl ?_
        refine s_skip rfl ?_
        refine s_skip rfl ?_
        refine s_skip rfl ?_
        refine s_skip rfl ?_
        refine s_skip rfl ?_
        refine s_skip rfl ?_
        refine s_skip rfl ?_
        refine s_skip rfl ?_
        refine s_pick rfl rfl rfl ?_
        refine s_end (hK _ ?_); clear hK K
        exact ⟨true, ⟨fun _ h => hx (by rw [h]), fun h => (by cases h)⟩, Wk.mk' ⟨rfl, rfl, rfl, rfl, trivial⟩ trivial⟩
      · have hx : a[i].x = b[i].x := by simpa using hx
        refine s_move rfl rfl rfl ?_
        refine s_move rfl rfl rfl ?_
        refine s_indexAddr rfl (x_m SP.dc rfl rfl rfl rfl hg rfl) rfl ?_
        refine s_fieldAddr rfl rfl rfl ?_
        refine s_load rfl rfl rfl ?_
        refine s_move rfl rfl rfl ?_
        refine s_move rfl rfl rfl ?_
        refine s_indexAddr rfl (x_m SP.dc rfl rfl rfl rfl hg' rfl) rfl ?_
        refine s_fieldAddr rfl rfl rfl ?_
        refine s_load rfl rfl rfl ?_
        refine s_call rfl rfl (bRat_c a[i].y b[i].y hai.2.1 hai.2.2) rfl rfl rfl rfl ?_
        refine s_un rfl rfl rfl ?_
        refine s_pick rfl rfl rfl ?_
        refine s_end (hK _ ?_); clear hK K
        refine ⟨_, ⟨fun h h' => ?_, fun h => ?_⟩, Wk.mk' ⟨rfl, rfl, rfl, rfl, trivial⟩ trivial⟩
        · rw [h'] at h; simp at h
        · exact (SP.eq_iff _ _).2 ⟨hx, by simpa using h⟩
    rintro c ⟨k1, k2⟩
    refine a_cond rfl (fun hd => ?_) (fun hd => ?_)
    · refine AWP_reg_seq tok fun K hK => ?_
      refine s_assign rfl rfl rfl ?_
      refine s_end (hK _ ?_); clear hK K
      refine AWP_ret ?_
      repeat (with_reducible refine tq_ret ?_)
      exact post_ret (fin_mk (by rfl) (by rfl) (by rw [decide_eq_false (fun h' => ne_of_get hg hg' (k1 hd) h')]; rfl))
    · have hd := k2 hd
      refine AWP_skip ?_
      show AWP _ _ _ _ _ _
      refine AWP_reg tok fun K hK => ?_
      refine s_move rfl rfl rfl ?_
      refine s_bin rfl (e_add (c := ((i + 1 : Nat) : Int)) (by omega) (by omega)) rfl ?_
      refine s_assign rfl rfl rfl ?_
      refine s_end (hK _ ?_); clear hK K
      exact ⟨i + 1, by omega, ⟨hg, take_eq_succ hg hg' ht hd⟩, Wk.mk' ⟨rfl, rfl, rfl, trivial⟩ trivial⟩
  · have hg : i = a.length := by simp at hg; omega
    subst hg
    refine AWP_exit ?_
    show AWP _ _ _ _ _ _
    refine AWP_reg_seq tok fun K hK => ?_
    refine s_assign rfl rfl rfl ?_
    refine s_end (hK _ ?_); clear hK K
    refine AWP_ret ?_
    repeat (with_reducible refine tq_ret ?_)
    exact post_ret (fin_mk (by rfl) (by rfl) (by rw [decide_eq_true (take_eq_all hl ht)]; rfl))

theorem bSize_c (n m : Int) (hm : -9223372036854775808 < m ∧ m ≤ 9223372036854775807) : Con Tryz.prog 62 [dI n, dI m] { v := dB (decide (-m ≤ n ∧ n ≤ m)) } := by
  have hw : IntKind.i64.wrap (0 - m) = -m := by rw [IntWalk.i64_in _ (by omega)]; omega
  refine con_intro (fn := Tryz.f62) tok Tryz.func62 (by kernel_rfl) rfl ?_
  intro w0 X
  rw [entry_mkE _ _ [(0, dI n), (1, dI m)] rfl rfl]
  refine AWP_reg_seq tok fun K hK => ?_
  refine s_assign rfl rfl rfl ?_
  refine s_end (hK _ ?_); clear hK K
  refine AWP_reg_seq tok fun K hK => ?_
  refine s_move rfl rfl rfl ?_
  refine s_move rfl rfl rfl ?_
  refine s_un rfl rfl rfl ?_
  refine s_bin rfl rfl rfl ?_
  refine s_move rfl rfl rfl ?_
  refine s_split (fun h => ?_) (fun h => ?_)
  · have h : -m ≤ n := by have := of_decide_eq_true h; rw [hw] at this; exact this
    refine s_move rfl rfl rfl ?_
    refine s_move rfl rfl rfl ?_
    refine s_bin rfl rfl rfl ?_
    refine s_pick rfl rfl rfl ?_
    refine s_assign rfl rfl rfl ?_
    refine s_end (hK _ ?_); clear hK K
    refine AWP_ret ?_
    repeat (with_reducible refine tq_ret ?_)
    exact post_ret (fin_mk (by rfl) (by rfl) (by rw [show decide (-m ≤ n ∧ n ≤ m) = decide (n ≤ m) from decide_eq_decide.2 ⟨fun k => k.2, fun k => ⟨h, k⟩⟩]; rfl))
  · have h : ¬ -m ≤ n := by have := of_decide_eq_false h; rw [hw] at this; exact this
    refine s_skip rfl ?_
    refine s_skip rfl ?_
    refine s_skip rfl ?_
    refine s_pick rfl rfl rfl ?_
    refine s_assign rfl rfl rfl ?_
    refine s_end (hK _ ?_); clear hK K
    refine AWP_ret ?_
    repeat (with_reducible refine tq_ret ?_)
    exact post_ret (fin_mk (by rfl) (by rfl) (by rw [decide_eq_false (fun k => h k.1)]; rfl))
end Go.Proofs.YtcafppnjemgkiaaGreat

/- Validity and sizes of graphs; comparisons of the reference. No condition. -/
namespace Go.Proofs.YtcafppnjemgkiaaGreat
attribute [local irreducible] lexA

def inR (n lo hi : Int) : Bool := decide (lo ≤ n ∧ n ≤ hi)
def stepB (x y w : Int) : Bool := inR x (-1048576) 1048576 && inR y (-1048576) 1048576 && inR w 1 1048576
def linkB (n : Nat) (l : LK) : Bool := inR l.f 0 ((n : Int) - 1) && inR l.t 0 ((n : Int) - 1) && !(l.f == l.t) && stepB l.x l.y l.w
def validB (g : GR) : Bool := decide (1 ≤ g.nodes.length ∧ g.nodes.length ≤ 16 ∧ g.links.length ≤ 48) && g.links.all (linkB g.nodes.length)
def LK.cs (l : LK) : List SC := [.d (lI l.f), .d (lI l.t), .d (lI l.x), .d (lI l.y), .d (lI l.w)]
theorem inR_true {n lo hi : Int} (h : inR n lo hi = true) : lo ≤ n ∧ n ≤ hi := of_decide_eq_true h
/-- A valid graph. -/
structure GV (g : GR) : Prop where
  n1 : 1 ≤ g.nodes.length
  n2 : g.nodes.length ≤ 16
  l : g.links.length ≤ 48
  lk : ∀ l ∈ g.links, linkB g.nodes.length l = true
theorem validB_iff {g : GR} : validB g = true ↔ GV g := by
  constructor
  · intro h
    rw [validB, Bool.and_eq_true, decide_eq_true_eq, List.all_eq_true] at h
    exact ⟨h.1.1, h.1.2.1, h.1.2.2, h.2⟩
  · intro h
    rw [validB, Bool.and_eq_true, decide_eq_true_eq, List.all_eq_true]
    exact ⟨⟨h.n1, h.n2, h.l⟩, h.lk⟩
/-- A valid link. -/
structure LV (n : Nat) (l : LK) : Prop where
  f : 0 ≤ l.f ∧ l.f < n
  t : 0 ≤ l.t ∧ l.t < n
  ne : l.f ≠ l.t
  x : -1048576 ≤ l.x ∧ l.x ≤ 1048576
  y : -1048576 ≤ l.y ∧ l.y ≤ 1048576
  w : 1 ≤ l.w ∧ l.w ≤ 1048576
theorem linkB_iff {n : Nat} {l : LK} : linkB n l = true ↔ LV n l := by
  constructor
  · intro h
    simp only [linkB, stepB, inR, Bool.and_eq_true, decide_eq_true_eq, Bool.not_eq_true', beq_eq_false_iff_ne] at h
    obtain ⟨⟨⟨h1, h2⟩, h3⟩, h4, h5⟩ := h
    exact ⟨⟨by omega, by omega⟩, ⟨by omega, by omega⟩, h3, h4.1, h4.2, h5⟩
  · rintro ⟨h1, h2, h3, h4, h5, h6⟩
    simp only [linkB, stepB, inR, Bool.and_eq_true, decide_eq_true_eq, Bool.not_eq_true', beq_eq_false_iff_ne]
    exact ⟨⟨⟨by omega, by omega⟩, h3⟩, ⟨h4, h5⟩, h6⟩

theorem within_c (n lo hi : Int) : Con Tryz.prog 34 [dI n, dI lo, dI hi] { v := dB (inR n lo hi) } := by
  refine con_intro (fn := Tryz.f34) tok Tryz.func34 (by kernel_rfl) rfl ?_
  intro w0 X
  rw [entry_mkE _ _ [(0, dI n), (1, dI lo), (2, dI hi)] rfl rfl]
  refine AWP_reg_seq tok fun K hK => ?_
  refine s_assign rfl rfl rfl ?_
  refine s_end (hK _ ?_); clear hK K
  refine AWP_reg_seq tok fun K hK => ?_
  refine s_move rfl rfl rfl ?_
  refine s_move rfl rfl rfl ?_
  refine s_bin rfl rfl rfl ?_
  refine s_move rfl rfl rfl ?_
  refine s_split (fun h0 => ?_) (fun h0 => ?_)
  · refine s_move rfl rfl rfl ?_
    refine s_move rfl rfl rfl ?_
    refine s_bin rfl rfl rfl ?_
    refine s_pick rfl rfl rfl ?_
    refine s_assign rfl rfl rfl ?_
    refine s_end (hK _ ?_); clear hK K
    refine AWP_ret ?_
    repeat (with_reducible refine tq_ret ?_)
    exact post_ret (fin_mk (by rfl) (by rfl) (by exact dB_eq (by simp at h0; simp only [inR]; simp [h0] <;> omega)))
  · refine s_skip rfl ?_
    refine s_skip rfl ?_
    refine s_skip rfl ?_
    refine s_pick rfl rfl rfl ?_
    refine s_assign rfl rfl rfl ?_
    refine s_end (hK _ ?_); clear hK K
    refine AWP_ret ?_
    repeat (with_reducible refine tq_ret ?_)
    exact post_ret (fin_mk (by rfl) (by rfl) (by exact dB_eq (by simp at h0; simp only [inR]; simp [h0] <;> omega)))

theorem step_c (x y w : Int) : Con Tryz.prog 38 [dI x, dI y, dI w] { v := dB (stepB x y w) } := by
  refine con_intro (fn := Tryz.f38) tok Tryz.func38 (by kernel_rfl) rfl ?_
  intro w0 X
  rw [entry_mkE _ _ [(0, dI x), (1, dI y), (2, dI w)] rfl rfl]
  refine AWP_reg_seq tok fun K hK => ?_
  refine s_assign rfl rfl rfl ?_
  refine s_end (hK _ ?_); clear hK K
  refine AWP_regW_seq fun K hK => ?_
  refine w_step tok rfl ?_
  refine s_move rfl rfl rfl ?_
  refine s_end ?_
  refine w_step tok rfl ?_
  refine s_call rfl rfl (within_c _ _ _) rfl rfl rfl rfl ?_
  refine s_end ?_
  refine w_step tok rfl ?_
  refine s_move rfl rfl rfl ?_
  refine s_end ?_
  refine w_split (fun h0 => ?_) (fun h0 => ?_)
  · refine w_step tok rfl ?_
    refine s_move rfl rfl rfl ?_
    refine s_end ?_
    refine w_step tok rfl ?_
    refine s_call rfl rfl (within_c _ _ _) rfl rfl rfl rfl ?_
    refine s_end ?_
    refine w_step tok rfl ?_
    refine s_pick rfl rfl rfl ?_
    refine s_end ?_
    refine w_step tok rfl ?_
    refine s_move rfl rfl rfl ?_
    refine s_end ?_
    refine w_split (fun h1 => ?_) (fun h1 => ?_)
    · refine w_step tok rfl ?_
      refine s_move rfl rfl rfl ?_
      refine s_end ?_
      refine w_step tok rfl ?_
      refine s_call rfl rfl (within_c _ _ _) rfl rfl rfl rfl ?_
      refine s_end ?_
      refine w_step tok rfl ?_
      refine s_pick rfl rfl rfl ?_
      refine s_end ?_
      refine w_step tok rfl ?_
      refine s_assign rfl rfl rfl ?_
      refine s_end ?_
      refine w_end rfl (hK _ ?_); clear hK K
      refine AWP_ret ?_
      repeat (with_reducible refine tq_ret ?_)
      exact post_ret (fin_mk (by rfl) (by rfl) (by exact dB_eq (by simp only [stepB, h0, h1, Bool.true_and, Bool.false_and])))
    · refine w_skip rfl rfl ?_
      refine w_skip rfl rfl ?_
      refine w_step tok rfl ?_
      refine s_pick rfl rfl rfl ?_
      refine s_end ?_
      refine w_step tok rfl ?_
      refine s_assign rfl rfl rfl ?_
      refine s_end ?_
      refine w_end rfl (hK _ ?_); clear hK K
      refine AWP_ret ?_
      repeat (with_reducible refine tq_ret ?_)
      exact post_ret (fin_mk (by rfl) (by rfl) (by exact dB_eq (by simp only [stepB, h0, h1, Bool.true_and, Bool.false_and])))
  · refine w_skip rfl rfl ?_
    refine w_skip rfl rfl ?_
    refine w_step tok rfl ?_
    refine s_pick rfl rfl rfl ?_
    refine s_end ?_
    refine w_step tok rfl ?_
    refine s_move rfl rfl rfl ?_
    refine s_end ?_
    refine w_skip rfl rfl ?_
    refine w_skip rfl rfl ?_
    refine w_step tok rfl ?_
    refine s_pick rfl rfl rfl ?_
    refine s_end ?_
    refine w_step tok rfl ?_
    refine s_assign rfl rfl rfl ?_
    refine s_end ?_
    refine w_end rfl (hK _ ?_); clear hK K
    refine AWP_ret ?_
    repeat (with_reducible refine tq_ret ?_)
    exact post_ret (fin_mk (by rfl) (by rfl) (by exact dB_eq (by simp only [stepB, h0, Bool.true_and, Bool.false_and])))

theorem gValid_c (g : GR) : Con Tryz.prog 12 [AG g.cs] { v := dB (validB g) } := by
  refine con_intro (fn := Tryz.f12) tok Tryz.func12 (by kernel_rfl) rfl ?_
  intro w0 X
  rw [entry_mkE _ _ [(0, AG g.cs)] rfl rfl]
  refine AWP_reg_seq tok fun K hK => ?_
  refine s_box rfl rfl rfl rfl rfl rfl ?_
  refine s_assign rfl rfl rfl ?_
  refine s_end (hK _ ?_); clear hK K
  refine AWP_reg_seq tok fun K hK => ?_
  refine s_fieldAddr rfl rfl rfl ?_
  refine s_load rfl rfl rfl ?_
  refine s_blt rfl (len_m RW.dc rfl rfl) rfl ?_
  refine s_assign rfl rfl rfl ?_
  refine s_end (hK _ ?_); clear hK K
  refine AWP_seq ?_
  refine a_join (α := Bool) (fun c => mk 60 [(1, .ptr 1 0), (3, dI g.nodes.length), (20, dB c)] [(1, some (.box g.cs))] []) (fun c => c = !decide (1 ≤ g.nodes.length ∧ g.nodes.length ≤ 16 ∧ g.links.length ≤ 48)) ?_ ?_
  · refine AWP_regW fun K hK => ?_
    refine w_step tok rfl ?_
    refine s_move rfl rfl rfl ?_
    refine s_end ?_
    refine w_step tok rfl ?_
    refine s_bin rfl rfl rfl ?_
    refine s_end ?_
    refine w_step tok rfl ?_
    refine s_move rfl rfl rfl ?_
    refine s_end ?_
    refine w_split (fun h0 => ?_) (fun h0 => ?_)
    · refine w_skip rfl rfl ?_
      refine w_skip rfl rfl ?_
      refine w_step tok rfl ?_
      refine s_pick rfl rfl rfl ?_
      refine s_end ?_
      refine w_step tok rfl ?_
      refine s_move rfl rfl rfl ?_
      refine s_end ?_
      refine w_skip rfl rfl ?_
      refine w_skip rfl rfl ?_
      refine w_skip rfl rfl ?_
      refine w_skip rfl rfl ?_
      refine w_step tok rfl ?_
      refine s_pick rfl rfl rfl ?_
      refine s_end ?_
      refine w_end rfl (hK _ ?_); clear hK K
      exact ⟨_, (by simp only [decide_eq_true_eq, decide_eq_false_iff_not] at h0; rw [Bool.eq_iff_iff]; simp only [Bool.not_eq_true', decide_eq_false_iff_not, decide_eq_true_eq, true_iff, iff_true]; omega), Wk.mk' ⟨rfl, rfl, rfl, trivial⟩ ⟨rfl, trivial⟩⟩
    · refine w_step tok rfl ?_
      refine s_move rfl rfl rfl ?_
      refine s_end ?_
      refine w_step tok rfl ?_
      refine s_bin rfl rfl rfl ?_
      refine s_end ?_
      refine w_step tok rfl ?_
      refine s_pick rfl rfl rfl ?_
      refine s_end ?_
      refine w_step tok rfl ?_
      refine s_move rfl rfl rfl ?_
      refine s_end ?_
      refine w_split (fun h1 => ?_) (fun h1 => ?_)
      · refine w_skip rfl rfl ?_
        refine w_skip rfl rfl ?_
        refine w_skip rfl rfl ?_
        refine w_skip rfl rfl ?_
        refine w_step tok rfl ?_
        refine s_pick rfl rfl rfl ?_
        refine s_end ?_
        refine w_end rfl (hK _ ?_); clear hK K
        exact ⟨_, (by simp only [decide_eq_true_eq, decide_eq_false_iff_not] at h0 h1; rw [Bool.eq_iff_iff]; simp only [Bool.not_eq_true', decide_eq_false_iff_not, decide_eq_true_eq, true_iff, iff_true]; omega), Wk.mk' ⟨rfl, rfl, rfl, trivial⟩ ⟨rfl, trivial⟩⟩
      · refine w_step tok rfl ?_
        refine s_fieldAddr rfl rfl rfl ?_
        refine s_end ?_
        refine w_step tok rfl ?_
        refine s_load rfl rfl rfl ?_
        refine s_end ?_
        refine w_step tok rfl ?_
        refine s_blt rfl (len_m LK.dc rfl rfl) rfl ?_
        refine s_end ?_
        refine w_step tok rfl ?_
        refine s_bin rfl rfl rfl ?_
        refine s_end ?_
        refine w_step tok rfl ?_
        refine s_pick rfl rfl rfl ?_
        refine s_end ?_
        refine w_end rfl (hK _ ?_); clear hK K
        exact ⟨_, (by simp only [decide_eq_true_eq, decide_eq_false_iff_not] at h0 h1; rw [Bool.eq_iff_iff]; simp only [Bool.not_eq_true', decide_eq_false_iff_not, decide_eq_true_eq, true_iff, iff_true]; omega), Wk.mk' ⟨rfl, rfl, rfl, trivial⟩ ⟨rfl, trivial⟩⟩
  rintro c rfl
  refine a_cond rfl (fun hc => ?_) (fun hc => ?_)
  · refine AWP_reg_seq tok fun K hK => ?_
    refine s_assign rfl rfl rfl ?_
    refine s_end (hK _ ?_); clear hK K
    refine AWP_ret ?_
    repeat (with_reducible refine tq_ret ?_)
    exact post_ret (fin_mk (by rfl) (by rfl) (by exact dB_eq (by rw [Bool.not_eq_true'] at hc; simp only [validB, hc, Bool.false_and])))
  have hc : 1 ≤ g.nodes.length ∧ g.nodes.length ≤ 16 ∧ g.links.length ≤ 48 := by simpa using hc
  refine AWP_skip ?_
  show AWP _ _ _ _ _ _
  refine AWP_seq ?_
  refine AWP_reg_seq tok fun K hK => ?_
  refine s_fieldAddr rfl rfl rfl ?_
  refine s_load rfl rfl rfl ?_
  refine s_blt rfl (len_m LK.dc rfl rfl) rfl ?_
  refine s_move rfl rfl rfl ?_
  refine s_end (hK _ ?_); clear hK K
  refine AWP_block (a_loop (α := Nat) (fun i => mk 60 [(3, dI g.nodes.length), (22, V1 (dLs g.links)), (23, dI g.links.length), (24, dI i)] [] []) (fun i => i ≤ g.links.length ∧ (g.links.take i).all (linkB g.nodes.length) = true) (fun i => g.links.length - i) 0 ?_ ⟨Nat.zero_le _, rfl⟩ ?_)
  · exact Wk.mk' ⟨rfl, rfl, rfl, rfl, trivial⟩ trivial
  rintro i ⟨hi, ht⟩
  refine AWP_reg_seq tok fun K hK => ?_
  refine s_bin rfl rfl rfl ?_
  refine s_end (hK _ ?_); clear hK K
  refine AWP_seq ?_
  refine a_cond rfl (fun hg => ?_) (fun hg => ?_)
  · have hg : i < g.links.length := by simp at hg; omega
    obtain ⟨l, hl⟩ : ∃ l, l = g.links[i] := ⟨_, rfl⟩
    refine AWP_skip ?_
    show AWP _ _ _ _ _ _
    refine AWP_seq ?_
    refine AWP_block ?_
    refine AWP_reg_seq tok fun K hK => ?_
    refine s_indexAddr rfl (x_m LK.dc rfl rfl rfl rfl hg rfl) rfl ?_
    refine s_load rfl rfl rfl ?_
    refine s_alloc rfl rfl rfl rfl rfl rfl ?_
    refine s_store rfl rfl rfl rfl rfl ?_
    refine s_end (hK _ ?_); clear hK K
    rw [← hl]
    refine a_join (α := Bool) (fun c => mk 60 [(3, dI g.nodes.length), (22, V1 (dLs g.links)), (23, dI g.links.length), (24, dI i), (58, dB c)] [] []) (fun c => c = !(linkB g.nodes.length l)) ?_ ?_
    · refine AWP_regW fun K hK => ?_
      refine w_step tok rfl ?_
      refine s_fieldAddr rfl rfl rfl ?_
      refine s_end ?_
      refine w_step tok rfl ?_
      refine s_load rfl rfl rfl ?_
      refine s_end ?_
      refine w_step tok rfl ?_
      refine s_move rfl rfl rfl ?_
      refine s_end ?_
      refine w_step tok rfl ?_
      refine s_bin rfl (e_sub rfl (by omega)) rfl ?_
      refine s_end ?_
      refine w_step tok rfl ?_
      refine s_call rfl rfl (within_c _ _ _) rfl rfl rfl rfl ?_
      refine s_end ?_
      refine w_step tok rfl ?_
      refine s_un rfl rfl rfl ?_
      refine s_end ?_
      refine w_step tok rfl ?_
      refine s_move rfl rfl rfl ?_
      refine s_end ?_
      refine w_split (fun h0 => ?_) (fun h0 => ?_)
      · refine w_skip rfl rfl ?_
        refine w_skip rfl rfl ?_
        refine w_skip rfl rfl ?_
        refine w_skip rfl rfl ?_
        refine w_skip rfl rfl ?_
        refine w_skip rfl rfl ?_
        refine w_step tok rfl ?_
        refine s_pick rfl rfl rfl ?_
        refine s_end ?_
        refine w_step tok rfl ?_
        refine s_move rfl rfl rfl ?_
        refine s_end ?_
        refine w_skip rfl rfl ?_
        refine w_skip rfl rfl ?_
        refine w_skip rfl rfl ?_
        refine w_skip rfl rfl ?_
        refine w_skip rfl rfl ?_
        refine w_step tok rfl ?_
        refine s_pick rfl rfl rfl ?_
        refine s_end ?_
        refine w_step tok rfl ?_
        refine s_move rfl rfl rfl ?_
        refine s_end ?_
        refine w_skip rfl rfl ?_
        refine w_skip rfl rfl ?_
        refine w_skip rfl rfl ?_
        refine w_skip rfl rfl ?_
        refine w_skip rfl rfl ?_
        refine w_skip rfl rfl ?_
        refine w_skip rfl rfl ?_
        refine w_skip rfl rfl ?_
        refine w_step tok rfl ?_
        refine s_pick rfl rfl rfl ?_
        refine s_end ?_
        refine w_end rfl (hK _ ?_); clear hK K
        exact ⟨_, (by simp only [Bool.not_eq_true', Bool.not_eq_false', Bool.not_eq_eq_eq_not, Bool.not_true, Bool.not_false] at h0; simp only [linkB, h0, Bool.true_and, Bool.false_and, Bool.not_true, Bool.not_false]), Wk.mk' ⟨rfl, rfl, rfl, rfl, rfl, trivial⟩ trivial⟩
      · refine w_step tok rfl ?_
        refine s_fieldAddr rfl rfl rfl ?_
        refine s_end ?_
        refine w_step tok rfl ?_
        refine s_load rfl rfl rfl ?_
        refine s_end ?_
        refine w_step tok rfl ?_
        refine s_move rfl rfl rfl ?_
        refine s_end ?_
        refine w_step tok rfl ?_
        refine s_bin rfl (e_sub rfl (by omega)) rfl ?_
        refine s_end ?_
        refine w_step tok rfl ?_
        refine s_call rfl rfl (within_c _ _ _) rfl rfl rfl rfl ?_
        refine s_end ?_
        refine w_step tok rfl ?_
        refine s_un rfl rfl rfl ?_
        refine s_end ?_
        refine w_step tok rfl ?_
        refine s_pick rfl rfl rfl ?_
        refine s_end ?_
        refine w_step tok rfl ?_
        refine s_move rfl rfl rfl ?_
        refine s_end ?_
        refine w_split (fun h1 => ?_) (fun h1 => ?_)
        · refine w_skip rfl rfl ?_
          refine w_skip rfl rfl ?_
          refine w_skip rfl rfl ?_
          refine w_skip rfl rfl ?_
          refine w_skip rfl rfl ?_
          refine w_step tok rfl ?_
          refine s_pick rfl rfl rfl ?_
          refine s_end ?_
          refine w_step tok rfl ?_
          refine s_move rfl rfl rfl ?_
          refine s_end ?_
          refine w_skip rfl rfl ?_
          refine w_skip rfl rfl ?_
          refine w_skip rfl rfl ?_
          refine w_skip rfl rfl ?_
          refine w_skip rfl rfl ?_
          refine w_skip rfl rfl ?_
          refine w_skip rfl rfl ?_
          refine w_skip rfl rfl ?_
          refine w_step tok rfl ?_
          refine s_pick rfl rfl rfl ?_
          refine s_end ?_
          refine w_end rfl (hK _ ?_); clear hK K
          exact ⟨_, (by simp only [Bool.not_eq_true', Bool.not_eq_false', Bool.not_eq_eq_eq_not, Bool.not_true, Bool.not_false] at h0 h1; simp only [linkB, h0, h1, Bool.true_and, Bool.false_and, Bool.not_true, Bool.not_false]), Wk.mk' ⟨rfl, rfl, rfl, rfl, rfl, trivial⟩ trivial⟩
        · refine w_step tok rfl ?_
          refine s_fieldAddr rfl rfl rfl ?_
          refine s_end ?_
          refine w_step tok rfl ?_
          refine s_load rfl rfl rfl ?_
          refine s_end ?_
          refine w_step tok rfl ?_
          refine s_fieldAddr rfl rfl rfl ?_
          refine s_end ?_
          refine w_step tok rfl ?_
          refine s_load rfl rfl rfl ?_
          refine s_end ?_
          refine w_step tok rfl ?_
          refine s_bin rfl rfl rfl ?_
          refine s_end ?_
          refine w_step tok rfl ?_
          refine s_pick rfl rfl rfl ?_
          refine s_end ?_
          refine w_step tok rfl ?_
          refine s_move rfl rfl rfl ?_
          refine s_end ?_
          refine w_split (fun h2 => ?_) (fun h2 => ?_)
          · refine w_skip rfl rfl ?_
            refine w_skip rfl rfl ?_
            refine w_skip rfl rfl ?_
            refine w_skip rfl rfl ?_
            refine w_skip rfl rfl ?_
            refine w_skip rfl rfl ?_
            refine w_skip rfl rfl ?_
            refine w_skip rfl rfl ?_
            refine w_step tok rfl ?_
            refine s_pick rfl rfl rfl ?_
            refine s_end ?_
            refine w_end rfl (hK _ ?_); clear hK K
            exact ⟨_, (by simp only [Bool.not_eq_true', Bool.not_eq_false', Bool.not_eq_eq_eq_not, Bool.not_true, Bool.not_false] at h0 h1 h2; simp only [linkB, h0, h1, h2, Bool.true_and, Bool.false_and, Bool.not_true, Bool.not_false]), Wk.mk' ⟨rfl, rfl, rfl, rfl, rfl, trivial⟩ trivial⟩
          · refine w_step tok rfl ?_
            refine s_fieldAddr rfl rfl rfl ?_
            refine s_end ?_
            refine w_step tok rfl ?_
            refine s_load rfl rfl rfl ?_
            refine s_end ?_
            refine w_step tok rfl ?_
            refine s_fieldAddr rfl rfl rfl ?_
            refine s_end ?_
            refine w_step tok rfl ?_
            refine s_load rfl rfl rfl ?_
            refine s_end ?_
            refine w_step tok rfl ?_
            refine s_fieldAddr rfl rfl rfl ?_
            refine s_end ?_
            refine w_step tok rfl ?_
            refine s_load rfl rfl rfl ?_
            refine s_end ?_
            refine w_step tok rfl ?_
            refine s_call rfl rfl (step_c _ _ _) rfl rfl rfl rfl ?_
            refine s_end ?_
            refine w_step tok rfl ?_
            refine s_un rfl rfl rfl ?_
            refine s_end ?_
            refine w_step tok rfl ?_
            refine s_pick rfl rfl rfl ?_
            refine s_end ?_
            refine w_end rfl (hK _ ?_); clear hK K
            exact ⟨_, (by simp only [Bool.not_eq_true', Bool.not_eq_false', Bool.not_eq_eq_eq_not, Bool.not_true, Bool.not_false] at h0 h1 h2; simp only [linkB, h0, h1, h2, Bool.true_and, Bool.false_and, Bool.not_true, Bool.not_false]), Wk.mk' ⟨rfl, rfl, rfl, rfl, rfl, trivial⟩ trivial⟩
    rintro c rfl
    refine a_cond rfl (fun hd => ?_) (fun hd => ?_)
    · refine AWP_reg_seq tok fun K hK => ?_
      refine s_assign rfl rfl rfl ?_
      refine s_end (hK _ ?_); clear hK K
      refine AWP_ret ?_
      repeat (with_reducible refine tq_ret ?_)
      exact post_ret (fin_mk (by rfl) (by rfl) (by exact dB_eq (by rw [Bool.not_eq_true'] at hd; simp only [validB]; rw [Bool.and_eq_false_iff]; right; rw [List.all_eq_false]; exact ⟨l, hl ▸ List.getElem_mem hg, by rw [hd]; simp⟩)))
    · refine AWP_skip ?_
      show AWP _ _ _ _ _ _
      refine AWP_reg tok fun K hK => ?_
      refine s_bin rfl (e_add rfl (by omega)) rfl ?_
      refine s_move rfl rfl rfl ?_
      refine s_end (hK _ ?_); clear hK K
      refine ⟨i + 1, by omega, ⟨hg, ?_⟩, Wk.mk' ⟨rfl, rfl, rfl, rfl, trivial⟩ trivial⟩
      rw [List.take_succ_eq_append_getElem hg, List.all_append, ht, ← hl]
      simpa using hd
  · have hg : i = g.links.length := by simp at hg; omega
    subst hg
    refine AWP_exit ?_
    show AWP _ _ _ _ _ _
    refine AWP_reg_seq tok fun K hK => ?_
    refine s_assign rfl rfl rfl ?_
    refine s_end (hK _ ?_); clear hK K
    refine AWP_ret ?_
    repeat (with_reducible refine tq_ret ?_)
    exact post_ret (fin_mk (by rfl) (by rfl) (by exact dB_eq (by rw [List.take_length] at ht; simp only [validB, ht, decide_eq_true hc, Bool.true_and])))
end Go.Proofs.YtcafppnjemgkiaaGreat

/- The reference's validity, sizes and comparisons of graphs. No condition. -/
namespace Go.Proofs.YtcafppnjemgkiaaGreat
attribute [local irreducible] lexA

theorem e_ne (a b : Int) : (a != b) = decide (a ≠ b) := by
  rw [Bool.eq_iff_iff]; simp
theorem r28link_c (l : LK) (n : Nat) : Con Tryz.prog 39 [AG l.cs, dI n] { v := dB (linkB n l) } := by
  have e : linkB n l = (decide (l.f ≥ 0) && decide (l.f < n) && decide (l.t ≥ 0) && decide (l.t < n) && decide (l.f ≠ l.t) && (inR l.x (-1048576) 1048576 && inR l.y (-1048576) 1048576 && decide (l.w ≥ 1) && decide (l.w ≤ 1048576))) := by
    rw [Bool.eq_iff_iff, linkB_iff]
    simp only [Bool.and_eq_true, decide_eq_true_eq, inR]
    constructor
    · rintro ⟨h1, h2, h3, h4, h5, h6⟩
      exact ⟨⟨⟨⟨⟨h1.1, h1.2⟩, h2.1⟩, h2.2⟩, h3⟩, ⟨⟨h4, h5⟩, h6.1⟩, h6.2⟩
    · rintro ⟨⟨⟨⟨⟨h1, h1'⟩, h2⟩, h2'⟩, h3⟩, ⟨⟨h4, h5⟩, h6⟩, h6'⟩
      exact ⟨⟨h1, h1'⟩, ⟨h2, h2'⟩, h3, h4, h5, h6, h6'⟩
  rw [e]
  refine con_intro (fn := Tryz.f39) tok Tryz.func39 (by kernel_rfl) rfl ?_
  intro w0 X
  rw [entry_mkE _ _ [(0, AG l.cs), (1, dI n)] rfl rfl]
  refine AWP_reg_seq tok fun K hK => ?_
  refine s_box rfl rfl rfl rfl rfl rfl ?_
  refine s_assign rfl rfl rfl ?_
  refine s_end (hK _ ?_); clear hK K
  refine a_join (α := Bool) (fun c => mk 54 [(2, .ptr 2 0), (5, dB c)] [(2, some (.box l.cs))] []) (fun c => c = (decide (l.f ≥ 0) && decide (l.f < n) && decide (l.t ≥ 0) && decide (l.t < n) && decide (l.f ≠ l.t))) ?_ ?_
  · refine AWP_regW fun K hK => ?_
    refine w_step tok rfl ?_
    refine s_fieldAddr rfl rfl rfl ?_
    refine s_end ?_
    refine w_step tok rfl ?_
    refine s_load rfl rfl rfl ?_
    refine s_end ?_
    refine w_step tok rfl ?_
    refine s_bin rfl rfl rfl ?_
    refine s_end ?_
    refine w_step tok rfl ?_
    refine s_move rfl rfl rfl ?_
    refine s_end ?_
    refine w_split (fun h0 => ?_) (fun h0 => ?_)
    · refine w_step tok rfl ?_
      refine s_fieldAddr rfl rfl rfl ?_
      refine s_end ?_
      refine w_step tok rfl ?_
      refine s_load rfl rfl rfl ?_
      refine s_end ?_
      refine w_step tok rfl ?_
      refine s_move rfl rfl rfl ?_
      refine s_end ?_
      refine w_step tok rfl ?_
      refine s_bin rfl rfl rfl ?_
      refine s_end ?_
      refine w_step tok rfl ?_
      refine s_pick rfl rfl rfl ?_
      refine s_end ?_
      refine w_step tok rfl ?_
      refine s_move rfl rfl rfl ?_
      refine s_end ?_
      refine w_split (fun h1 => ?_) (fun h1 => ?_)
      · refine w_step tok rfl ?_
        refine s_fieldAddr rfl rfl rfl ?_
        refine s_end ?_
        refine w_step tok rfl ?_
        refine s_load rfl rfl rfl ?_
        refine s_end ?_
        refine w_step tok rfl ?_
        refine s_bin rfl rfl rfl ?_
        refine s_end ?_
        refine w_step tok rfl ?_
        refine s_pick rfl rfl rfl ?_
        refine s_end ?_
        refine w_step tok rfl ?_
        refine s_move rfl rfl rfl ?_
        refine s_end ?_
        refine w_split (fun h2 => ?_) (fun h2 => ?_)
        · refine w_step tok rfl ?_
          refine s_fieldAddr rfl rfl rfl ?_
          refine s_end ?_
          refine w_step tok rfl ?_
          refine s_load rfl rfl rfl ?_
          refine s_end ?_
          refine w_step tok rfl ?_
          refine s_move rfl rfl rfl ?_
          refine s_end ?_
          refine w_step tok rfl ?_
          refine s_bin rfl rfl rfl ?_
          refine s_end ?_
          refine w_step tok rfl ?_
          refine s_pick rfl rfl rfl ?_
          refine s_end ?_
          refine w_step tok rfl ?_
          refine s_move rfl rfl rfl ?_
          refine s_end ?_
          refine w_split (fun h3 => ?_) (fun h3 => ?_)
          · refine w_step tok rfl ?_
            refine s_fieldAddr rfl rfl rfl ?_
            refine s_end ?_
            refine w_step tok rfl ?_
            refine s_load rfl rfl rfl ?_
            refine s_end ?_
            refine w_step tok rfl ?_
            refine s_fieldAddr rfl rfl rfl ?_
            refine s_end ?_
            refine w_step tok rfl ?_
            refine s_load rfl rfl rfl ?_
            refine s_end ?_
            refine w_step tok rfl ?_
            refine s_bin rfl rfl rfl ?_
            refine s_end ?_
            refine w_step tok rfl ?_
            refine s_pick rfl rfl rfl ?_
            refine s_end ?_
            refine w_step tok rfl ?_
            refine s_assign rfl rfl rfl ?_
            refine s_end ?_
            refine w_end rfl (hK _ ?_); clear hK K
            exact ⟨_, (by simp only [h0, h1, h2, h3, Bool.true_and, Bool.false_and, e_ne]), Wk.mk' ⟨rfl, rfl, trivial⟩ ⟨rfl, trivial⟩⟩
          · refine w_skip rfl rfl ?_
            refine w_skip rfl rfl ?_
            refine w_skip rfl rfl ?_
            refine w_skip rfl rfl ?_
            refine w_skip rfl rfl ?_
            refine w_step tok rfl ?_
            refine s_pick rfl rfl rfl ?_
            refine s_end ?_
            refine w_step tok rfl ?_
            refine s_assign rfl rfl rfl ?_
            refine s_end ?_
            refine w_end rfl (hK _ ?_); clear hK K
            exact ⟨_, (by simp only [h0, h1, h2, h3, Bool.true_and, Bool.false_and, e_ne]), Wk.mk' ⟨rfl, rfl, trivial⟩ ⟨rfl, trivial⟩⟩
        · refine w_skip rfl rfl ?_
          refine w_skip rfl rfl ?_
          refine w_skip rfl rfl ?_
          refine w_skip rfl rfl ?_
          refine w_step tok rfl ?_
          refine s_pick rfl rfl rfl ?_
          refine s_end ?_
          refine w_step tok rfl ?_
          refine s_move rfl rfl rfl ?_
          refine s_end ?_
          refine w_skip rfl rfl ?_
          refine w_skip rfl rfl ?_
          refine w_skip rfl rfl ?_
          refine w_skip rfl rfl ?_
          refine w_skip rfl rfl ?_
          refine w_step tok rfl ?_
          refine s_pick rfl rfl rfl ?_
          refine s_end ?_
          refine w_step tok rfl ?_
          refine s_assign rfl rfl rfl ?_
          refine s_end ?_
          refine w_end rfl (hK _ ?_); clear hK K
          exact ⟨_, (by simp only [h0, h1, h2, Bool.true_and, Bool.false_and, e_ne]), Wk.mk' ⟨rfl, rfl, trivial⟩ ⟨rfl, trivial⟩⟩
      · refine w_skip rfl rfl ?_
        refine w_skip rfl rfl ?_
        refine w_skip rfl rfl ?_
        refine w_step tok rfl ?_
        refine s_pick rfl rfl rfl ?_
        refine s_end ?_
        refine w_step tok rfl ?_
        refine s_move rfl rfl rfl ?_
        refine s_end ?_
        refine w_skip rfl rfl ?_
        refine w_skip rfl rfl ?_
        refine w_skip rfl rfl ?_
        refine w_skip rfl rfl ?_
        refine w_step tok rfl ?_
        refine s_pick rfl rfl rfl ?_
        refine s_end ?_
        refine w_step tok rfl ?_
        refine s_move rfl rfl rfl ?_
        refine s_end ?_
        refine w_skip rfl rfl ?_
        refine w_skip rfl rfl ?_
        refine w_skip rfl rfl ?_
        refine w_skip rfl rfl ?_
        refine w_skip rfl rfl ?_
        refine w_step tok rfl ?_
        refine s_pick rfl rfl rfl ?_
        refine s_end ?_
        refine w_step tok rfl ?_
        refine s_assign rfl rfl rfl ?_
        refine s_end ?_
        refine w_end rfl (hK _ ?_); clear hK K
        exact ⟨_, (by simp only [h0, h1, Bool.true_and, Bool.false_and, e_ne]), Wk.mk' ⟨rfl, rfl, trivial⟩ ⟨rfl, trivial⟩⟩
    · refine w_skip rfl rfl ?_
      refine w_skip rfl rfl ?_
      refine w_skip rfl rfl ?_
      refine w_skip rfl rfl ?_
      refine w_step tok rfl ?_
      refine s_pick rfl rfl rfl ?_
      refine s_end ?_
      refine w_step tok rfl ?_
      refine s_move rfl rfl rfl ?_
      refine s_end ?_
      refine w_skip rfl rfl ?_
      refine w_skip rfl rfl ?_
      refine w_skip rfl rfl ?_
      refine w_step tok rfl ?_
      refine s_pick rfl rfl rfl ?_
      refine s_end ?_
      refine w_step tok rfl ?_
      refine s_move rfl rfl rfl ?_
      refine s_end ?_
      refine w_skip rfl rfl ?_
      refine w_skip rfl rfl ?_
      refine w_skip rfl rfl ?_
      refine w_skip rfl rfl ?_
      refine w_step tok rfl ?_
      refine s_pick rfl rfl rfl ?_
      refine s_end ?_
      refine w_step tok rfl ?_
      refine s_move rfl rfl rfl ?_
      refine s_end ?_
      refine w_skip rfl rfl ?_
      refine w_skip rfl rfl ?_
      refine w_skip rfl rfl ?_
      refine w_skip rfl rfl ?_
      refine w_skip rfl rfl ?_
      refine w_step tok rfl ?_
      refine s_pick rfl rfl rfl ?_
      refine s_end ?_
      refine w_step tok rfl ?_
      refine s_assign rfl rfl rfl ?_
      refine s_end ?_
      refine w_end rfl (hK _ ?_); clear hK K
      exact ⟨_, (by simp only [h0, Bool.true_and, Bool.false_and, e_ne]), Wk.mk' ⟨rfl, rfl, trivial⟩ ⟨rfl, trivial⟩⟩
  rintro c rfl
  refine AWP_regW_seq fun K hK => ?_
  refine w_step tok rfl ?_
  refine s_move rfl rfl rfl ?_
  refine s_end ?_
  refine w_step tok rfl ?_
  refine s_move rfl rfl rfl ?_
  refine s_end ?_
  refine w_split (fun h0 => ?_) (fun h0 => ?_)
  · refine w_step tok rfl ?_
    refine s_fieldAddr rfl rfl rfl ?_
    refine s_end ?_
    refine w_step tok rfl ?_
    refine s_load rfl rfl rfl ?_
    refine s_end ?_
    refine w_step tok rfl ?_
    refine s_call rfl rfl (bSize_c l.x 1048576 ⟨by decide, by decide⟩) rfl rfl rfl rfl ?_
    refine s_end ?_
    refine w_step tok rfl ?_
    refine s_pick rfl rfl rfl ?_
    refine s_end ?_
    refine w_step tok rfl ?_
    refine s_move rfl rfl rfl ?_
    refine s_end ?_
    refine w_split (fun h1 => ?_) (fun h1 => ?_)
    · refine w_step tok rfl ?_
      refine s_fieldAddr rfl rfl rfl ?_
      refine s_end ?_
      refine w_step tok rfl ?_
      refine s_load rfl rfl rfl ?_
      refine s_end ?_
      refine w_step tok rfl ?_
      refine s_call rfl rfl (bSize_c l.y 1048576 ⟨by decide, by decide⟩) rfl rfl rfl rfl ?_
      refine s_end ?_
      refine w_step tok rfl ?_
      refine s_pick rfl rfl rfl ?_
      refine s_end ?_
      refine w_step tok rfl ?_
      refine s_move rfl rfl rfl ?_
      refine s_end ?_
      refine w_split (fun h2 => ?_) (fun h2 => ?_)
      · refine w_step tok rfl ?_
        refine s_fieldAddr rfl rfl rfl ?_
        refine s_end ?_
        refine w_step tok rfl ?_
        refine s_load rfl rfl rfl ?_
        refine s_end ?_
        refine w_step tok rfl ?_
        refine s_bin rfl rfl rfl ?_
        refine s_end ?_
        refine w_step tok rfl ?_
        refine s_pick rfl rfl rfl ?_
        refine s_end ?_
        refine w_step tok rfl ?_
        refine s_move rfl rfl rfl ?_
        refine s_end ?_
        refine w_split (fun h3 => ?_) (fun h3 => ?_)
        · refine w_step tok rfl ?_
          refine s_fieldAddr rfl rfl rfl ?_
          refine s_end ?_
          refine w_step tok rfl ?_
          refine s_load rfl rfl rfl ?_
          refine s_end ?_
          refine w_step tok rfl ?_
          refine s_bin rfl rfl rfl ?_
          refine s_end ?_
          refine w_step tok rfl ?_
          refine s_pick rfl rfl rfl ?_
          refine s_end ?_
          refine w_step tok rfl ?_
          refine s_assign rfl rfl rfl ?_
          refine s_end ?_
          refine w_end rfl (hK _ ?_); clear hK K
          refine AWP_ret ?_
          repeat (with_reducible refine tq_ret ?_)
          exact post_ret (fin_mk (by rfl) (by rfl) (by exact dB_eq (by simp only [inR] at h0 h1 h2 h3 ⊢; simp only [h0, h1, h2, h3, Bool.true_and, Bool.false_and])))
        · refine w_skip rfl rfl ?_
          refine w_skip rfl rfl ?_
          refine w_skip rfl rfl ?_
          refine w_step tok rfl ?_
          refine s_pick rfl rfl rfl ?_
          refine s_end ?_
          refine w_step tok rfl ?_
          refine s_assign rfl rfl rfl ?_
          refine s_end ?_
          refine w_end rfl (hK _ ?_); clear hK K
          refine AWP_ret ?_
          repeat (with_reducible refine tq_ret ?_)
          exact post_ret (fin_mk (by rfl) (by rfl) (by exact dB_eq (by simp only [inR] at h0 h1 h2 h3 ⊢; simp only [h0, h1, h2, h3, Bool.true_and, Bool.false_and])))
      · refine w_skip rfl rfl ?_
        refine w_skip rfl rfl ?_
        refine w_skip rfl rfl ?_
        refine w_step tok rfl ?_
        refine s_pick rfl rfl rfl ?_
        refine s_end ?_
        refine w_step tok rfl ?_
        refine s_move rfl rfl rfl ?_
        refine s_end ?_
        refine w_skip rfl rfl ?_
        refine w_skip rfl rfl ?_
        refine w_skip rfl rfl ?_
        refine w_step tok rfl ?_
        refine s_pick rfl rfl rfl ?_
        refine s_end ?_
        refine w_step tok rfl ?_
        refine s_assign rfl rfl rfl ?_
        refine s_end ?_
        refine w_end rfl (hK _ ?_); clear hK K
        refine AWP_ret ?_
        repeat (with_reducible refine tq_ret ?_)
        exact post_ret (fin_mk (by rfl) (by rfl) (by exact dB_eq (by simp only [inR] at h0 h1 h2 ⊢; simp only [h0, h1, h2, Bool.true_and, Bool.false_and])))
    · refine w_skip rfl rfl ?_
      refine w_skip rfl rfl ?_
      refine w_skip rfl rfl ?_
      refine w_step tok rfl ?_
      refine s_pick rfl rfl rfl ?_
      refine s_end ?_
      refine w_step tok rfl ?_
      refine s_move rfl rfl rfl ?_
      refine s_end ?_
      refine w_skip rfl rfl ?_
      refine w_skip rfl rfl ?_
      refine w_skip rfl rfl ?_
      refine w_step tok rfl ?_
      refine s_pick rfl rfl rfl ?_
      refine s_end ?_
      refine w_step tok rfl ?_
      refine s_move rfl rfl rfl ?_
      refine s_end ?_
      refine w_skip rfl rfl ?_
      refine w_skip rfl rfl ?_
      refine w_skip rfl rfl ?_
      refine w_step tok rfl ?_
      refine s_pick rfl rfl rfl ?_
      refine s_end ?_
      refine w_step tok rfl ?_
      refine s_assign rfl rfl rfl ?_
      refine s_end ?_
      refine w_end rfl (hK _ ?_); clear hK K
      refine AWP_ret ?_
      repeat (with_reducible refine tq_ret ?_)
      exact post_ret (fin_mk (by rfl) (by rfl) (by exact dB_eq (by simp only [inR] at h0 h1 ⊢; simp only [h0, h1, Bool.true_and, Bool.false_and])))
  · refine w_skip rfl rfl ?_
    refine w_skip rfl rfl ?_
    refine w_skip rfl rfl ?_
    refine w_step tok rfl ?_
    refine s_pick rfl rfl rfl ?_
    refine s_end ?_
    refine w_step tok rfl ?_
    refine s_move rfl rfl rfl ?_
    refine s_end ?_
    refine w_skip rfl rfl ?_
    refine w_skip rfl rfl ?_
    refine w_skip rfl rfl ?_
    refine w_step tok rfl ?_
    refine s_pick rfl rfl rfl ?_
    refine s_end ?_
    refine w_step tok rfl ?_
    refine s_move rfl rfl rfl ?_
    refine s_end ?_
    refine w_skip rfl rfl ?_
    refine w_skip rfl rfl ?_
    refine w_skip rfl rfl ?_
    refine w_step tok rfl ?_
    refine s_pick rfl rfl rfl ?_
    refine s_end ?_
    refine w_step tok rfl ?_
    refine s_move rfl rfl rfl ?_
    refine s_end ?_
    refine w_skip rfl rfl ?_
    refine w_skip rfl rfl ?_
    refine w_skip rfl rfl ?_
    refine w_step tok rfl ?_
    refine s_pick rfl rfl rfl ?_
    refine s_end ?_
    refine w_step tok rfl ?_
    refine s_assign rfl rfl rfl ?_
    refine s_end ?_
    refine w_end rfl (hK _ ?_); clear hK K
    refine AWP_ret ?_
    repeat (with_reducible refine tq_ret ?_)
    exact post_ret (fin_mk (by rfl) (by rfl) (by exact dB_eq (by simp only [inR] at h0 ⊢; simp only [h0, Bool.true_and, Bool.false_and])))

theorem r28Valid_c (g : GR) (hm : g.links.length ≤ 9223372036854775806) : Con Tryz.prog 13 [AG g.cs] { v := dB (validB g) } := by
  refine con_intro (fn := Tryz.f13) tok Tryz.func13 (by kernel_rfl) rfl ?_
  intro w0 X
  rw [entry_mkE _ _ [(0, AG g.cs)] rfl rfl]
  refine AWP_reg_seq tok fun K hK => ?_
  refine s_box rfl rfl rfl rfl rfl rfl ?_
  refine s_assign rfl rfl rfl ?_
  refine s_end (hK _ ?_); clear hK K
  refine AWP_seq ?_
  refine AWP_reg_seq tok fun K hK => ?_
  refine s_assign rfl rfl rfl ?_
  refine s_end (hK _ ?_); clear hK K
  refine AWP_block (a_loop (α := Nat) (fun i => mk 37 [(1, .ptr 1 0), (3, dI i)] [(1, some (.box g.cs))] []) (fun i => i ≤ g.links.length ∧ (g.links.take i).all (linkB g.nodes.length) = true) (fun i => g.links.length - i) 0 ?_ ⟨Nat.zero_le _, rfl⟩ ?_)
  · exact Wk.mk' ⟨rfl, rfl, trivial⟩ ⟨rfl, trivial⟩
  rintro i ⟨hi, ht⟩
  refine AWP_seq ?_
  refine AWP_reg_seq tok fun K hK => ?_
  refine s_move rfl rfl rfl ?_
  refine s_fieldAddr rfl rfl rfl ?_
  refine s_load rfl rfl rfl ?_
  refine s_blt rfl (len_m LK.dc rfl rfl) rfl ?_
  refine s_bin rfl rfl rfl ?_
  refine s_end (hK _ ?_); clear hK K
  refine a_cond rfl (fun hg => ?_) (fun hg => ?_)
  · have hg : i < g.links.length := by simp at hg; omega
    obtain ⟨l, hl⟩ : ∃ l, l = g.links[i] := ⟨_, rfl⟩
    refine AWP_skip ?_
    show AWP _ _ _ _ _ _
    refine AWP_seq ?_
    refine AWP_block ?_
    refine a_draw tok mixed (A := [[], [], [], [0], [0, 1, 2], [], [], [5], [0, 1, 2, 3, 5, 6], [0, 1, 2, 3, 4, 5, 6, 7]]) (an := [{}, {}, {}, {}, {}, {}, {}, {}, {}, {}]) rfl (by kernel_rfl) rfl fun K hK => ?_
    refine s_fieldAddr rfl rfl rfl ?_
    refine s_load rfl rfl rfl ?_
    refine s_move rfl rfl rfl ?_
    refine s_indexAddr rfl (x_m LK.dc rfl rfl rfl rfl hg rfl) rfl ?_
    refine s_load rfl rfl rfl ?_
    refine s_fieldAddr rfl rfl rfl ?_
    refine s_load rfl rfl rfl ?_
    refine s_blt rfl (len_m RW.dc rfl rfl) rfl ?_
    refine s_call rfl rfl (r28link_c g.links[i] _) rfl rfl rfl rfl ?_
    refine s_un rfl rfl rfl ?_
    refine s_end (hK _ ?_); clear hK K
    rw [← hl]
    refine a_cond rfl (fun hd => ?_) (fun hd => ?_)
    · refine AWP_reg_seq tok fun K hK => ?_
      refine s_assign rfl rfl rfl ?_
      refine s_end (hK _ ?_); clear hK K
      refine AWP_ret ?_
      repeat (with_reducible refine tq_ret ?_)
      exact post_ret (fin_mk (by rfl) (by rfl) (by exact dB_eq (by rw [Bool.not_eq_true'] at hd; simp only [validB]; rw [Bool.and_eq_false_iff]; right; rw [List.all_eq_false]; exact ⟨l, hl ▸ List.getElem_mem hg, by rw [hd]; simp⟩)))
    · refine AWP_skip ?_
      show AWP _ _ _ _ _ _
      refine AWP_reg tok fun K hK => ?_
      refine s_move rfl rfl rfl ?_
      refine s_bin rfl (e_add rfl (by omega)) rfl ?_
      refine s_assign rfl rfl rfl ?_
      refine s_end (hK _ ?_); clear hK K
      refine ⟨i + 1, by omega, ⟨hg, ?_⟩, Wk.mk' ⟨rfl, rfl, trivial⟩ ⟨rfl, trivial⟩⟩
      rw [List.take_succ_eq_append_getElem hg, List.all_append, ht, ← hl]
      simpa using hd
  · have hg : i = g.links.length := by simp at hg; omega
    subst hg
    refine AWP_exit ?_
    show AWP _ _ _ _ _ _
    rw [List.take_length] at ht
    have e : validB g = (decide (((g.nodes.length : Int)) ≥ 1) && decide (((g.nodes.length : Int)) ≤ 16) && decide (((g.links.length : Int)) ≤ 48)) := by
      rw [Bool.eq_iff_iff]
      simp only [validB, ht, Bool.and_true, Bool.and_eq_true, decide_eq_true_eq]
      omega
    rw [e]
    refine AWP_regW_seq fun K hK => ?_
    refine w_step tok rfl ?_
    refine s_fieldAddr rfl rfl rfl ?_
    refine s_end ?_
    refine w_step tok rfl ?_
    refine s_load rfl rfl rfl ?_
    refine s_end ?_
    refine w_step tok rfl ?_
    refine s_blt rfl (len_m RW.dc rfl rfl) rfl ?_
    refine s_end ?_
    refine w_step tok rfl ?_
    refine s_bin rfl rfl rfl ?_
    refine s_end ?_
    refine w_step tok rfl ?_
    refine s_move rfl rfl rfl ?_
    refine s_end ?_
    refine w_split (fun h0 => ?_) (fun h0 => ?_)
    · refine w_step tok rfl ?_
      refine s_fieldAddr rfl rfl rfl ?_
      refine s_end ?_
      refine w_step tok rfl ?_
      refine s_load rfl rfl rfl ?_
      refine s_end ?_
      refine w_step tok rfl ?_
      refine s_blt rfl (len_m RW.dc rfl rfl) rfl ?_
      refine s_end ?_
      refine w_step tok rfl ?_
      refine s_bin rfl rfl rfl ?_
      refine s_end ?_
      refine w_step tok rfl ?_
      refine s_pick rfl rfl rfl ?_
      refine s_end ?_
      refine w_step tok rfl ?_
      refine s_move rfl rfl rfl ?_
      refine s_end ?_
      refine w_split (fun h1 => ?_) (fun h1 => ?_)
      · refine w_step tok rfl ?_
        refine s_fieldAddr rfl rfl rfl ?_
        refine s_end ?_
        refine w_step tok rfl ?_
        refine s_load rfl rfl rfl ?_
        refine s_end ?_
        refine w_step tok rfl ?_
        refine s_blt rfl (len_m LK.dc rfl rfl) rfl ?_
        refine s_end ?_
        refine w_step tok rfl ?_
        refine s_bin rfl rfl rfl ?_
        refine s_end ?_
        refine w_step tok rfl ?_
        refine s_pick rfl rfl rfl ?_
        refine s_end ?_
        refine w_step tok rfl ?_
        refine s_assign rfl rfl rfl ?_
        refine s_end ?_
        refine w_end rfl (hK _ ?_); clear hK K
        refine AWP_ret ?_
        repeat (with_reducible refine tq_ret ?_)
        exact post_ret (fin_mk (by rfl) (by rfl) (by exact dB_eq (by simp only [h0, h1, Bool.true_and, Bool.false_and])))
      · refine w_skip rfl rfl ?_
        refine w_skip rfl rfl ?_
        refine w_skip rfl rfl ?_
        refine w_skip rfl rfl ?_
        refine w_step tok rfl ?_
        refine s_pick rfl rfl rfl ?_
        refine s_end ?_
        refine w_step tok rfl ?_
        refine s_assign rfl rfl rfl ?_
        refine s_end ?_
        refine w_end rfl (hK _ ?_); clear hK K
        refine AWP_ret ?_
        repeat (with_reducible refine tq_ret ?_)
        exact post_ret (fin_mk (by rfl) (by rfl) (by exact dB_eq (by simp only [h0, h1, Bool.true_and, Bool.false_and])))
    · refine w_skip rfl rfl ?_
      refine w_skip rfl rfl ?_
      refine w_skip rfl rfl ?_
      refine w_skip rfl rfl ?_
      refine w_step tok rfl ?_
      refine s_pick rfl rfl rfl ?_
      refine s_end ?_
      refine w_step tok rfl ?_
      refine s_move rfl rfl rfl ?_
      refine s_end ?_
      refine w_skip rfl rfl ?_
      refine w_skip rfl rfl ?_
      refine w_skip rfl rfl ?_
      refine w_skip rfl rfl ?_
      refine w_step tok rfl ?_
      refine s_pick rfl rfl rfl ?_
      refine s_end ?_
      refine w_step tok rfl ?_
      refine s_assign rfl rfl rfl ?_
      refine s_end ?_
      refine w_end rfl (hK _ ?_); clear hK K
      refine AWP_ret ?_
      repeat (with_reducible refine tq_ret ?_)
      exact post_ret (fin_mk (by rfl) (by rfl) (by exact dB_eq (by simp only [h0, Bool.true_and, Bool.false_and])))

theorem r28short_c (na nb : Bool) (wa wb : List Nat) : Con Tryz.prog 32 [AG (IC na wa), AG (IC nb wb)] { v := dB (decide (wa.length ≤ 2 ∧ wb.length ≤ 2)) } := by
  refine con_intro (fn := Tryz.f32) tok Tryz.func32 (by kernel_rfl) rfl ?_
  intro w0 X
  rw [entry_mkE _ _ [(0, AG (IC na wa)), (1, AG (IC nb wb))] rfl rfl]
  refine AWP_reg_seq tok fun K hK => ?_
  refine s_box rfl rfl rfl rfl rfl rfl ?_
  refine s_box rfl rfl rfl rfl rfl rfl ?_
  refine s_assign rfl rfl rfl ?_
  refine s_end (hK _ ?_); clear hK K
  refine AWP_regW_seq fun K hK => ?_
  refine w_step tok rfl ?_
  refine s_fieldAddr rfl rfl rfl ?_
  refine s_end ?_
  refine w_step tok rfl ?_
  refine s_load rfl rfl rfl ?_
  refine s_end ?_
  refine w_step tok rfl ?_
  refine s_blt rfl (len_w rfl rfl rfl) rfl ?_
  refine s_end ?_
  refine w_step tok rfl ?_
  refine s_bin rfl rfl rfl ?_
  refine s_end ?_
  refine w_step tok rfl ?_
  refine s_move rfl rfl rfl ?_
  refine s_end ?_
  refine w_split (fun h0 => ?_) (fun h0 => ?_)
  · refine w_step tok rfl ?_
    refine s_fieldAddr rfl rfl rfl ?_
    refine s_end ?_
    refine w_step tok rfl ?_
    refine s_load rfl rfl rfl ?_
    refine s_end ?_
    refine w_step tok rfl ?_
    refine s_blt rfl (len_w rfl rfl rfl) rfl ?_
    refine s_end ?_
    refine w_step tok rfl ?_
    refine s_bin rfl rfl rfl ?_
    refine s_end ?_
    refine w_step tok rfl ?_
    refine s_pick rfl rfl rfl ?_
    refine s_end ?_
    refine w_step tok rfl ?_
    refine s_assign rfl rfl rfl ?_
    refine s_end ?_
    refine w_end rfl (hK _ ?_); clear hK K
    refine AWP_ret ?_
    repeat (with_reducible refine tq_ret ?_)
    exact post_ret (fin_mk (by rfl) (by rfl) (by exact dB_eq (by simp only [decide_eq_true_eq, decide_eq_false_iff_not] at h0; rw [Bool.eq_iff_iff]; simp only [decide_eq_true_eq, reduceCtorEq, iff_false]; omega)))
  · refine w_skip rfl rfl ?_
    refine w_skip rfl rfl ?_
    refine w_skip rfl rfl ?_
    refine w_skip rfl rfl ?_
    refine w_step tok rfl ?_
    refine s_pick rfl rfl rfl ?_
    refine s_end ?_
    refine w_step tok rfl ?_
    refine s_assign rfl rfl rfl ?_
    refine s_end ?_
    refine w_end rfl (hK _ ?_); clear hK K
    refine AWP_ret ?_
    repeat (with_reducible refine tq_ret ?_)
    exact post_ret (fin_mk (by rfl) (by rfl) (by exact dB_eq (by simp only [decide_eq_true_eq, decide_eq_false_iff_not] at h0; rw [Bool.eq_iff_iff]; simp only [decide_eq_true_eq, reduceCtorEq, iff_false]; omega)))

def shR (r : RW) : Bool := decide (r.wp.length ≤ 2 ∧ r.wq.length ≤ 2)
def fewB (g : GR) : Bool := (g.nodes.take 20).all shR && decide (g.nodes.length ≤ 18 ∧ g.links.length ≤ 50)
def fewS (s : List SP) : Bool := (s.take 20).all (fun p => shR p.x && shR p.y) && decide (s.length ≤ 18)

theorem few_c (g : GR) : Con Tryz.prog 7 [AG g.cs] { v := dB (fewB g) } := by
  refine con_intro (fn := Tryz.f7) tok Tryz.func7 (by kernel_rfl) rfl ?_
  intro w0 X
  rw [entry_mkE _ _ [(0, AG g.cs)] rfl rfl]
  refine AWP_reg_seq tok fun K hK => ?_
  refine s_box rfl rfl rfl rfl rfl rfl ?_
  refine s_assign rfl rfl rfl ?_
  refine s_end (hK _ ?_); clear hK K
  refine AWP_seq ?_
  refine AWP_reg_seq tok fun K hK => ?_
  refine s_assign rfl rfl rfl ?_
  refine s_end (hK _ ?_); clear hK K
  refine AWP_block (a_loop (α := Nat) (fun i => mk 39 [(1, .ptr 1 0), (3, dI i)] [(1, some (.box g.cs))] []) (fun i => i ≤ g.nodes.length ∧ i ≤ 20 ∧ (g.nodes.take i).all shR = true) (fun i => 20 - i) 0 ?_ ⟨Nat.zero_le _, Nat.zero_le _, rfl⟩ ?_)
  · exact Wk.mk' ⟨rfl, rfl, trivial⟩ ⟨rfl, trivial⟩
  rintro i ⟨hi, h20, ht⟩
  refine AWP_seq ?_
  refine a_join (α := Bool) (fun c => mk 39 [(1, .ptr 1 0), (3, dI i), (12, dB c)] [(1, some (.box g.cs))] []) (fun c => c = decide (i < g.nodes.length ∧ i < 20)) ?_ ?_
  · refine AWP_regW fun K hK => ?_
    refine w_step tok rfl ?_
    refine s_move rfl rfl rfl ?_
    refine s_end ?_
    refine w_step tok rfl ?_
    refine s_fieldAddr rfl rfl rfl ?_
    refine s_end ?_
    refine w_step tok rfl ?_
    refine s_load rfl rfl rfl ?_
    refine s_end ?_
    refine w_step tok rfl ?_
    refine s_blt rfl (len_m RW.dc rfl rfl) rfl ?_
    refine s_end ?_
    refine w_step tok rfl ?_
    refine s_bin rfl rfl rfl ?_
    refine s_end ?_
    refine w_step tok rfl ?_
    refine s_move rfl rfl rfl ?_
    refine s_end ?_
    refine w_split (fun h0 => ?_) (fun h0 => ?_)
    · refine w_step tok rfl ?_
      refine s_move rfl rfl rfl ?_
      refine s_end ?_
      refine w_step tok rfl ?_
      refine s_bin rfl rfl rfl ?_
      refine s_end ?_
      refine w_step tok rfl ?_
      refine s_pick rfl rfl rfl ?_
      refine s_end ?_
      refine w_end rfl (hK _ ?_); clear hK K
      exact ⟨_, (by simp only [decide_eq_true_eq, decide_eq_false_iff_not] at h0; rw [Bool.eq_iff_iff]; simp only [decide_eq_true_eq, reduceCtorEq, false_iff]; omega), Wk.mk' ⟨rfl, rfl, rfl, trivial⟩ ⟨rfl, trivial⟩⟩
    · refine w_skip rfl rfl ?_
      refine w_skip rfl rfl ?_
      refine w_step tok rfl ?_
      refine s_pick rfl rfl rfl ?_
      refine s_end ?_
      refine w_end rfl (hK _ ?_); clear hK K
      exact ⟨_, (by simp only [decide_eq_true_eq, decide_eq_false_iff_not] at h0; rw [Bool.eq_iff_iff]; simp only [decide_eq_true_eq, reduceCtorEq, false_iff]; omega), Wk.mk' ⟨rfl, rfl, rfl, trivial⟩ ⟨rfl, trivial⟩⟩
  rintro c rfl
  refine a_cond rfl (fun hg => ?_) (fun hg => ?_)
  · have hg : i < g.nodes.length ∧ i < 20 := by simpa using hg
    obtain ⟨hg, hg2⟩ := hg
    obtain ⟨r, hr⟩ : ∃ r, r = g.nodes[i] := ⟨_, rfl⟩
    refine AWP_skip ?_
    show AWP _ _ _ _ _ _
    refine AWP_seq ?_
    refine AWP_block ?_
    refine a_draw tok mixed (A := [[], [], [], [0], [0, 1, 2], [0, 1, 2, 3], [], [], [], [6], [6, 7, 8], [6, 7, 8, 9], [0, 1, 2, 3, 4, 6, 7, 8, 9, 10], [0, 1, 2, 3, 4, 5, 6, 7, 8, 9, 10, 11]]) (an := [{}, {}, {}, {}, {}, {}, {}, {}, {}, {}, {}, {}, {}, {}]) rfl (by kernel_rfl) rfl fun K hK => ?_
    refine s_fieldAddr rfl rfl rfl ?_
    refine s_load rfl rfl rfl ?_
    refine s_move rfl rfl rfl ?_
    refine s_indexAddr rfl (x_m RW.dc rfl rfl rfl rfl hg rfl) rfl ?_
    refine s_fieldAddr rfl rfl rfl ?_
    refine s_load rfl rfl rfl ?_
    refine s_fieldAddr rfl rfl rfl ?_
    refine s_load rfl rfl rfl ?_
    refine s_move rfl rfl rfl ?_
    refine s_indexAddr rfl (x_m RW.dc rfl rfl rfl rfl hg rfl) rfl ?_
    refine s_fieldAddr rfl rfl rfl ?_
    refine s_load rfl rfl rfl ?_
    refine s_call rfl rfl (r28short_c g.nodes[i].np g.nodes[i].nq g.nodes[i].wp g.nodes[i].wq) rfl rfl rfl rfl ?_
    refine s_un rfl rfl rfl ?_
    refine s_end (hK _ ?_); clear hK K
    rw [← hr]
    refine a_cond rfl (fun hd => ?_) (fun hd => ?_)
    · refine AWP_reg_seq tok fun K hK => ?_
      refine s_assign rfl rfl rfl ?_
      refine s_end (hK _ ?_); clear hK K
      refine AWP_ret ?_
      repeat (with_reducible refine tq_ret ?_)
      exact post_ret (fin_mk (by rfl) (by rfl) (by exact dB_eq (by rw [Bool.not_eq_true'] at hd; simp only [fewB]; rw [Bool.and_eq_false_iff]; left; rw [List.all_eq_false]; exact ⟨r, by rw [hr]; exact List.mem_take_iff_getElem.2 ⟨i, by omega, rfl⟩, by rw [shR, hd]; simp⟩)))
    · refine AWP_skip ?_
      show AWP _ _ _ _ _ _
      refine AWP_reg tok fun K hK => ?_
      refine s_move rfl rfl rfl ?_
      refine s_bin rfl (e_add rfl (by omega)) rfl ?_
      refine s_assign rfl rfl rfl ?_
      refine s_end (hK _ ?_); clear hK K
      refine ⟨i + 1, by omega, ⟨hg, hg2, ?_⟩, Wk.mk' ⟨rfl, rfl, trivial⟩ ⟨rfl, trivial⟩⟩
      rw [List.take_succ_eq_append_getElem hg, List.all_append, ht, ← hr]
      simpa [shR] using hd
  · have hg : ¬ (i < g.nodes.length ∧ i < 20) := by simpa using hg
    refine AWP_exit ?_
    show AWP _ _ _ _ _ _
    have e : fewB g = decide (g.nodes.length ≤ 18 ∧ g.links.length ≤ 50) := by
      have : g.nodes.take 20 = g.nodes.take i := by
        by_cases h : i < 20
        · rw [List.take_of_length_le (by omega), List.take_of_length_le (by omega)]
        · have : i = 20 := by omega
          rw [this]
      rw [fewB, this, ht, Bool.true_and]
    rw [e]
    refine AWP_regW_seq fun K hK => ?_
    refine w_step tok rfl ?_
    refine s_fieldAddr rfl rfl rfl ?_
    refine s_end ?_
    refine w_step tok rfl ?_
    refine s_load rfl rfl rfl ?_
    refine s_end ?_
    refine w_step tok rfl ?_
    refine s_blt rfl (len_m RW.dc rfl rfl) rfl ?_
    refine s_end ?_
    refine w_step tok rfl ?_
    refine s_bin rfl rfl rfl ?_
    refine s_end ?_
    refine w_step tok rfl ?_
    refine s_move rfl rfl rfl ?_
    refine s_end ?_
    refine w_split (fun h0 => ?_) (fun h0 => ?_)
    · refine w_step tok rfl ?_
      refine s_fieldAddr rfl rfl rfl ?_
      refine s_end ?_
      refine w_step tok rfl ?_
      refine s_load rfl rfl rfl ?_
      refine s_end ?_
      refine w_step tok rfl ?_
      refine s_blt rfl (len_m LK.dc rfl rfl) rfl ?_
      refine s_end ?_
      refine w_step tok rfl ?_
      refine s_bin rfl rfl rfl ?_
      refine s_end ?_
      refine w_step tok rfl ?_
      refine s_pick rfl rfl rfl ?_
      refine s_end ?_
      refine w_step tok rfl ?_
      refine s_assign rfl rfl rfl ?_
      refine s_end ?_
      refine w_end rfl (hK _ ?_); clear hK K
      refine AWP_ret ?_
      repeat (with_reducible refine tq_ret ?_)
      exact post_ret (fin_mk (by rfl) (by rfl) (by exact dB_eq (by simp only [decide_eq_true_eq, decide_eq_false_iff_not] at h0; rw [Bool.eq_iff_iff]; simp only [decide_eq_true_eq, reduceCtorEq, iff_false]; omega)))
    · refine w_skip rfl rfl ?_
      refine w_skip rfl rfl ?_
      refine w_skip rfl rfl ?_
      refine w_skip rfl rfl ?_
      refine w_step tok rfl ?_
      refine s_pick rfl rfl rfl ?_
      refine s_end ?_
      refine w_step tok rfl ?_
      refine s_assign rfl rfl rfl ?_
      refine s_end ?_
      refine w_end rfl (hK _ ?_); clear hK K
      refine AWP_ret ?_
      repeat (with_reducible refine tq_ret ?_)
      exact post_ret (fin_mk (by rfl) (by rfl) (by exact dB_eq (by simp only [decide_eq_true_eq, decide_eq_false_iff_not] at h0; rw [Bool.eq_iff_iff]; simp only [decide_eq_true_eq, reduceCtorEq, iff_false]; omega)))

theorem fewS_c (s : List SP) : Con Tryz.prog 20 [V1 (dSs s)] { v := dB (fewS s) } := by
  refine con_intro (fn := Tryz.f20) tok Tryz.func20 (by kernel_rfl) rfl ?_
  intro w0 X
  rw [entry_mkE _ _ [(0, V1 (dSs s))] rfl rfl]
  refine AWP_reg_seq tok fun K hK => ?_
  refine s_assign rfl rfl rfl ?_
  refine s_end (hK _ ?_); clear hK K
  refine AWP_seq ?_
  refine AWP_reg_seq tok fun K hK => ?_
  refine s_assign rfl rfl rfl ?_
  refine s_end (hK _ ?_); clear hK K
  refine AWP_block (a_loop (α := Nat) (fun i => mk 47 [(0, V1 (dSs s)), (3, dI i)] [] []) (fun i => i ≤ s.length ∧ i ≤ 20 ∧ (s.take i).all (fun p => shR p.x && shR p.y) = true) (fun i => 20 - i) 0 ?_ ⟨Nat.zero_le _, Nat.zero_le _, rfl⟩ ?_)
  · exact Wk.mk' ⟨rfl, rfl, trivial⟩ trivial
  rintro i ⟨hi, h20, ht⟩
  refine AWP_seq ?_
  refine a_join (α := Bool) (fun c => mk 47 [(0, V1 (dSs s)), (3, dI i), (11, dB c)] [] []) (fun c => c = decide (i < s.length ∧ i < 20)) ?_ ?_
  · refine AWP_regW fun K hK => ?_
    refine w_step tok rfl ?_
    refine s_move rfl rfl rfl ?_
    refine s_end ?_
    refine w_step tok rfl ?_
    refine s_move rfl rfl rfl ?_
    refine s_end ?_
    refine w_step tok rfl ?_
    refine s_blt rfl (len_m SP.dc rfl rfl) rfl ?_
    refine s_end ?_
    refine w_step tok rfl ?_
    refine s_bin rfl rfl rfl ?_
    refine s_end ?_
    refine w_step tok rfl ?_
    refine s_move rfl rfl rfl ?_
    refine s_end ?_
    refine w_split (fun h0 => ?_) (fun h0 => ?_)
    · refine w_step tok rfl ?_
      refine s_move rfl rfl rfl ?_
      refine s_end ?_
      refine w_step tok rfl ?_
      refine s_bin rfl rfl rfl ?_
      refine s_end ?_
      refine w_step tok rfl ?_
      refine s_pick rfl rfl rfl ?_
      refine s_end ?_
      refine w_end rfl (hK _ ?_); clear hK K
      exact ⟨_, (by simp only [decide_eq_true_eq, decide_eq_false_iff_not] at h0; rw [Bool.eq_iff_iff]; simp only [decide_eq_true_eq, reduceCtorEq, false_iff]; omega), Wk.mk' ⟨rfl, rfl, rfl, trivial⟩ trivial⟩
    · refine w_skip rfl rfl ?_
      refine w_skip rfl rfl ?_
      refine w_step tok rfl ?_
      refine s_pick rfl rfl rfl ?_
      refine s_end ?_
      refine w_end rfl (hK _ ?_); clear hK K
      exact ⟨_, (by simp only [decide_eq_true_eq, decide_eq_false_iff_not] at h0; rw [Bool.eq_iff_iff]; simp only [decide_eq_true_eq, reduceCtorEq, false_iff]; omega), Wk.mk' ⟨rfl, rfl, rfl, trivial⟩ trivial⟩
  rintro c rfl
  refine a_cond rfl (fun hg => ?_) (fun hg => ?_)
  · have hg : i < s.length ∧ i < 20 := by simpa using hg
    obtain ⟨hg, hg2⟩ := hg
    obtain ⟨r, hr⟩ : ∃ r, r = s[i] := ⟨_, rfl⟩
    refine AWP_skip ?_
    show AWP _ _ _ _ _ _
    refine AWP_seq ?_
    refine AWP_block ?_
    refine a_join (α := Bool) (fun c => mk 47 [(0, V1 (dSs s)), (3, dI i), (43, dB c)] [] []) (fun c => c = !(shR r.x && shR r.y)) ?_ ?_
    · refine a_draw1 tok mixed (A := [[], [], [], [0, 1], [0, 1, 2], [0, 1, 2, 3], [], [], [], [6, 7], [6, 7, 8], [6, 7, 8, 9], [0, 1, 2, 3, 4, 6, 7, 8, 9, 10], [0, 1, 2, 3, 4, 5, 6, 7, 8, 9, 10, 11], [0, 1, 2, 3, 4, 5, 6, 7, 8, 9, 10, 11], [0, 1, 2, 3, 4, 5, 6, 7, 8, 9, 10, 11, 12, 13], [0, 1, 2, 3, 4, 5, 6, 7, 8, 9, 10, 11, 12, 13], [0, 1, 2, 3, 4, 5, 6, 7, 8, 9, 10, 11, 12, 13], [0, 1, 2, 3, 4, 5, 6, 7, 8, 9, 10, 11, 12, 13, 15, 16], [0, 1, 2, 3, 4, 5, 6, 7, 8, 9, 10, 11, 12, 13, 15, 16, 17], [0, 1, 2, 3, 4, 5, 6, 7, 8, 9, 10, 11, 12, 13, 15, 16, 17, 18], [0, 1, 2, 3, 4, 5, 6, 7, 8, 9, 10, 11, 12, 13], [0, 1, 2, 3, 4, 5, 6, 7, 8, 9, 10, 11, 12, 13], [0, 1, 2, 3, 4, 5, 6, 7, 8, 9, 10, 11, 12, 13], [0, 1, 2, 3, 4, 5, 6, 7, 8, 9, 10, 11, 12, 13, 21, 22], [0, 1, 2, 3, 4, 5, 6, 7, 8, 9, 10, 11, 12, 13, 21, 22, 23], [0, 1, 2, 3, 4, 5, 6, 7, 8, 9, 10, 11, 12, 13, 21, 22, 23, 24], [0, 1, 2, 3, 4, 5, 6, 7, 8, 9, 10, 11, 12, 13, 15, 16, 17, 18, 19, 21, 22, 23, 24, 25], [0, 1, 2, 3, 4, 5, 6, 7, 8, 9, 10, 11, 12, 13, 15, 16, 17, 18, 19, 20, 21, 22, 23, 24, 25, 26], [0, 1, 2, 3, 4, 5, 6, 7, 8, 9, 10, 11, 12, 13, 15, 16, 17, 18, 19, 20, 21, 22, 23, 24, 25, 26, 27]]) (an := [{}, {}, {}, {}, {}, {}, {}, {}, {}, {}, {}, {}, {}, {}, {}, {}, {}, {}, {}, {}, {}, {}, {}, {}, {}, {}, {}, {}, {}, {}]) rfl (by kernel_rfl) rfl fun K hK => ?_
      refine s_move rfl rfl rfl ?_
      refine s_move rfl rfl rfl ?_
      refine s_indexAddr rfl (x_m SP.dc rfl rfl rfl rfl hg rfl) rfl ?_
      refine s_fieldAddr rfl rfl rfl ?_
      refine s_fieldAddr rfl rfl rfl ?_
      refine s_load rfl rfl rfl ?_
      refine s_move rfl rfl rfl ?_
      refine s_move rfl rfl rfl ?_
      refine s_indexAddr rfl (x_m SP.dc rfl rfl rfl rfl hg rfl) rfl ?_
      refine s_fieldAddr rfl rfl rfl ?_
      refine s_fieldAddr rfl rfl rfl ?_
      refine s_load rfl rfl rfl ?_
      refine s_call rfl rfl (r28short_c _ _ _ _) rfl rfl rfl rfl ?_
      refine s_un rfl rfl rfl ?_
      refine s_move rfl rfl rfl ?_
      refine s_split (fun h0 => ?_) (fun h0 => ?_)
      · refine s_skip rfl ?_
        refine s_skip rfl ?_
        refine s_skip rfl ?_
        refine s_skip rfl ?_
        refine s_skip rfl ?_
        refine s_skip rfl ?_
        refine s_skip rfl ?_
        refine s_skip rfl ?_
        refine s_skip rfl ?_
        refine s_skip rfl ?_
        refine s_skip rfl ?_
        refine s_skip rfl ?_
        refine s_skip rfl ?_
        refine s_skip rfl ?_
        refine s_pick rfl rfl rfl ?_
        refine s_end (hK _ ?_); clear hK K
        exact ⟨_, (by rw [← hr] at h0; simp only [Bool.not_eq_true', Bool.not_eq_false'] at h0; simp only [shR, h0, ← hr, Bool.true_and, Bool.false_and, Bool.not_false]), Wk.mk' ⟨rfl, rfl, rfl, trivial⟩ trivial⟩
      · refine s_move rfl rfl rfl ?_
        refine s_move rfl rfl rfl ?_
        refine s_indexAddr rfl (x_m SP.dc rfl rfl rfl rfl hg rfl) rfl ?_
        refine s_fieldAddr rfl rfl rfl ?_
        refine s_fieldAddr rfl rfl rfl ?_
        refine s_load rfl rfl rfl ?_
        refine s_move rfl rfl rfl ?_
        refine s_move rfl rfl rfl ?_
        refine s_indexAddr rfl (x_m SP.dc rfl rfl rfl rfl hg rfl) rfl ?_
        refine s_fieldAddr rfl rfl rfl ?_
        refine s_fieldAddr rfl rfl rfl ?_
        refine s_load rfl rfl rfl ?_
        refine s_call rfl rfl (r28short_c _ _ _ _) rfl rfl rfl rfl ?_
        refine s_un rfl rfl rfl ?_
        refine s_pick rfl rfl rfl ?_
        refine s_end (hK _ ?_); clear hK K
        exact ⟨_, (by rw [← hr] at h0; simp only [Bool.not_eq_true', Bool.not_eq_false'] at h0; simp only [shR, h0, ← hr, Bool.true_and, Bool.false_and, Bool.not_false]), Wk.mk' ⟨rfl, rfl, rfl, trivial⟩ trivial⟩
    rintro c rfl
    refine a_cond rfl (fun hd => ?_) (fun hd => ?_)
    · refine AWP_reg_seq tok fun K hK => ?_
      refine s_assign rfl rfl rfl ?_
      refine s_end (hK _ ?_); clear hK K
      refine AWP_ret ?_
      repeat (with_reducible refine tq_ret ?_)
      exact post_ret (fin_mk (by rfl) (by rfl) (by exact dB_eq (by rw [Bool.not_eq_true'] at hd; simp only [fewS]; rw [Bool.and_eq_false_iff]; left; rw [List.all_eq_false]; exact ⟨r, by rw [hr]; exact List.mem_take_iff_getElem.2 ⟨i, by omega, rfl⟩, by rw [hd]; simp⟩)))
    · refine AWP_skip ?_
      show AWP _ _ _ _ _ _
      refine AWP_reg tok fun K hK => ?_
      refine s_move rfl rfl rfl ?_
      refine s_bin rfl (e_add rfl (by omega)) rfl ?_
      refine s_assign rfl rfl rfl ?_
      refine s_end (hK _ ?_); clear hK K
      refine ⟨i + 1, by omega, ⟨hg, hg2, ?_⟩, Wk.mk' ⟨rfl, rfl, trivial⟩ trivial⟩
      rw [List.take_succ_eq_append_getElem hg, List.all_append, ht, ← hr]
      rw [Bool.not_eq_false'] at hd
      simp [hd]
  · have hg : ¬ (i < s.length ∧ i < 20) := by simpa using hg
    refine AWP_exit ?_
    show AWP _ _ _ _ _ _
    have e : fewS s = decide (s.length ≤ 18) := by
      have : s.take 20 = s.take i := by
        by_cases h : i < 20
        · rw [List.take_of_length_le (by omega), List.take_of_length_le (by omega)]
        · have : i = 20 := by omega
          rw [this]
      rw [fewS, this, ht, Bool.true_and]
    rw [e]
    refine AWP_reg_seq tok fun K hK => ?_
    refine s_move rfl rfl rfl ?_
    refine s_blt rfl (len_m SP.dc rfl rfl) rfl ?_
    refine s_bin rfl rfl rfl ?_
    refine s_assign rfl rfl rfl ?_
    refine s_end (hK _ ?_); clear hK K
    refine AWP_ret ?_
    repeat (with_reducible refine tq_ret ?_)
    exact post_ret (fin_mk (by rfl) (by rfl) (by exact dB_eq (by rw [Bool.eq_iff_iff]; simp only [decide_eq_true_eq]; omega)))

theorem SP.dec_iff (a b : SP) : decide (a = b) = (decide (a.x = b.x) && decide (a.y = b.y)) := by
  obtain ⟨a1, a2⟩ := a
  obtain ⟨b1, b2⟩ := b
  rw [Bool.eq_iff_iff]
  simp [SP.mk.injEq]
theorem r28Spot_c (a b : SP) (la : a.x.wp.length ≤ 9223372036854775806 ∧ a.x.wq.length ≤ 9223372036854775806) (lb : a.y.wp.length ≤ 9223372036854775806 ∧ a.y.wq.length ≤ 9223372036854775806) :
    Con Tryz.prog 15 [AG a.cs, AG b.cs] { v := dB (decide (a = b)) } := by
  rw [SP.dec_iff]
  refine con_intro (fn := Tryz.f15) tok Tryz.func15 (by kernel_rfl) rfl ?_
  intro w0 X
  rw [entry_mkE _ _ [(0, AG a.cs), (1, AG b.cs)] rfl rfl]
  refine AWP_reg_seq tok fun K hK => ?_
  refine s_box rfl rfl rfl rfl rfl rfl ?_
  refine s_box rfl rfl rfl rfl rfl rfl ?_
  refine s_assign rfl rfl rfl ?_
  refine s_end (hK _ ?_); clear hK K
  refine AWP_regW_seq fun K hK => ?_
  refine w_step tok rfl ?_
  refine s_fieldAddr rfl rfl rfl ?_
  refine s_end ?_
  refine w_step tok rfl ?_
  refine s_load rfl rfl rfl ?_
  refine s_end ?_
  refine w_step tok rfl ?_
  refine s_fieldAddr rfl rfl rfl ?_
  refine s_end ?_
  refine w_step tok rfl ?_
  refine s_load rfl rfl rfl ?_
  refine s_end ?_
  refine w_step tok rfl ?_
  refine s_call rfl rfl (bRat_c a.x b.x la.1 la.2) rfl rfl rfl rfl ?_
  refine s_end ?_
  refine w_step tok rfl ?_
  refine s_move rfl rfl rfl ?_
  refine s_end ?_
  refine w_split (fun h0 => ?_) (fun h0 => ?_)
  · refine w_step tok rfl ?_
    refine s_fieldAddr rfl rfl rfl ?_
    refine s_end ?_
    refine w_step tok rfl ?_
    refine s_load rfl rfl rfl ?_
    refine s_end ?_
    refine w_step tok rfl ?_
    refine s_fieldAddr rfl rfl rfl ?_
    refine s_end ?_
    refine w_step tok rfl ?_
    refine s_load rfl rfl rfl ?_
    refine s_end ?_
    refine w_step tok rfl ?_
    refine s_call rfl rfl (bRat_c a.y b.y lb.1 lb.2) rfl rfl rfl rfl ?_
    refine s_end ?_
    refine w_step tok rfl ?_
    refine s_pick rfl rfl rfl ?_
    refine s_end ?_
    refine w_step tok rfl ?_
    refine s_assign rfl rfl rfl ?_
    refine s_end ?_
    refine w_end rfl (hK _ ?_); clear hK K
    refine AWP_ret ?_
    repeat (with_reducible refine tq_ret ?_)
    exact post_ret (fin_mk (by rfl) (by rfl) (by exact dB_eq (by simp only [h0, Bool.true_and, Bool.false_and])))
  · refine w_skip rfl rfl ?_
    refine w_skip rfl rfl ?_
    refine w_skip rfl rfl ?_
    refine w_skip rfl rfl ?_
    refine w_skip rfl rfl ?_
    refine w_step tok rfl ?_
    refine s_pick rfl rfl rfl ?_
    refine s_end ?_
    refine w_step tok rfl ?_
    refine s_assign rfl rfl rfl ?_
    refine s_end ?_
    refine w_end rfl (hK _ ?_); clear hK K
    refine AWP_ret ?_
    repeat (with_reducible refine tq_ret ?_)
    exact post_ret (fin_mk (by rfl) (by rfl) (by exact dB_eq (by simp only [h0, Bool.true_and, Bool.false_and])))

theorem r28Matrix_c (a b : List (List RW)) (hl : a.length ≤ 9223372036854775806) (la : ∀ r ∈ a, r.length ≤ 9223372036854775806 ∧ ∀ x ∈ r, x.wp.length ≤ 9223372036854775806 ∧ x.wq.length ≤ 9223372036854775806) :
    Con Tryz.prog 18 [V1 (dMs a), V1 (dMs b)] { v := dB (decide (a = b)) } := by
  refine con_intro (fn := Tryz.f18) tok Tryz.func18 (by kernel_rfl) rfl ?_
  intro w0 X
  rw [entry_mkE _ _ [(0, V1 (dMs a)), (1, V1 (dMs b))] rfl rfl]
  refine AWP_reg_seq tok fun K hK => ?_
  refine s_assign rfl rfl rfl ?_
  refine s_end (hK _ ?_); clear hK K
  refine AWP_seq ?_
  refine AWP_reg_seq tok fun K hK => ?_
  refine s_move rfl rfl rfl ?_
  refine s_blt rfl (len_m cM rfl rfl) rfl ?_
  refine s_move rfl rfl rfl ?_
  refine s_blt rfl (len_m cM rfl rfl) rfl ?_
  refine s_bin rfl rfl rfl ?_
  refine s_end (hK _ ?_); clear hK K
  refine a_cond rfl (fun hc => ?_) (fun hc => ?_)
  · have hc : a.length ≠ b.length := by simp at hc; omega
    refine AWP_reg_seq tok fun K hK => ?_
    refine s_assign rfl rfl rfl ?_
    refine s_end (hK _ ?_); clear hK K
    refine AWP_ret ?_
    repeat (with_reducible refine tq_ret ?_)
    exact post_ret (fin_mk (by rfl) (by rfl) (by rw [decide_eq_false (fun h => hc (by rw [h]))]; rfl))
  have hc : a.length = b.length := by simp at hc; omega
  refine AWP_skip ?_
  show AWP _ _ _ _ _ _
  refine AWP_seq ?_
  refine AWP_reg_seq tok fun K hK => ?_
  refine s_assign rfl rfl rfl ?_
  refine s_end (hK _ ?_); clear hK K
  refine AWP_block (a_loop (α := Nat) (fun i => mk 27 [(0, V1 (dMs a)), (1, V1 (dMs b)), (5, dI i)] [] []) (fun i => i ≤ a.length ∧ a.take i = b.take i) (fun i => a.length - i) 0 ?_ ⟨Nat.zero_le _, rfl⟩ ?_)
  · exact Wk.mk' ⟨rfl, rfl, rfl, trivial⟩ trivial
  rintro i ⟨hi, ht⟩
  refine AWP_seq ?_
  refine AWP_reg_seq tok fun K hK => ?_
  refine s_move rfl rfl rfl ?_
  refine s_move rfl rfl rfl ?_
  refine s_blt rfl (len_m cM rfl rfl) rfl ?_
  refine s_bin rfl rfl rfl ?_
  refine s_end (hK _ ?_); clear hK K
  refine a_cond rfl (fun hg => ?_) (fun hg => ?_)
  · have hg : i < a.length := by simp at hg; omega
    have hg' : i < b.length := by omega
    refine AWP_skip ?_
    show AWP _ _ _ _ _ _
    refine AWP_seq ?_
    refine AWP_block ?_
    have hm := la a[i] (List.getElem_mem hg)
    refine a_draw tok mixed (A := [[], [], [], [0, 1], [], [], [], [4, 5], [0, 1, 2, 4, 5, 6], [0, 1, 2, 3, 4, 5, 6, 7]]) (an := [{}, {}, {}, {}, {}, {}, {}, {}, {}, {}]) rfl (by kernel_rfl) rfl fun K hK => ?_
    refine s_move rfl rfl rfl ?_
    refine s_move rfl rfl rfl ?_
    refine s_indexAddr rfl (x_m cM rfl rfl rfl rfl hg rfl) rfl ?_
    refine s_load rfl rfl rfl ?_
    refine s_move rfl rfl rfl ?_
    refine s_move rfl rfl rfl ?_
    refine s_indexAddr rfl (x_m cM rfl rfl rfl rfl hg' rfl) rfl ?_
    refine s_load rfl rfl rfl ?_
    refine s_call rfl rfl (bRats_c a[i] b[i] hm.1 hm.2) rfl rfl rfl rfl ?_
    refine s_un rfl rfl rfl ?_
    refine s_end (hK _ ?_); clear hK K
    refine a_cond rfl (fun hd => ?_) (fun hd => ?_)
    · refine AWP_reg_seq tok fun K hK => ?_
      refine s_assign rfl rfl rfl ?_
      refine s_end (hK _ ?_); clear hK K
      refine AWP_ret ?_
      repeat (with_reducible refine tq_ret ?_)
      exact post_ret (fin_mk (by rfl) (by rfl) (by rw [decide_eq_false (fun h => by subst h; simp at hd)]; rfl))
    · refine AWP_skip ?_
      show AWP _ _ _ _ _ _
      refine AWP_reg tok fun K hK => ?_
      refine s_move rfl rfl rfl ?_
      refine s_bin rfl (e_add rfl (by omega)) rfl ?_
      refine s_assign rfl rfl rfl ?_
      refine s_end (hK _ ?_); clear hK K
      exact ⟨i + 1, by omega, ⟨hg, take_eq_succ hg hg' ht (by simpa using hd)⟩, Wk.mk' ⟨rfl, rfl, rfl, trivial⟩ trivial⟩
  · have hg : i = a.length := by simp at hg; omega
    subst hg
    refine AWP_exit ?_
    show AWP _ _ _ _ _ _
    refine AWP_reg_seq tok fun K hK => ?_
    refine s_assign rfl rfl rfl ?_
    refine s_end (hK _ ?_); clear hK K
    refine AWP_ret ?_
    repeat (with_reducible refine tq_ret ?_)
    exact post_ret (fin_mk (by rfl) (by rfl) (by rw [decide_eq_true (take_eq_all hc ht)]; rfl))
end Go.Proofs.YtcafppnjemgkiaaGreat

/- Displacements, residuals, costs. No condition. -/
namespace Go.Proofs.YtcafppnjemgkiaaGreat
attribute [local irreducible] lexA

structure SP.OK (k : Nat) (s : SP) : Prop where
  x : s.x.OK k
  y : s.y.OK k
/-- The position with canonical rationals. -/
def szW (x y : Rat) : SP := ⟨qzW x, qzW y⟩
def SP.vx (s : SP) : Rat := s.x.v
def SP.vy (s : SP) : Rat := s.y.v
theorem szW_vx (x y : Rat) : (szW x y).vx = x := qzW_v x
theorem szW_vy (x y : Rat) : (szW x y).vy = y := qzW_v y
theorem szW_ok {x y : Rat} {k : Nat} (hx : ql x ≤ k) (hy : ql y ≤ k) : (szW x y).OK k := ⟨qzW_ok hx, qzW_ok hy⟩
theorem SP.OK.mono {s : SP} {k m : Nat} (h : s.OK k) (hk : Nat.ble k m = true) : s.OK m := ⟨h.x.mono hk, h.y.mono hk⟩
theorem SP.OK.qx {s : SP} {k : Nat} (h : s.OK k) (hk : Nat.ble 1 k = true) : ql s.vx ≤ k := h.x.ql hk
theorem SP.OK.qy {s : SP} {k : Nat} (h : s.OK k) (hk : Nat.ble 1 k = true) : ql s.vy ≤ k := h.y.ql hk

theorem plus_q (a b : SP) (x y : Rat) (ha : a.OK 16777216) (hb : b.OK 16777216) (hx : a.vx + b.vx = x) (hy : a.vy + b.vy = y) :
    Con Tryz.prog 41 [AG a.cs, AG b.cs] { v := AG (szW x y).cs } := by
  subst hx hy
  refine con_intro (fn := Tryz.f41) tok Tryz.func41 (by kernel_rfl) rfl ?_
  intro w0 X
  rw [entry_mkE _ _ [(0, AG a.cs), (1, AG b.cs)] rfl rfl]
  refine AWP_reg_seq tok fun K hK => ?_
  refine s_box rfl rfl rfl rfl rfl rfl ?_
  refine s_box rfl rfl rfl rfl rfl rfl ?_
  refine s_alloc rfl rfl rfl rfl rfl rfl ?_
  refine s_end (hK _ ?_); clear hK K
  refine a_draw tok mixed (A := [[], [], [], [], [0, 2], [], [], [], [], [0, 1, 2, 3, 5, 7], [0, 1, 2, 3, 5, 6, 7, 8], []]) (an := [{}, {}, {}, {}, {}, { c := [9] }, { c := [9] }, { c := [9] }, { c := [9] }, {}, {}, {}]) rfl (by kernel_rfl) rfl fun K hK => ?_
  refine s_fieldAddr rfl rfl rfl ?_
  refine s_load rfl rfl rfl ?_
  refine s_fieldAddr rfl rfl rfl ?_
  refine s_load rfl rfl rfl ?_
  refine s_call rfl rfl (qAdd_q a.vx b.vx _ _ _ _ _ _ _ _ ha.x.op ha.x.oq hb.x.op hb.x.oq ha.x.lp ha.x.lq hb.x.lp hb.x.lq rfl rfl) rfl rfl rfl rfl ?_
  refine s_fieldAddr rfl rfl rfl ?_
  refine s_load rfl rfl rfl ?_
  refine s_fieldAddr rfl rfl rfl ?_
  refine s_load rfl rfl rfl ?_
  refine s_call rfl rfl (qAdd_q a.vy b.vy _ _ _ _ _ _ _ _ ha.y.op ha.y.oq hb.y.op hb.y.oq ha.y.lp ha.y.lq hb.y.lp hb.y.lq rfl rfl) rfl rfl rfl rfl ?_
  refine s_build rfl rfl rfl ?_
  refine s_store rfl rfl rfl rfl rfl ?_
  refine s_end (hK _ ?_); clear hK K
  refine AWP_ret ?_
  repeat (with_reducible refine tq_ret ?_)
  exact post_ret (fin_mk (by rfl) (by rfl) (by rfl))

theorem scaled_q (a : SP) (n : Int) (x y : Rat) (hn : I64 n) (ha : a.OK 16777216) (hx : a.vx * n = x) (hy : a.vy * n = y) :
    Con Tryz.prog 42 [AG a.cs, dI n] { v := AG (szW x y).cs } := by
  subst hx hy
  have q1 : ql (n : Rat) ≤ 16777216 := by rw [ql_int]; exact Nat.max_le.2 ⟨le_d (zl_i64 hn) rfl, by decide⟩
  have c := qOf_c n 1 hn ⟨by decide, by decide⟩
  rw [divInt_one] at c
  refine con_intro (fn := Tryz.f42) tok Tryz.func42 (by kernel_rfl) rfl ?_
  intro w0 X
  rw [entry_mkE _ _ [(0, AG a.cs), (1, dI n)] rfl rfl]
  refine AWP_reg_seq tok fun K hK => ?_
  refine s_box rfl rfl rfl rfl rfl rfl ?_
  refine s_alloc rfl rfl rfl rfl rfl rfl ?_
  refine s_end (hK _ ?_); clear hK K
  refine a_draw tok mixed (A := [[], [], [], [], [0, 2], [], [], [], [0, 1, 2, 3], [0, 1, 2, 3, 4, 5, 7], [0, 1, 2, 3, 5, 6, 7, 8], []]) (an := [{}, {}, {}, {}, {}, { c := [8, 9] }, { c := [8, 9] }, { c := [8, 9] }, {}, {}, {}, {}]) rfl (by kernel_rfl) rfl fun K hK => ?_
  refine s_fieldAddr rfl rfl rfl ?_
  refine s_load rfl rfl rfl ?_
  refine s_move rfl rfl rfl ?_
  refine s_call rfl rfl (c) rfl rfl rfl rfl ?_
  refine s_call rfl rfl (qMul_q a.vx n _ _ _ _ _ _ _ _ ha.x.op ha.x.oq (wof_ok _) (wof_ok _) ha.x.lp ha.x.lq (ql_num_le q1) (ql_den_le q1) rfl (qv_QZ _)) rfl rfl rfl rfl ?_
  refine s_fieldAddr rfl rfl rfl ?_
  refine s_load rfl rfl rfl ?_
  refine s_move rfl rfl rfl ?_
  refine s_call rfl rfl (c) rfl rfl rfl rfl ?_
  refine s_call rfl rfl (qMul_q a.vy n _ _ _ _ _ _ _ _ ha.y.op ha.y.oq (wof_ok _) (wof_ok _) ha.y.lp ha.y.lq (ql_num_le q1) (ql_den_le q1) rfl (qv_QZ _)) rfl rfl rfl rfl ?_
  refine s_build rfl rfl rfl ?_
  refine s_store rfl rfl rfl rfl rfl ?_
  refine s_end (hK _ ?_); clear hK K
  refine AWP_ret ?_
  repeat (with_reducible refine tq_ret ?_)
  exact post_ret (fin_mk (by rfl) (by rfl) (by rfl))

/-- The displacement of a link. -/
def alX (r : RW) (l : LK) : Rat := cosR r.p r.q * l.x - sinR r.p r.q * l.y
def alY (r : RW) (l : LK) : Rat := sinR r.p r.q * l.x + cosR r.p r.q * l.y
def alS (r : RW) (l : LK) : SP := szW (alX r l) (alY r l)

theorem ql_i64 {n : Int} (h : I64 n) : ql (n : Rat) ≤ 2 := by rw [ql_int]; exact Nat.max_le.2 ⟨zl_i64 h, by decide⟩

theorem alS_ok {r : RW} {l : LK} {k m : Nat} (hr : r.OK k) (hk : Nat.ble 1 k = true) (hx : I64 l.x) (hy : I64 l.y) (hm : Nat.ble (4 * k + 7) m = true) : (alS r l).OK m := by
  have k1 := Nat.le_of_ble_eq_true hk
  have c1 := ql_cos r.p r.q (zl_zv hr.op hr.lp) (zl_zv hr.oq hr.lq) k1
  have s1 := ql_sin r.p r.q (zl_zv hr.op hr.lp) (zl_zv hr.oq hr.lq) k1
  have x1 := ql_i64 hx
  have y1 := ql_i64 hy
  have m1 := Nat.le_of_ble_eq_true hm
  refine szW_ok (Nat.le_trans (ql_sub_le (ql_mul_le c1 x1) (ql_mul_le s1 y1)) (by omega)) (Nat.le_trans (ql_add_le (ql_mul_le s1 x1) (ql_mul_le c1 y1)) (by omega))

theorem tTurn_q (r : RW) (x y X Y : Rat) (ok : r.OK 1048576) (q1 : ql x ≤ 1048576) (q2 : ql y ≤ 1048576) (hX : cosR r.p r.q * x - sinR r.p r.q * y = X) (hY : sinR r.p r.q * x + cosR r.p r.q * y = Y) :
    Con Tryz.prog 58 [AG r.cs, AG (QZ x), AG (QZ y)] { v := .tup [.agg (QZ X), .agg (QZ Y)] } := by
  have c := tTurn_c r.np r.nq (decide (x.num < 0)) (decide ((x.den : Int) < 0)) (decide (y.num < 0)) (decide ((y.den : Int) < 0)) r.wp r.wq (wof x.num.natAbs) (wof (x.den : Int).natAbs) (wof y.num.natAbs) (wof (y.den : Int).natAbs)
    ok.op ok.oq (wof_ok _) (wof_ok _) (wof_ok _) (wof_ok _) ok.lp ok.lq (ql_num_le q1) (ql_den_le q1) (ql_num_le q2) (ql_den_le q2)
  rw [qv_QZ, qv_QZ] at c
  subst hX hY
  exact c

theorem along_c (g : GR) (l : LK) (r : RW) (i : Nat) (hi : i < g.nodes.length) (hl : l.f = i) (hr : g.nodes[i] = r) (ok : r.OK 1048576) (hx : I64 l.x) (hy : I64 l.y) :
    Con Tryz.prog 35 [AG g.cs, AG l.cs] { v := AG (alS r l).cs } := by
  have c1 := qOf_c l.x 1 hx ⟨by decide, by decide⟩
  have c2 := qOf_c l.y 1 hy ⟨by decide, by decide⟩
  rw [divInt_one] at c1 c2
  have q1 : ql (l.x : Rat) ≤ 1048576 := le_d (ql_i64 hx) rfl
  have q2 : ql (l.y : Rat) ≤ 1048576 := le_d (ql_i64 hy) rfl
  subst hr
  refine con_intro (fn := Tryz.f35) tok Tryz.func35 (by kernel_rfl) rfl ?_
  intro w0 X
  rw [entry_mkE _ _ [(0, AG g.cs), (1, AG l.cs)] rfl rfl]
  refine AWP_reg_seq tok fun K hK => ?_
  refine s_box rfl rfl rfl rfl rfl rfl ?_
  refine s_box rfl rfl rfl rfl rfl rfl ?_
  refine s_alloc rfl rfl rfl rfl rfl rfl ?_
  refine s_end (hK _ ?_); clear hK K
  refine a_draw tok mixed (A := [[], [], [], [], [0, 2], [0, 1, 2, 3], [], [], [6], [], [], [6, 7, 9], [0, 1, 2, 3, 4, 6, 7, 9, 10], [0, 1, 2, 3, 4, 5, 6, 7, 8, 9, 10, 11], [0, 1, 2, 3, 4, 5, 6, 7, 8, 9, 10, 11, 12], [0, 1, 2, 3, 4, 5, 6, 7, 8, 9, 10, 11, 12], [], [], [], []]) (an := [{}, {}, {}, {}, {}, {}, {}, {}, {}, { c := [16] }, { c := [16] }, {}, {}, {}, {}, {}, { c := [16, 19, 20] }, { c := [16, 19, 20, 5] }, {}, {}]) rfl (by kernel_rfl) rfl fun K hK => ?_
  refine s_fieldAddr rfl rfl rfl ?_
  refine s_load rfl rfl rfl ?_
  refine s_fieldAddr rfl rfl rfl ?_
  refine s_load rfl rfl rfl ?_
  refine s_indexAddr rfl (x_m RW.dc rfl rfl rfl hl hi rfl) rfl ?_
  refine s_load rfl rfl rfl ?_
  refine s_fieldAddr rfl rfl rfl ?_
  refine s_load rfl rfl rfl ?_
  refine s_call rfl rfl (c1) rfl rfl rfl rfl ?_
  refine s_fieldAddr rfl rfl rfl ?_
  refine s_load rfl rfl rfl ?_
  refine s_call rfl rfl (c2) rfl rfl rfl rfl ?_
  refine s_call rfl rfl (tTurn_q g.nodes[i] _ _ (alX g.nodes[i] l) (alY g.nodes[i] l) ok q1 q2 rfl rfl) rfl rfl rfl rfl ?_
  refine s_move rfl rfl rfl ?_
  refine s_extract rfl rfl rfl ?_
  refine s_extract rfl rfl rfl ?_
  refine s_alloc rfl rfl rfl rfl rfl rfl ?_
  refine s_alloc rfl rfl rfl rfl rfl rfl ?_
  refine s_store rfl rfl rfl rfl rfl ?_
  refine s_store rfl rfl rfl rfl rfl ?_
  refine s_end (hK _ ?_); clear hK K
  refine AWP_reg_seq tok fun K hK => ?_
  refine s_load rfl rfl rfl ?_
  refine s_load rfl rfl rfl ?_
  refine s_build rfl rfl rfl ?_
  refine s_store rfl rfl rfl rfl rfl ?_
  refine s_end (hK _ ?_); clear hK K
  refine AWP_ret ?_
  repeat (with_reducible refine tq_ret ?_)
  exact post_ret (fin_mk (by rfl) (by rfl) (by rfl))

/-- The first components of both answers. -/
theorem LV.lt {n : Nat} {l : LK} (h : LV n l) : ∃ i j : Nat, i < n ∧ j < n ∧ l.f = i ∧ l.t = j ∧ i ≠ j := by
  obtain ⟨⟨a, b⟩, ⟨c, d⟩, e, _⟩ := h
  exact ⟨l.f.toNat, l.t.toNat, by omega, by omega, by omega, by omega, by omega⟩
theorem LV.ix {n : Nat} {l : LK} (h : LV n l) : I64 l.x := by have := h.x; exact ⟨by omega, by omega⟩
theorem LV.iy {n : Nat} {l : LK} (h : LV n l) : I64 l.y := by have := h.y; exact ⟨by omega, by omega⟩
theorem LV.iw {n : Nat} {l : LK} (h : LV n l) : I64 l.w := by have := h.w; exact ⟨by omega, by omega⟩
def rot0 : RW := pzW 0 1
/-- The node at which a link begins. -/
def frN (g : GR) (l : LK) : RW := g.nodes.getD l.f.toNat rot0
def rw00 : RW := ⟨false, [], false, []⟩
/-- An empty position. -/
def sp0 : SP := ⟨rw00, rw00⟩
/-- What Along answers. -/
def alongV (g : GR) (k : Int) : SP × Int :=
  if validB g then if h : 0 ≤ k ∧ k.toNat < g.links.length then (alS (frN g g.links[k.toNat]) g.links[k.toNat], 0) else (sp0, 2) else (sp0, 1)

theorem alongL_c (g : GR) (l : LK) (k : Nat) (hk : k < g.links.length) (he : g.links[k] = l) (gv : GV g) (ok : ∀ r ∈ g.nodes, r.OK 1048576) :
    Con Tryz.prog 35 [AG g.cs, AG l.cs] { v := AG (alS (frN g l) l).cs } := by
  have lv := linkB_iff.1 (gv.lk l (he ▸ List.getElem_mem hk))
  obtain ⟨i, j, hi, hj, e1, e2, _⟩ := lv.lt
  have e : frN g l = g.nodes[i] := by
    rw [frN, e1, Int.toNat_natCast, List.getD_eq_getElem?_getD, List.getElem?_eq_getElem hi]; rfl
  rw [e]
  exact along_c g l _ i hi e1 rfl (ok _ (List.getElem_mem hi)) lv.ix lv.iy

theorem gAlong_c (g : GR) (k : Int) (ok : ∀ r ∈ g.nodes, r.OK 1048576) (hl : g.links.length ≤ 9223372036854775806) :
    Con Tryz.prog 10 [AG g.cs, dI k] { v := .tup [.agg (alongV g k).1.cs, .one (.d (lI (alongV g k).2))] } := by
  refine con_intro (fn := Tryz.f10) tok Tryz.func10 (by kernel_rfl) rfl ?_
  intro w0 X
  rw [entry_mkE _ _ [(0, AG g.cs), (1, dI k)] rfl rfl]
  refine AWP_reg_seq tok fun K hK => ?_
  refine s_box rfl rfl rfl rfl rfl rfl ?_
  refine s_alloc rfl rfl rfl rfl rfl rfl ?_
  refine s_assign rfl rfl rfl ?_
  refine s_end (hK _ ?_); clear hK K
  refine AWP_seq ?_
  refine AWP_block ?_
  refine AWP_reg_seq tok fun K hK => ?_
  refine s_load rfl rfl rfl ?_
  refine s_call rfl rfl (gValid_c g) rfl rfl rfl rfl ?_
  refine s_un rfl rfl rfl ?_
  refine s_assign rfl rfl rfl ?_
  refine s_end (hK _ ?_); clear hK K
  refine a_cond rfl (fun hc => ?_) (fun hc => ?_)
  · rw [Bool.not_eq_true'] at hc
    have e : alongV g k = (sp0, 1) := by rw [alongV, if_neg (by rw [hc]; simp)]
    rw [e]
    refine AWP_reg_seq tok fun K hK => ?_
    refine s_build rfl rfl rfl ?_
    refine s_store rfl rfl rfl rfl rfl ?_
    refine s_assign rfl rfl rfl ?_
    refine s_end (hK _ ?_); clear hK K
    refine AWP_ret ?_
    repeat (with_reducible refine tq_ret ?_)
    exact post_ret (fin_mk (by rfl) (by rfl) (by rfl))
  rw [Bool.not_eq_false'] at hc
  have gv := validB_iff.1 hc
  refine AWP_reg_seq tok fun K hK => ?_
  refine s_move rfl rfl rfl ?_
  refine s_fieldAddr rfl rfl rfl ?_
  refine s_load rfl rfl rfl ?_
  refine s_blt rfl (len_m LK.dc rfl rfl) rfl ?_
  refine s_bin rfl (e_sub rfl (by omega)) rfl ?_
  refine s_call rfl rfl (within_c _ _ _) rfl rfl rfl rfl ?_
  refine s_un rfl rfl rfl ?_
  refine s_assign rfl rfl rfl ?_
  refine s_end (hK _ ?_); clear hK K
  refine a_cond rfl (fun hd => ?_) (fun hd => ?_)
  · have hd : ¬ (0 ≤ k ∧ k.toNat < g.links.length) := by
      rw [Bool.not_eq_true', inR, decide_eq_false_iff_not] at hd; omega
    have e : alongV g k = (sp0, 2) := by rw [alongV, if_pos hc, dif_neg hd]
    rw [e]
    refine AWP_reg_seq tok fun K hK => ?_
    refine s_build rfl rfl rfl ?_
    refine s_store rfl rfl rfl rfl rfl ?_
    refine s_assign rfl rfl rfl ?_
    refine s_end (hK _ ?_); clear hK K
    refine AWP_ret ?_
    repeat (with_reducible refine tq_ret ?_)
    exact post_ret (fin_mk (by rfl) (by rfl) (by rfl))
  have hd : 0 ≤ k ∧ k.toNat < g.links.length := by
    rw [Bool.not_eq_false', inR, decide_eq_true_eq] at hd; omega
  have e : alongV g k = (alS (frN g g.links[k.toNat]) g.links[k.toNat], 0) := by rw [alongV, if_pos hc, dif_pos hd]
  rw [e]
  refine AWP_skip ?_
  show AWP _ _ _ _ _ _
  refine a_draw tok mixed (A := [[], [], [], [], [1], [1, 2, 3], [1, 2, 3, 4], [], []]) (an := [{}, {}, {}, {}, {}, {}, {}, {}, {}]) rfl (by kernel_rfl) rfl fun K hK => ?_
  refine s_load rfl rfl rfl ?_
  refine s_fieldAddr rfl rfl rfl ?_
  refine s_load rfl rfl rfl ?_
  refine s_move rfl rfl rfl ?_
  refine s_indexAddr rfl (x_m LK.dc rfl rfl rfl (by omega) hd.2 rfl) rfl ?_
  refine s_load rfl rfl rfl ?_
  refine s_call rfl rfl (alongL_c g g.links[k.toNat] k.toNat hd.2 rfl gv ok) rfl rfl rfl rfl ?_
  refine s_store rfl rfl rfl rfl rfl ?_
  refine s_assign rfl rfl rfl ?_
  refine s_end (hK _ ?_); clear hK K
  refine AWP_ret ?_
  repeat (with_reducible refine tq_ret ?_)
  exact post_ret (fin_mk (by rfl) (by rfl) (by rfl))
end Go.Proofs.YtcafppnjemgkiaaGreat

/- Residuals, costs, moved positions. No condition. -/
namespace Go.Proofs.YtcafppnjemgkiaaGreat
attribute [local irreducible] lexA

/-- The residual of a link between two positions. -/
def rsX (r : RW) (l : LK) (a b : SP) : Rat := b.vx - (a.vx + alX r l)
def rsY (r : RW) (l : LK) (a b : SP) : Rat := b.vy - (a.vy + alY r l)
def rsS (r : RW) (l : LK) (a b : SP) : SP := szW (rsX r l a b) (rsY r l a b)
theorem rs_eq (x y : Rat) : x + y * ((-1 : Int) : Rat) = x - y := by
  have : ((-1 : Int) : Rat) = -1 := rfl
  rw [this, Rat.mul_neg, Rat.mul_one, ← Rat.sub_eq_add_neg]
theorem rsS_ok {r : RW} {l : LK} {a b : SP} {k m : Nat} (hr : r.OK k) (ha : a.OK k) (hb : b.OK k) (hk : Nat.ble 1 k = true) (hx : I64 l.x) (hy : I64 l.y) (hm : Nat.ble (6 * k + 9) m = true) : (rsS r l a b).OK m := by
  have o := alS_ok hr hk hx hy (m := 4 * k + 7) (Nat.ble_eq_true_of_le (Nat.le_refl _))
  have k1 := Nat.le_of_ble_eq_true hk
  have m1 := Nat.le_of_ble_eq_true hm
  have o1 := o.qx (Nat.ble_eq_true_of_le (by omega))
  have o2 := o.qy (Nat.ble_eq_true_of_le (by omega))
  rw [alS, szW_vx] at o1
  rw [alS, szW_vy] at o2
  exact szW_ok (Nat.le_trans (ql_sub_le (hb.qx hk) (ql_add_le (ha.qx hk) o1)) (by omega)) (Nat.le_trans (ql_sub_le (hb.qy hk) (ql_add_le (ha.qy hk) o2)) (by omega))

def atS (s : List SP) (i : Int) : SP := s.getD i.toNat sp0
theorem atS_get {s : List SP} {i : Int} {n : Nat} (h : i = n) (hn : n < s.length) : atS s i = s[n] := by
  rw [atS, h, Int.toNat_natCast, List.getD_eq_getElem?_getD, List.getElem?_eq_getElem hn]; rfl
def rsG (g : GR) (s : List SP) (l : LK) : SP := rsS (frN g l) l (atS s l.f) (atS s l.t)

theorem frN_mem {g : GR} {l : LK} (lv : LV g.nodes.length l) : frN g l ∈ g.nodes := by
  obtain ⟨i, j, hi, hj, e1, e2, _⟩ := lv.lt
  rw [frN, e1, Int.toNat_natCast, List.getD_eq_getElem?_getD, List.getElem?_eq_getElem hi]
  exact List.getElem_mem hi
theorem atS_mem {s : List SP} {i : Int} {n : Nat} (h : 0 ≤ i ∧ i < n) (hn : s.length = n) : atS s i ∈ s := by
  rw [atS, List.getD_eq_getElem?_getD, List.getElem?_eq_getElem (by omega)]
  exact List.getElem_mem _

theorem residual_c (g : GR) (s : List SP) (l : LK) (k : Nat) (hk : k < g.links.length) (he : g.links[k] = l) (gv : GV g) (hs : s.length = g.nodes.length) (ok : ∀ r ∈ g.nodes, r.OK 65536) (os : ∀ p ∈ s, p.OK 65536) :
    Con Tryz.prog 47 [AG g.cs, V1 (dSs s), AG l.cs] { v := AG (rsG g s l).cs } := by
  have lv := linkB_iff.1 (gv.lk l (he ▸ List.getElem_mem hk))
  have oF := os _ (atS_mem lv.f hs)
  have oT := os _ (atS_mem lv.t hs)
  have oN := ok _ (frN_mem lv)
  have oA : (alS (frN g l) l).OK 524288 := alS_ok oN rfl lv.ix lv.iy rfl
  have oA1 := oA.qx rfl
  have oA2 := oA.qy rfl
  obtain ⟨i, j, hi, hj, e1, e2, _⟩ := lv.lt
  have hi' : i < s.length := by omega
  have hj' : j < s.length := by omega
  have eF := atS_get e1 hi'
  have eT := atS_get e2 hj'
  rw [alS, szW_vx] at oA1
  rw [alS, szW_vy] at oA2
  have oP : (szW ((atS s l.f).vx + alX (frN g l) l) ((atS s l.f).vy + alY (frN g l) l)).OK 16777216 := szW_ok (le_d (ql_add_le (oF.qx rfl) oA1) rfl) (le_d (ql_add_le (oF.qy rfl) oA2) rfl)
  have oQ : (szW (((atS s l.f).vx + alX (frN g l) l) * ((-1 : Int) : Rat)) (((atS s l.f).vy + alY (frN g l) l) * ((-1 : Int) : Rat))).OK 16777216 :=
    szW_ok (le_d (ql_mul_le (ql_add_le (oF.qx rfl) oA1) (ql_i64 ⟨by decide, by decide⟩)) rfl) (le_d (ql_mul_le (ql_add_le (oF.qy rfl) oA2) (ql_i64 ⟨by decide, by decide⟩)) rfl)
  have c1 := alongL_c g l k hk he gv (fun r hr => (ok r hr).mono rfl)
  have c2 := plus_q (atS s l.f) (alS (frN g l) l) _ _ (oF.mono rfl) (oA.mono rfl) rfl rfl
  rw [alS, szW_vx, szW_vy, ← alS] at c2
  have c3 := scaled_q _ (-1) _ _ ⟨by decide, by decide⟩ oP (by rw [szW_vx]) (by rw [szW_vy])
  have c4 := plus_q (atS s l.t) _ _ _ (oT.mono rfl) oQ (by rw [szW_vx, rs_eq]) (by rw [szW_vy, rs_eq])
  rw [eF] at c2 c3 c4
  rw [eT] at c4
  rw [rsG, rsS, rsX, rsY, eF, eT]
  refine con_intro (fn := Tryz.f47) tok Tryz.func47 (by kernel_rfl) rfl ?_
  intro w0 X
  rw [entry_mkE _ _ [(0, AG g.cs), (1, V1 (dSs s)), (2, AG l.cs)] rfl rfl]
  refine AWP_reg_seq tok fun K hK => ?_
  refine s_box rfl rfl rfl rfl rfl rfl ?_
  refine s_box rfl rfl rfl rfl rfl rfl ?_
  refine s_alloc rfl rfl rfl rfl rfl rfl ?_
  refine s_end (hK _ ?_); clear hK K
  refine a_draw tok mixed (A := [[], [], [], [1], [0, 1, 2], [], [], [], [6], [5, 6, 7], [], [], [], [5, 6, 7, 8, 10, 11], [5, 6, 7, 8, 9, 10, 11, 12], [0, 1, 2, 3, 5, 6, 7, 8, 9, 10, 11, 12, 13], []]) (an := [{}, {}, {}, {}, {}, {}, {}, {}, {}, {}, {}, {}, {}, {}, {}, {}, {}]) rfl (by kernel_rfl) rfl fun K hK => ?_
  refine s_move rfl rfl rfl ?_
  refine s_fieldAddr rfl rfl rfl ?_
  refine s_load rfl rfl rfl ?_
  refine s_indexAddr rfl (x_m SP.dc rfl rfl rfl e2 hj' rfl) rfl ?_
  refine s_load rfl rfl rfl ?_
  refine s_move rfl rfl rfl ?_
  refine s_fieldAddr rfl rfl rfl ?_
  refine s_load rfl rfl rfl ?_
  refine s_indexAddr rfl (x_m SP.dc rfl rfl rfl e1 hi' rfl) rfl ?_
  refine s_load rfl rfl rfl ?_
  refine s_load rfl rfl rfl ?_
  refine s_load rfl rfl rfl ?_
  refine s_call rfl rfl (c1) rfl rfl rfl rfl ?_
  refine s_call rfl rfl (c2) rfl rfl rfl rfl ?_
  refine s_call rfl rfl (c3) rfl rfl rfl rfl ?_
  refine s_call rfl rfl (c4) rfl rfl rfl rfl ?_
  refine s_store rfl rfl rfl rfl rfl ?_
  refine s_end (hK _ ?_); clear hK K
  refine AWP_ret ?_
  repeat (with_reducible refine tq_ret ?_)
  exact post_ret (fin_mk (by rfl) (by rfl) (by rfl))

/-- What a link costs. -/
def csT (g : GR) (s : List SP) (l : LK) : Rat := ((rsG g s l).vx * (rsG g s l).vx + (rsG g s l).vy * (rsG g s l).vy) * l.w
def csR (g : GR) (s : List SP) (ls : List LK) : Rat := ls.foldl (fun a l => a + csT g s l) 0
def costB (g : GR) (s : List SP) : Bool := validB g && decide (s.length = g.nodes.length)
/-- What Cost answers. -/
def costV (g : GR) (s : List SP) : RW × Int := if costB g s then (qzW (csR g s g.links), 0) else (rw00, 1)

structure GS (g : GR) (s : List SP) : Prop where
  gv : GV g
  hs : s.length = g.nodes.length
theorem costB_iff {g : GR} {s : List SP} : costB g s = true ↔ GS g s := by
  rw [costB, Bool.and_eq_true, validB_iff, decide_eq_true_eq]
  exact ⟨fun h => ⟨h.1, h.2⟩, fun h => ⟨h.gv, h.hs⟩⟩
theorem rsG_ok {g : GR} {s : List SP} {l : LK} (h : GS g s) (hl : l ∈ g.links) (ok : ∀ r ∈ g.nodes, r.OK 4096) (os : ∀ p ∈ s, p.OK 4096) : (rsG g s l).OK 24592 := by
  have lv := linkB_iff.1 (h.gv.lk l hl)
  exact rsS_ok (ok _ (frN_mem lv)) (os _ (atS_mem lv.f h.hs)) (os _ (atS_mem lv.t h.hs)) rfl lv.ix lv.iy rfl
theorem csT_le {g : GR} {s : List SP} {l : LK} (h : GS g s) (hl : l ∈ g.links) (ok : ∀ r ∈ g.nodes, r.OK 4096) (os : ∀ p ∈ s, p.OK 4096) : ql (csT g s l) ≤ 98400 := by
  have lv := linkB_iff.1 (h.gv.lk l hl)
  have o := rsG_ok h hl ok os
  exact le_d (ql_mul_le (ql_add_le (ql_mul_le (o.qx rfl) (o.qx rfl)) (ql_mul_le (o.qy rfl) (o.qy rfl))) (ql_i64 lv.iw)) rfl
theorem csR_le {g : GR} {s : List SP} (h : GS g s) (ok : ∀ r ∈ g.nodes, r.OK 4096) (os : ∀ p ∈ s, p.OK 4096) (ls : List LK) (hl : ∀ l ∈ ls, l ∈ g.links) (a : Rat) : ql (ls.foldl (fun a l => a + csT g s l) a) ≤ ql a + ls.length * 98401 := by
  induction ls generalizing a with
  | nil => simp
  | cons l ls ih =>
    rw [List.foldl_cons]
    have h1 := ih (fun x hx => hl x (List.mem_cons_of_mem _ hx)) (a + csT g s l)
    have h2 := ql_add_le (Nat.le_refl (ql a)) (csT_le h (hl l List.mem_cons_self) ok os)
    rw [List.length_cons]; omega
theorem csR_snoc (g : GR) (s : List SP) {ls : List LK} {i : Nat} (hi : i < ls.length) : csR g s (ls.take (i + 1)) = csR g s (ls.take i) + csT g s ls[i] := by
  rw [List.take_succ_eq_append_getElem hi, csR, List.foldl_append]; rfl

theorem qMul_r (a b : RW) (z : Rat) (ha : a.OK 16777216) (hb : b.OK 16777216) (h : a.v * b.v = z) : Con Tryz.prog 50 [AG a.cs, AG b.cs] { v := AG (qzW z).cs } := by
  subst h
  exact qMul_q a.v b.v _ _ _ _ _ _ _ _ ha.op ha.oq hb.op hb.oq ha.lp ha.lq hb.lp hb.lq rfl rfl
theorem qAdd_r (a b : RW) (z : Rat) (ha : a.OK 16777216) (hb : b.OK 16777216) (h : a.v + b.v = z) : Con Tryz.prog 49 [AG a.cs, AG b.cs] { v := AG (qzW z).cs } := by
  subst h
  exact qAdd_q a.v b.v _ _ _ _ _ _ _ _ ha.op ha.oq hb.op hb.oq ha.lp ha.lq hb.lp hb.lq rfl rfl
theorem qOfI_c (n : Int) (hn : I64 n) : Con Tryz.prog 40 [dI n, dI 1] { v := AG (qzW n).cs } := by
  have c := qOf_c n 1 hn ⟨by decide, by decide⟩
  rw [divInt_one] at c
  exact c

theorem gCost_c (g : GR) (s : List SP) (ok : ∀ r ∈ g.nodes, r.OK 4096) (os : ∀ p ∈ s, p.OK 4096) :
    Con Tryz.prog 23 [AG g.cs, V1 (dSs s)] { v := .tup [.agg (costV g s).1.cs, .one (.d (lI (costV g s).2))] } := by
  refine con_intro (fn := Tryz.f23) tok Tryz.func23 (by kernel_rfl) rfl ?_
  intro w0 X
  rw [entry_mkE _ _ [(0, AG g.cs), (1, V1 (dSs s))] rfl rfl]
  refine AWP_reg_seq tok fun K hK => ?_
  refine s_box rfl rfl rfl rfl rfl rfl ?_
  refine s_alloc rfl rfl rfl rfl rfl rfl ?_
  refine s_assign rfl rfl rfl ?_
  refine s_end (hK _ ?_); clear hK K
  refine AWP_seq ?_
  refine a_join (α := Bool) (fun c => mk 55 [(1, V1 (dSs s)), (2, .ptr 2 0), (4, .ptr 4 0), (21, dB c)] [(2, some (.box g.cs)), (4, some (.box [.d (.lit (.bool false)), .nil, .d (.lit (.bool false)), .nil]))] []) (fun c => c = !costB g s) ?_ ?_
  · refine AWP_regW fun K hK => ?_
    refine w_step tok rfl ?_
    refine s_load rfl rfl rfl ?_
    refine s_end ?_
    refine w_step tok rfl ?_
    refine s_call rfl rfl (gValid_c g) rfl rfl rfl rfl ?_
    refine s_end ?_
    refine w_step tok rfl ?_
    refine s_un rfl rfl rfl ?_
    refine s_end ?_
    refine w_step tok rfl ?_
    refine s_move rfl rfl rfl ?_
    refine s_end ?_
    refine w_split (fun h0 => ?_) (fun h0 => ?_)
    · refine w_skip rfl rfl ?_
      refine w_skip rfl rfl ?_
      refine w_skip rfl rfl ?_
      refine w_skip rfl rfl ?_
      refine w_skip rfl rfl ?_
      refine w_skip rfl rfl ?_
      refine w_step tok rfl ?_
      refine s_pick rfl rfl rfl ?_
      refine s_end ?_
      refine w_end rfl (hK _ ?_); clear hK K
      exact ⟨_, (by simp only [Bool.not_eq_true', Bool.not_eq_false'] at h0; simp only [costB, h0, Bool.false_and, Bool.true_and, Bool.not_false, e_ne]; try (rw [Bool.eq_iff_iff]; simp only [decide_eq_true_eq, Bool.not_eq_true', decide_eq_false_iff_not]; omega)), Wk.mk' ⟨rfl, rfl, rfl, rfl, trivial⟩ ⟨rfl, rfl, trivial⟩⟩
    · refine w_step tok rfl ?_
      refine s_move rfl rfl rfl ?_
      refine s_end ?_
      refine w_step tok rfl ?_
      refine s_blt rfl (len_m SP.dc rfl rfl) rfl ?_
      refine s_end ?_
      refine w_step tok rfl ?_
      refine s_fieldAddr rfl rfl rfl ?_
      refine s_end ?_
      refine w_step tok rfl ?_
      refine s_load rfl rfl rfl ?_
      refine s_end ?_
      refine w_step tok rfl ?_
      refine s_blt rfl (len_m RW.dc rfl rfl) rfl ?_
      refine s_end ?_
      refine w_step tok rfl ?_
      refine s_bin rfl rfl rfl ?_
      refine s_end ?_
      refine w_step tok rfl ?_
      refine s_pick rfl rfl rfl ?_
      refine s_end ?_
      refine w_end rfl (hK _ ?_); clear hK K
      exact ⟨_, (by simp only [Bool.not_eq_true', Bool.not_eq_false'] at h0; simp only [costB, h0, Bool.false_and, Bool.true_and, Bool.not_false, e_ne]; try (rw [Bool.eq_iff_iff]; simp only [decide_eq_true_eq, Bool.not_eq_true', decide_eq_false_iff_not]; omega)), Wk.mk' ⟨rfl, rfl, rfl, rfl, trivial⟩ ⟨rfl, rfl, trivial⟩⟩
  rintro c rfl
  refine a_cond rfl (fun hc => ?_) (fun hc => ?_)
  · rw [Bool.not_eq_true'] at hc
    have e : costV g s = (rw00, 1) := by rw [costV, if_neg (by rw [hc]; simp)]
    rw [e]
    refine AWP_reg_seq tok fun K hK => ?_
    refine s_build rfl rfl rfl ?_
    refine s_store rfl rfl rfl rfl rfl ?_
    refine s_assign rfl rfl rfl ?_
    refine s_end (hK _ ?_); clear hK K
    refine AWP_ret ?_
    repeat (with_reducible refine tq_ret ?_)
    exact post_ret (fin_mk (by rfl) (by rfl) (by rfl))
  rw [Bool.not_eq_false'] at hc
  have gs := costB_iff.1 hc
  have e : costV g s = (qzW (csR g s g.links), 0) := by rw [costV, if_pos hc]
  rw [e]
  refine AWP_skip ?_
  show AWP _ _ _ _ _ _
  refine AWP_reg_seq tok fun K hK => ?_
  refine s_call rfl rfl (qOfI_c 0 ⟨by decide, by decide⟩) rfl rfl rfl rfl ?_
  refine s_alloc rfl rfl rfl rfl rfl rfl ?_
  refine s_store rfl rfl rfl rfl rfl ?_
  refine s_end (hK _ ?_); clear hK K
  refine AWP_seq ?_
  refine AWP_reg_seq tok fun K hK => ?_
  refine s_fieldAddr rfl rfl rfl ?_
  refine s_load rfl rfl rfl ?_
  refine s_blt rfl (len_m LK.dc rfl rfl) rfl ?_
  refine s_move rfl rfl rfl ?_
  refine s_end (hK _ ?_); clear hK K
  refine AWP_block (a_loop (α := Nat) (fun i => mk 55 [(1, V1 (dSs s)), (2, .ptr 2 0), (4, .ptr 4 0), (6, .ptr 6 0), (25, V1 (dLs g.links)), (26, dI g.links.length), (27, dI i)] [(2, some (.box g.cs)), (4, some (.box [.d (.lit (.bool false)), .nil, .d (.lit (.bool false)), .nil])), (6, some (.box (qzW (csR g s (g.links.take i))).cs))] []) (fun i => i ≤ g.links.length) (fun i => g.links.length - i) 0 ?_ (Nat.zero_le _) ?_)
  · exact Wk.mk' ⟨rfl, rfl, rfl, rfl, rfl, rfl, rfl, trivial⟩ ⟨rfl, rfl, rfl, trivial⟩
  intro i hi
  refine AWP_reg_seq tok fun K hK => ?_
  refine s_bin rfl rfl rfl ?_
  refine s_end (hK _ ?_); clear hK K
  refine AWP_seq ?_
  refine a_cond rfl (fun hg => ?_) (fun hg => ?_)
  · have hg : i < g.links.length := by simp at hg; omega
    obtain ⟨l, hl⟩ : ∃ l, l = g.links[i] := ⟨_, rfl⟩
    have hm : l ∈ g.links := hl ▸ List.getElem_mem hg
    have lv := linkB_iff.1 (gs.gv.lk l hm)
    have o := rsG_ok gs hm ok os
    have l48 := gs.gv.l
    have ht := csT_le gs hm ok os
    have ha : ql (csR g s (g.links.take i)) ≤ 4723249 := by
      have := csR_le gs ok os (g.links.take i) (fun x hx => List.mem_of_mem_take hx) 0
      rw [List.length_take] at this
      rw [csR]
      have : ql (0 : Rat) = 1 := by decide
      omega
    obtain ⟨R, hR⟩ : ∃ R, R = rsG g s l := ⟨_, rfl⟩
    rw [← hR] at o
    have hT : (R.vx * R.vx + R.vy * R.vy) * (l.w : Rat) = csT g s l := by rw [hR]; rfl
    have hn := csR_snoc g s hg
    rw [← hl, ← hT] at hn
    rw [← hT] at ht
    generalize csR g s (g.links.take i) = A at *
    have q1 := ql_mul_le (o.qx rfl) (o.qx rfl)
    have q2 := ql_mul_le (o.qy rfl) (o.qy rfl)
    have q3 := ql_add_le q1 q2
    refine AWP_skip ?_
    show AWP _ _ _ _ _ _
    refine AWP_seq ?_
    refine AWP_block ?_
    refine AWP_reg_seq tok fun K hK => ?_
    refine s_indexAddr rfl (x_m LK.dc rfl rfl rfl rfl hg rfl) rfl ?_
    refine s_load rfl rfl rfl ?_
    refine s_alloc rfl rfl rfl rfl rfl rfl ?_
    refine s_store rfl rfl rfl rfl rfl ?_
    refine s_end (hK _ ?_); clear hK K
    rw [← hl]
    refine AWP_reg_seq tok fun K hK => ?_
    refine s_load rfl rfl rfl ?_
    refine s_move rfl rfl rfl ?_
    refine s_load rfl rfl rfl ?_
    refine s_call rfl rfl (hR ▸ residual_c g s l i hg hl.symm gs.gv gs.hs (fun r hr => (ok r hr).mono rfl) (fun r hr => (os r hr).mono rfl)) rfl rfl rfl rfl ?_
    refine s_alloc rfl rfl rfl rfl rfl rfl ?_
    refine s_store rfl rfl rfl rfl rfl ?_
    refine s_end (hK _ ?_); clear hK K
    refine a_draw tok mixed (A := [[], [], [], [], [0, 2], [], [], [], [], [0, 1, 2, 3, 5, 7], [0, 1, 2, 3, 5, 6, 7, 8], [], []]) (an := [{}, {}, {}, {}, {}, { c := [39] }, { c := [39] }, { c := [39] }, { c := [39] }, {}, {}, { c := [39, 44, 45] }, {}]) rfl (by kernel_rfl) rfl fun K hK => ?_
    refine s_fieldAddr rfl rfl rfl ?_
    refine s_load rfl rfl rfl ?_
    refine s_fieldAddr rfl rfl rfl ?_
    refine s_load rfl rfl rfl ?_
    refine s_call rfl rfl (qMul_r R.x R.x (R.vx * R.vx) (o.x.mono rfl) (o.x.mono rfl) rfl) rfl rfl rfl rfl ?_
    refine s_fieldAddr rfl rfl rfl ?_
    refine s_load rfl rfl rfl ?_
    refine s_fieldAddr rfl rfl rfl ?_
    refine s_load rfl rfl rfl ?_
    refine s_call rfl rfl (qMul_r R.y R.y (R.vy * R.vy) (o.y.mono rfl) (o.y.mono rfl) rfl) rfl rfl rfl rfl ?_
    refine s_call rfl rfl (qAdd_r (qzW (R.vx * R.vx)) (qzW (R.vy * R.vy)) (R.vx * R.vx + R.vy * R.vy) (qzW_ok (le_d q1 rfl)) (qzW_ok (le_d q2 rfl)) (by rw [qzW_v, qzW_v])) rfl rfl rfl rfl ?_
    refine s_alloc rfl rfl rfl rfl rfl rfl ?_
    refine s_store rfl rfl rfl rfl rfl ?_
    refine s_end (hK _ ?_); clear hK K
    refine a_draw1 tok mixed (A := [[], [], [], [], [2], [2, 3], [1, 2, 3, 4], []]) (an := [{}, {}, {}, {}, {}, {}, {}, {}]) rfl (by kernel_rfl) rfl fun K hK => ?_
    refine s_load rfl rfl rfl ?_
    refine s_load rfl rfl rfl ?_
    refine s_fieldAddr rfl rfl rfl ?_
    refine s_load rfl rfl rfl ?_
    refine s_call rfl rfl (qOfI_c l.w lv.iw) rfl rfl rfl rfl ?_
    refine s_call rfl rfl (qMul_r (qzW (R.vx * R.vx + R.vy * R.vy)) (qzW l.w) ((R.vx * R.vx + R.vy * R.vy) * (l.w : Rat)) (qzW_ok (le_d q3 rfl)) (qzW_ok (le_d (ql_i64 lv.iw) rfl)) (by rw [qzW_v, qzW_v])) rfl rfl rfl rfl ?_
    refine s_call rfl rfl (qAdd_r (qzW A) (qzW ((R.vx * R.vx + R.vy * R.vy) * (l.w : Rat))) (csR g s (g.links.take (i + 1))) (qzW_ok (le_d ha rfl)) (qzW_ok (le_d ht rfl)) (by rw [qzW_v, qzW_v, hn])) rfl rfl rfl rfl ?_
    refine s_store rfl rfl rfl rfl rfl ?_
    refine s_end (hK _ ?_); clear hK K
    show AWP _ _ _ _ _ _
    refine AWP_reg tok fun K hK => ?_
    refine s_bin rfl (e_add rfl (by omega)) rfl ?_
    refine s_move rfl rfl rfl ?_
    refine s_end (hK _ ?_); clear hK K
    exact ⟨i + 1, by omega, hg, Wk.mk' ⟨rfl, rfl, rfl, rfl, rfl, rfl, rfl, trivial⟩ ⟨rfl, rfl, rfl, trivial⟩⟩
  · have hg : i = g.links.length := by simp at hg; omega
    subst hg
    refine AWP_exit ?_
    show AWP _ _ _ _ _ _
    rw [List.take_length]
    refine AWP_reg_seq tok fun K hK => ?_
    refine s_load rfl rfl rfl ?_
    refine s_store rfl rfl rfl rfl rfl ?_
    refine s_assign rfl rfl rfl ?_
    refine s_end (hK _ ?_); clear hK K
    refine AWP_ret ?_
    repeat (with_reducible refine tq_ret ?_)
    exact post_ret (fin_mk (by rfl) (by rfl) (by rfl))
end Go.Proofs.YtcafppnjemgkiaaGreat

/- The residual of a link; moved positions. No condition. -/
namespace Go.Proofs.YtcafppnjemgkiaaGreat
attribute [local irreducible] lexA

/-- What Residual answers. -/
def resV (g : GR) (s : List SP) (k : Int) : SP × Int :=
  if costB g s then if h : 0 ≤ k ∧ k.toNat < g.links.length then (rsG g s g.links[k.toNat], 0) else (sp0, 2) else (sp0, 1)

theorem gResidual_c (g : GR) (s : List SP) (k : Int) (ok : ∀ r ∈ g.nodes, r.OK 65536) (os : ∀ p ∈ s, p.OK 65536) :
    Con Tryz.prog 21 [AG g.cs, V1 (dSs s), dI k] { v := .tup [.agg (resV g s k).1.cs, .one (.d (lI (resV g s k).2))] } := by
  refine con_intro (fn := Tryz.f21) tok Tryz.func21 (by kernel_rfl) rfl ?_
  intro w0 X
  rw [entry_mkE _ _ [(0, AG g.cs), (1, V1 (dSs s)), (2, dI k)] rfl rfl]
  refine AWP_reg_seq tok fun K hK => ?_
  refine s_box rfl rfl rfl rfl rfl rfl ?_
  refine s_alloc rfl rfl rfl rfl rfl rfl ?_
  refine s_assign rfl rfl rfl ?_
  refine s_end (hK _ ?_); clear hK K
  refine AWP_seq ?_
  refine AWP_block ?_
  refine a_join (α := Bool) (fun c => mk 38 [(1, V1 (dSs s)), (2, dI k), (3, .ptr 3 0), (6, .ptr 6 0), (8, dB c)] [(3, some (.box g.cs)), (6, some (.box [.d (.lit (.bool false)), .nil, .d (.lit (.bool false)), .nil, .d (.lit (.bool false)), .nil, .d (.lit (.bool false)), .nil]))] []) (fun c => c = !costB g s) ?_ ?_
  · refine AWP_regW fun K hK => ?_
    refine w_step tok rfl ?_
    refine s_load rfl rfl rfl ?_
    refine s_end ?_
    refine w_step tok rfl ?_
    refine s_call rfl rfl (gValid_c g) rfl rfl rfl rfl ?_
    refine s_end ?_
    refine w_step tok rfl ?_
    refine s_un rfl rfl rfl ?_
    refine s_end ?_
    refine w_step tok rfl ?_
    refine s_move rfl rfl rfl ?_
    refine s_end ?_
    refine w_split (fun h0 => ?_) (fun h0 => ?_)
    · refine w_skip rfl rfl ?_
      refine w_skip rfl rfl ?_
      refine w_skip rfl rfl ?_
      refine w_skip rfl rfl ?_
      refine w_skip rfl rfl ?_
      refine w_skip rfl rfl ?_
      refine w_step tok rfl ?_
      refine s_pick rfl rfl rfl ?_
      refine s_end ?_
      refine w_step tok rfl ?_
      refine s_assign rfl rfl rfl ?_
      refine s_end ?_
      refine w_end rfl (hK _ ?_); clear hK K
      exact ⟨_, (by simp only [Bool.not_eq_true', Bool.not_eq_false'] at h0; simp only [costB, h0, Bool.false_and, Bool.true_and, Bool.not_false, e_ne]; try (rw [Bool.eq_iff_iff]; simp only [decide_eq_true_eq, Bool.not_eq_true', decide_eq_false_iff_not]; omega)), Wk.mk' ⟨rfl, rfl, rfl, rfl, rfl, trivial⟩ ⟨rfl, rfl, trivial⟩⟩
    · refine w_step tok rfl ?_
      refine s_move rfl rfl rfl ?_
      refine s_end ?_
      refine w_step tok rfl ?_
      refine s_blt rfl (len_m SP.dc rfl rfl) rfl ?_
      refine s_end ?_
      refine w_step tok rfl ?_
      refine s_fieldAddr rfl rfl rfl ?_
      refine s_end ?_
      refine w_step tok rfl ?_
      refine s_load rfl rfl rfl ?_
      refine s_end ?_
      refine w_step tok rfl ?_
      refine s_blt rfl (len_m RW.dc rfl rfl) rfl ?_
      refine s_end ?_
      refine w_step tok rfl ?_
      refine s_bin rfl rfl rfl ?_
      refine s_end ?_
      refine w_step tok rfl ?_
      refine s_pick rfl rfl rfl ?_
      refine s_end ?_
      refine w_step tok rfl ?_
      refine s_assign rfl rfl rfl ?_
      refine s_end ?_
      refine w_end rfl (hK _ ?_); clear hK K
      exact ⟨_, (by simp only [Bool.not_eq_true', Bool.not_eq_false'] at h0; simp only [costB, h0, Bool.false_and, Bool.true_and, Bool.not_false, e_ne]; try (rw [Bool.eq_iff_iff]; simp only [decide_eq_true_eq, Bool.not_eq_true', decide_eq_false_iff_not]; omega)), Wk.mk' ⟨rfl, rfl, rfl, rfl, rfl, trivial⟩ ⟨rfl, rfl, trivial⟩⟩
  rintro c rfl
  refine a_cond rfl (fun hc => ?_) (fun hc => ?_)
  · rw [Bool.not_eq_true'] at hc
    have e : resV g s k = (sp0, 1) := by rw [resV, if_neg (by rw [hc]; simp)]
    rw [e]
    refine AWP_reg_seq tok fun K hK => ?_
    refine s_build rfl rfl rfl ?_
    refine s_store rfl rfl rfl rfl rfl ?_
    refine s_assign rfl rfl rfl ?_
    refine s_end (hK _ ?_); clear hK K
    refine AWP_ret ?_
    repeat (with_reducible refine tq_ret ?_)
    exact post_ret (fin_mk (by rfl) (by rfl) (by rfl))
  rw [Bool.not_eq_false'] at hc
  have gs := costB_iff.1 hc
  have l48 := gs.gv.l
  refine AWP_reg_seq tok fun K hK => ?_
  refine s_move rfl rfl rfl ?_
  refine s_fieldAddr rfl rfl rfl ?_
  refine s_load rfl rfl rfl ?_
  refine s_blt rfl (len_m LK.dc rfl rfl) rfl ?_
  refine s_bin rfl (e_sub rfl (by omega)) rfl ?_
  refine s_call rfl rfl (within_c _ _ _) rfl rfl rfl rfl ?_
  refine s_un rfl rfl rfl ?_
  refine s_assign rfl rfl rfl ?_
  refine s_end (hK _ ?_); clear hK K
  refine a_cond rfl (fun hd => ?_) (fun hd => ?_)
  · have hd : ¬ (0 ≤ k ∧ k.toNat < g.links.length) := by
      rw [Bool.not_eq_true', inR, decide_eq_false_iff_not] at hd; omega
    have e : resV g s k = (sp0, 2) := by rw [resV, if_pos hc, dif_neg hd]
    rw [e]
    refine AWP_reg_seq tok fun K hK => ?_
    refine s_build rfl rfl rfl ?_
    refine s_store rfl rfl rfl rfl rfl ?_
    refine s_assign rfl rfl rfl ?_
    refine s_end (hK _ ?_); clear hK K
    refine AWP_ret ?_
    repeat (with_reducible refine tq_ret ?_)
    exact post_ret (fin_mk (by rfl) (by rfl) (by rfl))
  have hd : 0 ≤ k ∧ k.toNat < g.links.length := by
    rw [Bool.not_eq_false', inR, decide_eq_true_eq] at hd; omega
  have e : resV g s k = (rsG g s g.links[k.toNat], 0) := by rw [resV, if_pos hc, dif_pos hd]
  rw [e]
  refine AWP_skip ?_
  show AWP _ _ _ _ _ _
  refine a_draw tok mixed (A := [[], [], [], [], [], [2], [2, 3, 4], [2, 3, 4, 5], [], []]) (an := [{}, {}, {}, {}, {}, {}, {}, {}, {}, {}]) rfl (by kernel_rfl) rfl fun K hK => ?_
  refine s_load rfl rfl rfl ?_
  refine s_move rfl rfl rfl ?_
  refine s_fieldAddr rfl rfl rfl ?_
  refine s_load rfl rfl rfl ?_
  refine s_move rfl rfl rfl ?_
  refine s_indexAddr rfl (x_m LK.dc rfl rfl rfl (by omega) hd.2 rfl) rfl ?_
  refine s_load rfl rfl rfl ?_
  refine s_call rfl rfl (residual_c g s g.links[k.toNat] k.toNat hd.2 rfl gs.gv gs.hs ok os) rfl rfl rfl rfl ?_
  refine s_store rfl rfl rfl rfl rfl ?_
  refine s_assign rfl rfl rfl ?_
  refine s_end (hK _ ?_); clear hK K
  refine AWP_ret ?_
  repeat (with_reducible refine tq_ret ?_)
  exact post_ret (fin_mk (by rfl) (by rfl) (by rfl))

/-- Moved positions. -/
def mvP (x y : RW) (p : SP) : SP := szW (p.vx + x.v) (p.vy + y.v)
theorem take_map_snoc {α β : Type} (f : α → β) {l : List α} {i : Nat} (h : i < l.length) {z : β} (hz : f l[i] = z) : (l.take i).map f ++ [z] = (l.take (i + 1)).map f := by
  rw [List.take_succ_eq_append_getElem h, List.map_append, ← hz]; rfl
theorem dSs_eq {a b : List SP} (h : a = b) : V1 (dSs a) = V1 (dSs b) := by rw [h]

theorem gMoved_c (s : List SP) (x y : RW) (hl : s.length ≤ 1048576) (os : ∀ p ∈ s, p.OK 16777216) (ox : x.OK 16777216) (oy : y.OK 16777216) :
    Con Tryz.prog 31 [V1 (dSs s), AG x.cs, AG y.cs] { v := V1 (dSs (s.map (mvP x y))) } := by
  have hml : (s.map (mvP x y)).length = s.length := List.length_map _
  have c : ∀ p ∈ s, Con Tryz.prog 41 [AG p.cs, AG (SP.mk x y).cs] { v := AG (mvP x y p).cs } := fun p hp => plus_q p ⟨x, y⟩ _ _ (os p hp) ⟨ox, oy⟩ rfl rfl
  refine con_intro (fn := Tryz.f31) tok Tryz.func31 (by kernel_rfl) rfl ?_
  intro w0 X
  rw [entry_mkE _ _ [(0, V1 (dSs s)), (1, AG x.cs), (2, AG y.cs)] rfl rfl]
  refine AWP_reg_seq tok fun K hK => ?_
  refine s_box rfl rfl rfl rfl rfl rfl ?_
  refine s_box rfl rfl rfl rfl rfl rfl ?_
  refine s_assign rfl rfl rfl ?_
  refine s_end (hK _ ?_); clear hK K
  refine AWP_reg_seq tok fun K hK => ?_
  refine s_assign rfl rfl rfl ?_
  refine s_end (hK _ ?_); clear hK K
  refine AWP_seq ?_
  refine AWP_reg_seq tok fun K hK => ?_
  refine s_move rfl rfl rfl ?_
  refine s_blt rfl (len_m SP.dc rfl rfl) rfl ?_
  refine s_move rfl rfl rfl ?_
  refine s_end (hK _ ?_); clear hK K
  refine AWP_block (a_loop (α := Nat) (fun i => mk 26 [(4, .ptr 4 0), (5, .ptr 5 0), (7, ownN 7 8 i), (10, V1 (dSs s)), (11, dI s.length), (12, dI i)] [(4, some (.box x.cs)), (5, some (.box y.cs)), (7, arrN 8 (((s.take i).map (mvP x y)).map SP.dc) i)] []) (fun i => i ≤ s.length) (fun i => s.length - i) 0 ?_ (Nat.zero_le _) ?_)
  · exact Wk.mk' ⟨rfl, rfl, rfl, rfl, rfl, rfl, trivial⟩ ⟨rfl, rfl, rfl, trivial⟩
  intro i hi
  refine AWP_reg_seq tok fun K hK => ?_
  refine s_bin rfl rfl rfl ?_
  refine s_end (hK _ ?_); clear hK K
  refine AWP_seq ?_
  refine a_cond rfl (fun hg => ?_) (fun hg => ?_)
  · have hg : i < s.length := by simp at hg; omega
    have hp := c s[i] (List.getElem_mem hg)
    have hz : ((s.take i).map (mvP x y)).map SP.dc ++ [(mvP x y s[i]).dc] = ((s.take (i + 1)).map (mvP x y)).map SP.dc := by
      rw [List.map_map, List.map_map]; exact take_map_snoc (SP.dc ∘ mvP x y) hg rfl
    have hsz : (((s.take i).map (mvP x y)).map SP.dc).length = i := by simp; omega
    generalize ((s.take i).map (mvP x y)).map SP.dc = es at hz hsz ⊢
    refine AWP_skip ?_
    show AWP _ _ _ _ _ _
    refine AWP_seq ?_
    refine AWP_block ?_
    rcases i with _ | i
    · refine AWP_reg_seq tok fun K hK => ?_
      refine s_indexAddr rfl (x_m SP.dc rfl rfl rfl rfl hg rfl) rfl ?_
      refine s_load rfl rfl rfl ?_
      refine s_alloc rfl rfl rfl rfl rfl rfl ?_
      refine s_store rfl rfl rfl rfl rfl ?_
      refine s_end (hK _ ?_); clear hK K
      refine AWP_reg tok fun K hK => ?_
      refine s_move rfl rfl rfl ?_
      refine s_load rfl rfl rfl ?_
      refine s_load rfl rfl rfl ?_
      refine s_load rfl rfl rfl ?_
      refine s_build rfl rfl rfl ?_
      refine s_call rfl rfl (hp) rfl rfl rfl rfl ?_
      refine s_buildSlice rfl rfl rfl rfl ?_
      refine s_append rfl (ap_nil rfl rfl rfl rfl rfl (by decide) (Nat.le_of_ble_eq_true rfl) rfl (by simp) rfl (by simp) (by simp)) rfl rfl ?_
      refine s_assign rfl rfl rfl ?_
      refine s_end (hK _ ?_); clear hK K
      show AWP _ _ _ _ _ _
      refine AWP_reg tok fun K hK => ?_
      refine s_bin rfl (e_add (c := ((0 + 1 : Nat) : Int)) (by omega) (by omega)) rfl ?_
      refine s_move rfl rfl rfl ?_
      refine s_end (hK _ ?_); clear hK K
      refine ⟨0 + 1, by omega, hg, Wk.rn [4, 5, 10, 11, 12, 7] [4, 5, 23] 23 7 rfl rfl rfl ⟨rfl, rfl, rfl, rfl, rfl, rfl, trivial⟩ ⟨rfl, rfl, ?_, trivial⟩⟩
      have : es = [] := List.length_eq_zero_iff.1 hsz
      subst this
      rw [← hz]; rfl
    · refine AWP_reg_seq tok fun K hK => ?_
      refine s_indexAddr rfl (x_m SP.dc rfl rfl rfl rfl hg rfl) rfl ?_
      refine s_load rfl rfl rfl ?_
      refine s_alloc rfl rfl rfl rfl rfl rfl ?_
      refine s_store rfl rfl rfl rfl rfl ?_
      refine s_end (hK _ ?_); clear hK K
      refine AWP_reg tok fun K hK => ?_
      refine s_move rfl rfl rfl ?_
      refine s_load rfl rfl rfl ?_
      refine s_load rfl rfl rfl ?_
      refine s_load rfl rfl rfl ?_
      refine s_build rfl rfl rfl ?_
      refine s_call rfl rfl (hp) rfl rfl rfl rfl ?_
      refine s_buildSlice rfl rfl rfl rfl ?_
      refine s_append rfl (ap_o rfl rfl rfl rfl rfl rfl (by decide) (Nat.le_of_ble_eq_true rfl) rfl (by simp) rfl rfl hsz.symm (by simp; omega)) rfl rfl ?_
      refine s_assign rfl rfl rfl ?_
      refine s_end (hK _ ?_); clear hK K
      show AWP _ _ _ _ _ _
      refine AWP_reg tok fun K hK => ?_
      refine s_bin rfl (e_add (c := ((i + 1 + 1 : Nat) : Int)) (by omega) (by omega)) rfl ?_
      refine s_move rfl rfl rfl ?_
      refine s_end (hK _ ?_); clear hK K
      refine ⟨i + 1 + 1, by omega, hg, Wk.rn [4, 5, 10, 11, 12, 7] [4, 5, 23] 23 7 rfl rfl rfl ⟨rfl, rfl, ?_, rfl, rfl, rfl, trivial⟩ ⟨rfl, rfl, ?_, trivial⟩⟩
      · show SV.val (.one (.own 7 8 0 _)) = _
        rw [List.length_append, hsz]; rfl
      · rw [← hz]; rfl
  · have hg : i = s.length := by simp at hg; omega
    subst hg
    refine AWP_exit ?_
    show AWP _ _ _ _ _ _
    rw [List.take_length]
    rcases s with _ | ⟨p, s⟩
    · refine AWP_reg_seq tok fun K hK => ?_
      refine s_move rfl rfl rfl ?_
      refine s_assign rfl rfl rfl ?_
      refine s_end (hK _ ?_); clear hK K
      refine AWP_ret ?_
      repeat (with_reducible refine tq_ret ?_)
      exact post_ret (fin_mk (by rfl) (by rfl) (by rfl))
    · refine a_fz [7] [7] 7 [(7, V1 (dSs ((p :: s).map (mvP x y))))] [] rfl ?_ trivial ?_
      · exact ⟨frz_own rfl (by simp), trivial⟩
      refine AWP_reg_seq tok fun K hK => ?_
      refine s_move rfl rfl rfl ?_
      refine s_assign rfl rfl rfl ?_
      refine s_end (hK _ ?_); clear hK K
      refine AWP_ret ?_
      repeat (with_reducible refine tq_ret ?_)
      exact post_ret (fin_mk (by rfl) (by rfl) (by rfl))
end Go.Proofs.YtcafppnjemgkiaaGreat
