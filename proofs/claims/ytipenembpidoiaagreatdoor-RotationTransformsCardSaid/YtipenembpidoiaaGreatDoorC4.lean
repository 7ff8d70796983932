/- Part of a proof that a Go function answers true for every input. No condition. -/
import Derived.Test.YtipenembpidoiaaGreatDoorC3
import Derived.Laws.Strings2
set_option linter.unusedVariables false
set_option linter.unusedSimpArgs false
set_option linter.unusedSectionVars false
/- The reference's integers: products, division bit by bit. No condition. -/
namespace Go.Proofs.YtipenembpidoiaaGreatDoor
attribute [local irreducible] lexA

theorem WTI.rowk {a b : List Nat} {i k : Nat} {out : List Nat} (h : WTI a (b ++ [0]) i k out 0) (hk : b.length ≤ k) : WTI a (b ++ [0]) (i + 1) 0 out 0 := by
  have hb : wv ((b ++ [0]).take k) = wv (b ++ [0]) := by
    rcases Nat.lt_or_ge b.length k with h' | h'
    · rw [List.take_of_length_le (by simp; omega)]
    · have : k = b.length := by omega
      subst this
      rw [List.take_append_of_le_length (Nat.le_refl _), List.take_of_length_le (Nat.le_refl _), wv_append]; simp [wv]
  have hv := h.val
  rw [hb] at hv
  refine ⟨h.ok, h.len, fun m hm => h.hi m (by omega), ?_, by decide⟩
  rw [wv_take']
  simp only [List.take_zero, wv, Nat.mul_zero, Nat.zero_mul, Nat.add_zero] at *
  rw [hv]; grind
theorem WTI.c0 {a b : List Nat} (ha : wOK a) (hb : wOK b) {i : Nat} {out : List Nat} {c : Nat} (h : WTI a (b ++ [0]) i (b.length + 1) out c) : c = 0 := by
  have hv := h.val
  have e0 : (b ++ [0]).take (b.length + 1) = b ++ [0] := List.take_of_length_le (by simp)
  rw [e0] at hv
  have hw : wv (b ++ [0]) = wv b := by rw [wv_append]; simp [wv]
  rw [hw] at hv
  have e : wv (a.take i) * wv b + a.getD i 0 * wv b * 4294967296 ^ i = wv (a.take (i + 1)) * wv b := by rw [wv_take']; grind
  rw [e] at hv
  have h1 := wv_take_lt ha (i + 1)
  have h2 := wv_lt hb
  have h3 : wv (a.take (i + 1)) * wv b < 4294967296 ^ (i + (b.length + 1)) := by
    rw [show i + (b.length + 1) = i + 1 + b.length from by omega, Nat.pow_add]
    rcases Nat.eq_zero_or_pos (wv b) with h0 | h0
    · rw [h0, Nat.mul_zero]; exact Nat.mul_pos (pow_pos _) (pow_pos _)
    · calc wv (a.take (i + 1)) * wv b < 4294967296 ^ (i + 1) * wv b := Nat.mul_lt_mul_of_pos_right h1 h0
        _ ≤ 4294967296 ^ (i + 1) * 4294967296 ^ b.length := Nat.mul_le_mul_left _ (Nat.le_of_lt h2)
  rcases Nat.eq_zero_or_pos c with h0 | h0
  · exact h0
  · have : 1 * 4294967296 ^ (i + (b.length + 1)) ≤ c * 4294967296 ^ (i + (b.length + 1)) := Nat.mul_le_mul_right _ h0
    omega
theorem getD_app0 (b : List Nat) (k : Nat) : (b ++ [0]).getD k 0 = b.getD k 0 := by
  rw [List.getD_eq_getElem?_getD, List.getD_eq_getElem?_getD, List.getElem?_append]
  split
  · rfl
  · rename_i h
    rw [List.getElem?_eq_none (by omega : b.length ≤ k)]
    rcases Nat.lt_or_ge (k - b.length) 1 with h' | h'
    · have : k - b.length = 0 := by omega
      rw [this]; rfl
    · rw [List.getElem?_eq_none (by simpa using h')]

theorem r1Mul_c (na nb : Bool) (wa wb : List Nat) (ha : wOK wa) (hb : wOK wb) (la : wa.length ≤ 500000000) (lb : wb.length ≤ 500000000) :
    Con Tryz.prog 59 [AG (IC na wa), AG (IC nb wb)] { v := AG (ZC (zv na wa * zv nb wb)) } := by
  have hb' : wOK (wb ++ [0]) := hb.append (wOK.one (by decide))
  have lb' : (wb ++ [0]).length = wb.length + 1 := by simp
  refine con_intro (fn := Tryz.f59) tok Tryz.func59 (by kernel_rfl) rfl ?_
  intro w0 X
  rw [entry_mkE _ _ [(0, AG (IC na wa)), (1, AG (IC nb wb))] rfl rfl]
  refine AWP_reg_seq tok fun K hK => ?_
  refine s_box rfl rfl rfl rfl rfl rfl ?_
  refine s_box rfl rfl rfl rfl rfl rfl ?_
  refine s_alloc rfl rfl rfl rfl rfl rfl ?_
  refine s_end (hK _ ?_); clear hK K
  refine AWP_reg_seq tok fun K hK => ?_
  refine s_fieldAddr rfl rfl rfl ?_
  refine s_load rfl rfl rfl ?_
  refine s_blt rfl (len_w rfl rfl rfl) rfl ?_
  refine s_fieldAddr rfl rfl rfl ?_
  refine s_load rfl rfl rfl ?_
  refine s_blt rfl (len_w rfl rfl rfl) rfl ?_
  refine s_bin rfl (e_add (c := ((wa.length + wb.length : Nat) : Int)) (by omega) (by omega)) rfl ?_
  refine s_bin rfl (e_add (c := ((wa.length + (wb.length + 1) : Nat) : Int)) (by omega) (by omega)) rfl ?_
  refine s_makeSlice (sz := _) (es := _) (f := _) (v := _) rfl (mk_w (l := wa.length + (wb.length + 1)) (c := wa.length + (wb.length + 1)) rfl rfl rfl rfl rfl (Nat.le_of_ble_eq_true rfl) rfl rfl (by omega) (by omega)) rfl rfl ?_
  refine s_assign rfl rfl rfl ?_
  refine s_end (hK _ ?_); clear hK K
  refine AWP_seq ?_
  refine AWP_reg_seq tok fun K hK => ?_
  refine s_assign rfl rfl rfl ?_
  refine s_end (hK _ ?_); clear hK K
  refine AWP_block (a_loop (α := Nat × List Nat) (fun p => mk 83 [(2, .ptr 2 0), (3, .ptr 3 0), (4, .ptr 4 0), (5, .val (.one (.own 18 1 0 (wa.length + (wb.length + 1))))), (6, dI p.1)] [(2, some (.box (IC na wa))), (3, some (.box (IC nb wb))), (4, some (.box [.d (.lit (.bool false)), .nil])), (18, some (.arr 1 (p.2.map cW)))] []) (fun p => p.1 ≤ wa.length ∧ WTI wa (wb ++ [0]) p.1 0 p.2 0) (fun p => wa.length - p.1) (0, List.replicate (wa.length + (wb.length + 1)) 0) ?_ ⟨Nat.zero_le _, lb' ▸ WTI.start wa (wb ++ [0])⟩ ?_)
  · exact Wk.mk' ⟨rfl, rfl, rfl, rfl, rfl, trivial⟩ ⟨rfl, rfl, rfl, rfl, trivial⟩
  rintro ⟨i, out⟩ ⟨hi, hti⟩
  simp only at hi hti
  show AWP _ _ _ _ _ (mk 83 [(2, .ptr 2 0), (3, .ptr 3 0), (4, .ptr 4 0), (5, .val (.one (.own 18 1 0 (wa.length + (wb.length + 1))))), (6, dI i)] [(2, some (.box (IC na wa))), (3, some (.box (IC nb wb))), (4, some (.box [.d (.lit (.bool false)), .nil])), (18, some (.arr 1 (out.map cW)))] [])
  refine AWP_seq ?_
  refine AWP_reg_seq tok fun K hK => ?_
  refine s_move rfl rfl rfl ?_
  refine s_fieldAddr rfl rfl rfl ?_
  refine s_load rfl rfl rfl ?_
  refine s_blt rfl (len_w rfl rfl rfl) rfl ?_
  refine s_bin rfl rfl rfl ?_
  refine s_end (hK _ ?_); clear hK K
  refine a_cond rfl (fun hg => ?_) (fun hg => ?_)
  · have hg : i < wa.length := by simp at hg; omega
    refine AWP_skip ?_
    show AWP _ _ _ _ _ _
    refine AWP_seq ?_
    refine AWP_block ?_
    refine AWP_reg_seq tok fun K hK => ?_
    refine s_assign rfl rfl rfl ?_
    refine s_end (hK _ ?_); clear hK K
    refine AWP_reg_seq tok fun K hK => ?_
    refine s_assign rfl rfl rfl ?_
    refine s_end (hK _ ?_); clear hK K
    refine AWP_block (a_loop (α := Nat × List Nat × Nat) (fun p => mk 83 [(2, .ptr 2 0), (3, .ptr 3 0), (4, .ptr 4 0), (5, .val (.one (.own 18 1 0 (wa.length + (wb.length + 1))))), (6, dI i), (7, dL p.2.2), (8, dI p.1)] [(2, some (.box (IC na wa))), (3, some (.box (IC nb wb))), (4, some (.box [.d (.lit (.bool false)), .nil])), (18, some (.arr 1 (p.2.1.map cW)))] []) (fun p => p.1 ≤ wb.length + 1 ∧ WTI wa (wb ++ [0]) i p.1 p.2.1 p.2.2) (fun p => wb.length + 1 - p.1) (0, out, 0) ?_ ⟨Nat.zero_le _, hti⟩ ?_)
    · exact Wk.mk' ⟨rfl, rfl, rfl, rfl, rfl, rfl, rfl, trivial⟩ ⟨rfl, rfl, rfl, rfl, trivial⟩
    rintro ⟨j, out, c⟩ ⟨hj, hti⟩
    simp only at hj hti
    show AWP _ _ _ _ _ (mk 83 [(2, .ptr 2 0), (3, .ptr 3 0), (4, .ptr 4 0), (5, .val (.one (.own 18 1 0 (wa.length + (wb.length + 1))))), (6, dI i), (7, dL c), (8, dI j)] [(2, some (.box (IC na wa))), (3, some (.box (IC nb wb))), (4, some (.box [.d (.lit (.bool false)), .nil])), (18, some (.arr 1 (out.map cW)))] [])
    have hlen := hti.len
    rw [lb'] at hlen
    have hcl := hti.cl
    refine AWP_seq ?_
    refine a_join (α := Bool) (fun p => mk 83 [(2, .ptr 2 0), (3, .ptr 3 0), (4, .ptr 4 0), (5, .val (.one (.own 18 1 0 (wa.length + (wb.length + 1))))), (6, dI i), (7, dL c), (8, dI j), (34, dB p)] [(2, some (.box (IC na wa))), (3, some (.box (IC nb wb))), (4, some (.box [.d (.lit (.bool false)), .nil])), (18, some (.arr 1 (out.map cW)))] []) (fun p => (p = true → j ≤ wb.length) ∧ (p = false → wb.length ≤ j ∧ c = 0)) ?_ ?_
    · refine AWP_reg tok fun K hK => ?_
      refine s_move rfl rfl rfl ?_
      refine s_fieldAddr rfl rfl rfl ?_
      refine s_load rfl rfl rfl ?_
      refine s_blt rfl (len_w rfl rfl rfl) rfl ?_
      refine s_bin rfl rfl rfl ?_
      refine s_move rfl rfl rfl ?_
      refine s_split (fun hx => ?_) (fun hx => ?_)
      · have hx : j < wb.length := by simp at hx; omega
        refine s_skip rfl ?_
        refine s_skip rfl ?_
        refine s_pick rfl rfl rfl ?_
        refine s_end (hK _ ?_); clear hK K
        exact ⟨true, ⟨fun _ => by omega, fun h => (by cases h)⟩, Wk.mk' ⟨rfl, rfl, rfl, rfl, rfl, rfl, rfl, rfl, trivial⟩ ⟨rfl, rfl, rfl, rfl, trivial⟩⟩
      · have hx : wb.length ≤ j := by simp at hx; omega
        refine s_move rfl rfl rfl ?_
        refine s_bin rfl rfl rfl ?_
        refine s_pick rfl rfl rfl ?_
        refine s_end (hK _ ?_); clear hK K
        refine ⟨_, ⟨fun h => ?_, fun h => ?_⟩, Wk.mk' ⟨rfl, rfl, rfl, rfl, rfl, rfl, rfl, rfl, trivial⟩ ⟨rfl, rfl, rfl, rfl, trivial⟩⟩
        · rcases Nat.lt_or_ge wb.length j with h' | h'
          · have : j = wb.length + 1 := by omega
            subst this
            have := hti.c0 ha hb
            subst this
            simp at h
          · exact h'
        · exact ⟨hx, by simp at h; omega⟩
    rintro p ⟨h1, h2⟩
    refine a_cond rfl (fun hh => ?_) (fun hh => ?_)
    · have hh := h1 hh
      have hB := hti.bound ha hb'
      have hij : i + j < out.length := by omega
      have hst := hti.step hg (by omega) hB
      rw [getD_app0] at hB hst
      have hm : wa.getD i 0 * wb.getD j 0 < 18446744073709551616 := by omega
      have hou := getD_lt hti.ok (i + j)
      refine AWP_skip ?_
      show AWP _ _ _ _ _ _
      refine AWP_seq ?_
      refine AWP_block ?_
      refine a_keep [(2, .ptr 2 0), (3, .ptr 3 0), (4, .ptr 4 0), (5, .val (.one (.own 18 1 0 (wa.length + (wb.length + 1))))), (6, dI i), (7, dL c), (8, dI j)] [(2, some (.box (IC na wa))), (3, some (.box (IC nb wb))), (4, some (.box [.d (.lit (.bool false)), .nil])), (18, some (.arr 1 (out.map cW)))] ⟨rfl, rfl, rfl, rfl, rfl, rfl, rfl, trivial⟩ ⟨rfl, rfl, rfl, rfl, trivial⟩ ?_
      refine AWP_reg_seq tok fun K hK => ?_
      refine s_move rfl rfl rfl ?_
      refine s_move rfl rfl rfl ?_
      refine s_move rfl rfl rfl ?_
      refine s_bin rfl (e_add (c := ((i + j : Nat) : Int)) (by omega) (by omega)) rfl ?_
      refine s_indexAddr rfl (x_o (i := i + j) (j := i + j) rfl rfl rfl rfl rfl (by omega) (by omega)) rfl ?_
      refine s_load rfl (l_wD rfl rfl rfl rfl hij) rfl ?_
      refine s_conv rfl (e_conv rfl rfl rfl (wrapL (hti.ok.lt64 _))) rfl ?_
      refine s_move rfl rfl rfl ?_
      refine s_bin rfl (e_addL rfl (by omega)) rfl ?_
      refine s_assign rfl rfl rfl ?_
      refine s_end (hK _ ?_); clear hK K
      refine a_join (α := Unit) (fun _ => mk 83 [(2, .ptr 2 0), (3, .ptr 3 0), (4, .ptr 4 0), (5, .val (.one (.own 18 1 0 (wa.length + (wb.length + 1))))), (6, dI i), (8, dI j), (9, dL (wa.getD i 0 * wb.getD j 0 + out.getD (i + j) 0 + c))] [(2, some (.box (IC na wa))), (3, some (.box (IC nb wb))), (4, some (.box [.d (.lit (.bool false)), .nil])), (18, some (.arr 1 (out.map cW)))] []) (fun _ => True) ?_ ?_
      · refine AWP_reg_seq tok fun K hK => ?_
        refine s_move rfl rfl rfl ?_
        refine s_fieldAddr rfl rfl rfl ?_
        refine s_load rfl rfl rfl ?_
        refine s_blt rfl (len_w rfl rfl rfl) rfl ?_
        refine s_bin rfl rfl rfl ?_
        refine s_end (hK _ ?_); clear hK K
        refine a_cond rfl (fun hx => ?_) (fun hx => ?_)
        · have hx : j < wb.length := by simp at hx; omega
          refine a_keep [(2, .ptr 2 0), (3, .ptr 3 0), (4, .ptr 4 0), (5, .val (.one (.own 18 1 0 (wa.length + (wb.length + 1))))), (6, dI i), (8, dI j), (9, dL (out.getD (i + j) 0 + c))] [(2, some (.box (IC na wa))), (3, some (.box (IC nb wb))), (4, some (.box [.d (.lit (.bool false)), .nil])), (18, some (.arr 1 (out.map cW)))] ⟨rfl, rfl, rfl, rfl, rfl, rfl, rfl, trivial⟩ ⟨rfl, rfl, rfl, rfl, trivial⟩ ?_
          refine a_draw1 tok mixed (A := [[], [], [], [], [1], [1, 2, 3], [1, 2, 3, 4], [], [], [], [7], [7, 8, 9], [7, 8, 9, 10], [1, 2, 3, 4, 5, 7, 8, 9, 10, 11], [1, 2, 3, 4, 5, 6, 7, 8, 9, 10, 11, 12], []]) (an := [{}, {}, {}, {}, {}, {}, {}, {}, {}, {}, {}, {}, {}, {}, {}, {}]) rfl (by kernel_rfl) rfl fun K hK => ?_
          refine s_move rfl rfl rfl ?_
          refine s_fieldAddr rfl rfl rfl ?_
          refine s_load rfl rfl rfl ?_
          refine s_move rfl rfl rfl ?_
          refine s_indexAddr rfl (x_wD (i := i) rfl rfl rfl rfl rfl hg) rfl ?_
          refine s_load rfl rfl rfl ?_
          refine s_conv rfl (e_conv rfl rfl rfl (wrapL (ha.lt64 i))) rfl ?_
          refine s_fieldAddr rfl rfl rfl ?_
          refine s_load rfl rfl rfl ?_
          refine s_move rfl rfl rfl ?_
          refine s_indexAddr rfl (x_wD (i := j) rfl rfl rfl rfl rfl hx) rfl ?_
          refine s_load rfl rfl rfl ?_
          refine s_conv rfl (e_conv rfl rfl rfl (wrapL (hb.lt64 j))) rfl ?_
          refine s_bin rfl (e_mulL rfl hm) rfl ?_
          refine s_bin rfl (e_addL (z := wa.getD i 0 * wb.getD j 0 + out.getD (i + j) 0 + c) (by omega) hB) rfl ?_
          refine s_assign rfl rfl rfl ?_
          refine s_end (hK _ ?_); clear hK K
          exact ⟨(), trivial, Wk.mk' ⟨rfl, rfl, rfl, rfl, rfl, rfl, rfl, trivial⟩ ⟨rfl, rfl, rfl, rfl, trivial⟩⟩
        · have hx : wb.length ≤ j := by simp at hx; omega
          refine AWP_skip ?_
          exact ⟨(), trivial, Wk.mk' ⟨rfl, rfl, rfl, rfl, rfl, rfl, dL_eq (by rw [getD_end hx]; omega), trivial⟩ ⟨rfl, rfl, rfl, rfl, trivial⟩⟩
      rintro - -
      show AWP _ _ _ _ _ (mk 83 [(2, .ptr 2 0), (3, .ptr 3 0), (4, .ptr 4 0), (5, .val (.one (.own 18 1 0 (wa.length + (wb.length + 1))))), (6, dI i), (8, dI j), (9, dL (wa.getD i 0 * wb.getD j 0 + out.getD (i + j) 0 + c))] [(2, some (.box (IC na wa))), (3, some (.box (IC nb wb))), (4, some (.box [.d (.lit (.bool false)), .nil])), (18, some (.arr 1 (out.map cW)))] [])
      refine AWP_reg_seq tok fun K hK => ?_
      refine s_move rfl rfl rfl ?_
      refine s_move rfl rfl rfl ?_
      refine s_move rfl rfl rfl ?_
      refine s_bin rfl (e_add (c := ((i + j : Nat) : Int)) (by omega) (by omega)) rfl ?_
      refine s_move rfl rfl rfl ?_
      refine s_conv rfl (e_conv rfl rfl rfl (wrapU _)) rfl ?_
      refine s_indexAddr rfl (x_o (i := i + j) (j := i + j) rfl rfl rfl rfl rfl (by omega) (by omega)) rfl ?_
      refine s_store rfl (st_w rfl rfl rfl hij) rfl rfl rfl ?_
      refine s_end (hK _ ?_); clear hK K
      refine AWP_reg tok fun K hK => ?_
      refine s_move rfl rfl rfl ?_
      refine s_bin rfl (e_shrL (s := 32) (by omega) rfl) rfl ?_
      refine s_assign rfl rfl rfl ?_
      refine s_end (hK _ ?_); clear hK K
      show AWP _ _ _ _ _ _
      refine AWP_reg tok fun K hK => ?_
      refine s_move rfl rfl rfl ?_
      refine s_bin rfl (e_add (c := ((j + 1 : Nat) : Int)) (by omega) (by omega)) rfl ?_
      refine s_assign rfl rfl rfl ?_
      refine s_end (hK _ ?_); clear hK K
      exact ⟨(j + 1, _, _), by simp only; omega, ⟨by simp only; omega, hst⟩, Wk.mk' ⟨rfl, rfl, rfl, rfl, rfl, rfl, rfl, trivial⟩ ⟨rfl, rfl, rfl, rfl, trivial⟩⟩
    · obtain ⟨hx, hc0⟩ := h2 hh
      subst hc0
      refine AWP_exit ?_
      show AWP _ _ _ _ _ _
      refine AWP_reg tok fun K hK => ?_
      refine s_move rfl rfl rfl ?_
      refine s_bin rfl (e_add (c := ((i + 1 : Nat) : Int)) (by omega) (by omega)) rfl ?_
      refine s_assign rfl rfl rfl ?_
      refine s_end (hK _ ?_); clear hK K
      exact ⟨(i + 1, _), by simp only; omega, ⟨hg, hti.rowk hx⟩, Wk.mk' ⟨rfl, rfl, rfl, rfl, rfl, trivial⟩ ⟨rfl, rfl, rfl, rfl, trivial⟩⟩
  · have hg : i = wa.length := by simp at hg; omega
    subst hg
    have hfin := hti.fin
    have hw0 : wv (wb ++ [0]) = wv wb := by rw [wv_append]; simp [wv]
    have hout : wv out = wv wa * wv wb := by
      have hv := hti.val
      simp only [List.take_zero, wv, Nat.mul_zero, Nat.zero_mul, Nat.add_zero, List.take_of_length_le (Nat.le_refl _)] at hv
      rw [hv, hw0]
    have hol := hti.len
    rw [lb'] at hol
    refine AWP_exit ?_
    show AWP _ _ _ _ _ _
    refine a_fz [2, 3, 4, 5] [2, 3, 4, 18] 18 [(2, .ptr 2 0), (3, .ptr 3 0), (4, .ptr 4 0), (5, V1 (dW out))] [(2, some (.box (IC na wa))), (3, some (.box (IC nb wb))), (4, some (.box [.d (.lit (.bool false)), .nil]))] rfl ?_ ?_ ?_
    · exact ⟨rfl, rfl, rfl, frz_w rfl (by omega), trivial⟩
    · exact ⟨rfl, rfl, rfl, trivial⟩
    refine AWP_reg_seq tok fun K hK => ?_
    refine s_fieldAddr rfl rfl rfl ?_
    refine s_load rfl rfl rfl ?_
    refine s_fieldAddr rfl rfl rfl ?_
    refine s_load rfl rfl rfl ?_
    refine s_bin rfl rfl rfl ?_
    refine s_move rfl rfl rfl ?_
    refine s_build rfl rfl rfl ?_
    refine s_call rfl rfl (r1Norm_z (!(na == nb)) out (zv na wa * zv nb wb) hti.ok (by omega) (by unfold zv; rw [hout]; cases na <;> cases nb <;> simp [Int.natCast_mul, Int.mul_neg, Int.neg_mul])) rfl rfl rfl rfl ?_
    refine s_store rfl rfl rfl rfl rfl ?_
    refine s_end (hK _ ?_); clear hK K
    refine AWP_ret ?_
    repeat (with_reducible refine tq_ret ?_)
    exact post_ret (fin_mk (by rfl) (by rfl) (by rfl))

theorem pow32 (k : Nat) : 4294967296 ^ k = 2 ^ (32 * k) := by rw [show 4294967296 = 2 ^ 32 from rfl, ← Nat.pow_mul]
theorem pow_split (i : Nat) : 2 ^ i = 4294967296 ^ (i / 32) * 2 ^ (i % 32) := by rw [pow32, ← Nat.pow_add, Nat.div_add_mod]
theorem bit_word {m : List Nat} (hm : wOK m) (i : Nat) : m.getD (i / 32) 0 / 2 ^ (i % 32) % 2 = wv m / 2 ^ i % 2 := by
  rw [wv_get hm, pow_split i, ← Nat.div_div_eq_div_mul]
  generalize wv m / 4294967296 ^ (i / 32) = y
  have hs : i % 32 < 32 := Nat.mod_lt _ (by decide)
  generalize i % 32 = s at *
  have e : 4294967296 = 2 ^ s * (2 * 2 ^ (31 - s)) := by
    rw [← Nat.pow_succ', ← Nat.pow_add, show s + (31 - s + 1) = 32 from by omega]
  rw [e, Nat.mod_mul_right_div_self, Nat.mod_mul_right_mod]

theorem r1bit_c (m : List Nat) (i : Nat) (hm : wOK m) (lm : m.length ≤ 1073741824) (hi : i ≤ 9223372036854775807) :
    Con Tryz.prog 110 [V1 (dW m), dI i] { v := dU (wv m / 2 ^ i % 2) } := by
  refine con_intro (fn := Tryz.f110) tok Tryz.func110 (by kernel_rfl) rfl ?_
  intro w0 X
  rw [entry_mkE _ _ [(0, V1 (dW m)), (1, dI i)] rfl rfl]
  refine AWP_reg_seq tok fun K hK => ?_
  refine s_assign rfl rfl rfl ?_
  refine s_end (hK _ ?_); clear hK K
  refine AWP_seq ?_
  refine AWP_reg_seq tok fun K hK => ?_
  refine s_move rfl rfl rfl ?_
  refine s_bin rfl (e_quoI (y := 32) (by omega) hi rfl) rfl ?_
  refine s_move rfl rfl rfl ?_
  refine s_blt rfl (len_w rfl rfl rfl) rfl ?_
  refine s_bin rfl rfl rfl ?_
  refine s_end (hK _ ?_); clear hK K
  refine a_cond rfl (fun hc => ?_) (fun hc => ?_)
  · have hc : m.length ≤ i / 32 := by simp at hc; omega
    have h0 : wv m / 2 ^ i = 0 := by
      refine Nat.div_eq_of_lt (Nat.lt_of_lt_of_le (wv_lt hm) ?_)
      rw [pow32]; exact Nat.pow_le_pow_right (by decide) (by omega)
    refine AWP_reg_seq tok fun K hK => ?_
    refine s_assign rfl rfl rfl ?_
    refine s_end (hK _ ?_); clear hK K
    refine AWP_ret ?_
    repeat (with_reducible refine tq_ret ?_)
    exact post_ret (fin_mk (by rfl) (by rfl) (by rw [h0]; rfl))
  · have hc : i / 32 < m.length := by simp at hc; omega
    refine AWP_skip ?_
    show AWP _ _ _ _ _ _
    refine AWP_reg_seq tok fun K hK => ?_
    refine s_move rfl rfl rfl ?_
    refine s_move rfl rfl rfl ?_
    refine s_bin rfl (e_quoI (y := 32) (by omega) hi rfl) rfl ?_
    refine s_indexAddr rfl (x_wD (i := i / 32) rfl rfl rfl rfl rfl hc) rfl ?_
    refine s_load rfl rfl rfl ?_
    refine s_move rfl rfl rfl ?_
    refine s_bin rfl (e_remI (y := 32) (by omega) hi rfl) rfl ?_
    refine s_conv rfl (e_conv rfl rfl rfl (wrapL (by omega))) rfl ?_
    refine s_bin rfl (e_shrU (s := i % 32) (by omega) rfl) rfl ?_
    refine s_bin rfl (e_remU (y := 2) (by omega) rfl) rfl ?_
    refine s_assign rfl rfl rfl ?_
    refine s_end (hK _ ?_); clear hK K
    refine AWP_ret ?_
    repeat (with_reducible refine tq_ret ?_)
    exact post_ret (fin_mk (by rfl) (by rfl) (by rw [bit_word hm]; rfl))

theorem bit_step {A B n : Nat} (hB : 0 < B) : (2 * (A / 2 ^ (n + 1) % B) + A / 2 ^ n % 2) / B + 2 * (A / 2 ^ (n + 1) / B) = A / 2 ^ n / B ∧ (2 * (A / 2 ^ (n + 1) % B) + A / 2 ^ n % 2) % B = A / 2 ^ n % B := by
  have e : A / 2 ^ (n + 1) = A / 2 ^ n / 2 := by rw [Nat.pow_succ, Nat.div_div_eq_div_mul]
  rw [e]
  generalize A / 2 ^ n = y
  have h := Nat.div_add_mod (y / 2) B
  have h2 := Nat.div_add_mod y 2
  generalize y / 2 / B = q at *
  generalize y / 2 % B = r at *
  generalize y / 2 = x at *
  generalize y % 2 = b at *
  have : y = (2 * r + b) + B * (2 * q) := by grind
  rw [this, Nat.add_mul_div_left _ _ hB, Nat.add_mul_mod_self_left]
  exact ⟨rfl, rfl⟩
/-- The quotient's words, when the bits from n on are found. -/
structure BQ (A B L n : Nat) (q : List Nat) : Prop where
  ok : wOK q
  len : q.length = L
  val : wv q = A / 2 ^ n / B * 2 ^ n
theorem BQ.zero {A B L n : Nat} {q : List Nat} (h : BQ A B L (n + 1) q) (h0 : A / 2 ^ n / B = 2 * (A / 2 ^ (n + 1) / B)) : BQ A B L n q :=
  ⟨h.ok, h.len, by rw [h.val, h0, Nat.pow_succ]; grind⟩
theorem BQ.one {A B L n : Nat} {q : List Nat} (h : BQ A B L (n + 1) q) (h0 : A / 2 ^ n / B = 1 + 2 * (A / 2 ^ (n + 1) / B)) (hn : n / 32 < L) :
    BQ A B L n (q.set (n / 32) ((q.getD (n / 32) 0 + 1 * 2 ^ (n % 32) % 4294967296) % 4294967296)) := by
  have hs : n % 32 < 32 := Nat.mod_lt _ (by decide)
  have hp : 1 * 2 ^ (n % 32) % 4294967296 = 2 ^ (n % 32) := by
    rw [Nat.one_mul, Nat.mod_eq_of_lt]
    exact Nat.pow_lt_pow_right (by decide) hs
  have hw : q.getD (n / 32) 0 % 2 ^ (n % 32 + 1) = 0 := by
    rw [wv_get h.ok, h.val]
    have e1 : A / 2 ^ (n + 1) / B * 2 ^ (n + 1) / 4294967296 ^ (n / 32) = A / 2 ^ (n + 1) / B * 2 ^ (n % 32 + 1) := by
      rw [Nat.pow_succ, pow_split n, Nat.pow_succ]
      have : A / (4294967296 ^ (n / 32) * 2 ^ (n % 32) * 2) / B * (4294967296 ^ (n / 32) * 2 ^ (n % 32) * 2) = A / (4294967296 ^ (n / 32) * 2 ^ (n % 32) * 2) / B * (2 ^ (n % 32) * 2) * 4294967296 ^ (n / 32) := by
        generalize A / (4294967296 ^ (n / 32) * 2 ^ (n % 32) * 2) / B = z
        generalize 2 ^ (n % 32) = y
        generalize 4294967296 ^ (n / 32) = x
        grind
      rw [this, Nat.mul_div_cancel _ (pow_pos _)]
    rw [e1]
    have e2 : 4294967296 = 2 ^ (n % 32 + 1) * 2 ^ (31 - n % 32) := by rw [← Nat.pow_add, show n % 32 + 1 + (31 - n % 32) = 32 from by omega]
    rw [e2, Nat.mod_mul_right_mod, Nat.mul_mod_left]
  have hlt : q.getD (n / 32) 0 + 2 ^ (n % 32) < 4294967296 := by
    have h1 := getD_lt h.ok (n / 32)
    obtain ⟨z, hz⟩ := Nat.dvd_of_mod_eq_zero hw
    rw [hz] at h1 ⊢
    have e2 : 4294967296 = 2 ^ (n % 32 + 1) * 2 ^ (31 - n % 32) := by rw [← Nat.pow_add, show n % 32 + 1 + (31 - n % 32) = 32 from by omega]
    have h2 : z < 2 ^ (31 - n % 32) := Nat.lt_of_mul_lt_mul_left (a := 2 ^ (n % 32 + 1)) (by rw [← e2]; exact h1)
    have h3 : 2 ^ (n % 32 + 1) * (z + 1) ≤ 2 ^ (n % 32 + 1) * 2 ^ (31 - n % 32) := Nat.mul_le_mul_left _ h2
    rw [← e2, Nat.mul_succ, Nat.pow_succ] at h3
    have h4 : 0 < 2 ^ (n % 32) := Nat.two_pow_pos _
    rw [Nat.pow_succ]; omega
  rw [hp, Nat.mod_eq_of_lt hlt]
  refine ⟨h.ok.set _ hlt, by rw [List.length_set]; exact h.len, ?_⟩
  have hsv := wv_setD (a := q) (i := n / 32) (by rw [h.len]; exact hn) (q.getD (n / 32) 0 + 2 ^ (n % 32))
  have hv := h.val
  rw [h0, Nat.add_mul, Nat.one_mul]
  rw [Nat.add_mul] at hsv
  have hps := pow_split n
  rw [Nat.mul_comm (4294967296 ^ (n / 32))] at hps
  rw [← hps] at hsv
  rw [Nat.pow_succ] at hv
  have : A / 2 ^ (n + 1) / B * (2 ^ n * 2) = 2 * (A / 2 ^ (n + 1) / B) * 2 ^ n := by
    generalize A / 2 ^ (n + 1) / B = z; grind
  rw [Nat.pow_succ] at this
  rw [this] at hv
  rw [Nat.pow_succ]
  omega

theorem r1divide_c (a b : List Nat) (ha : wOK a) (hb : wOK b) (tb : wTop b) (h0 : 0 < wv b) (la : a.length ≤ 268435456) (lb : b.length ≤ 268435456) :
    Con Tryz.prog 91 [V1 (dW a), V1 (dW b)] { v := .tup [.one (.d (dW (wof (wv a / wv b)))), .one (.d (dW (wof (wv a % wv b))))] } := by
  have hrl : ∀ n, n < 2 * wv b → (wof n).length ≤ b.length + 1 := by
    intro n hn
    have h1 := wv_lt hb
    refine wl_le ?_
    rw [Nat.pow_succ]; omega
  have hbw : b = wof (wv b) := top_uniq hb (wof_ok _) tb (wof_top _) (wv_wof _).symm
  refine con_intro (fn := Tryz.f91) tok Tryz.func91 (by kernel_rfl) rfl ?_
  intro w0 X
  rw [entry_mkE _ _ [(0, V1 (dW a)), (1, V1 (dW b))] rfl rfl]
  refine AWP_reg_seq tok fun K hK => ?_
  refine s_assign rfl rfl rfl ?_
  refine s_assign rfl rfl rfl ?_
  refine s_end (hK _ ?_); clear hK K
  refine AWP_reg_seq tok fun K hK => ?_
  refine s_move rfl rfl rfl ?_
  refine s_blt rfl (len_w rfl rfl rfl) rfl ?_
  refine s_makeSlice (sz := _) (es := _) (f := _) (v := _) rfl (mk_w (l := a.length) (c := a.length) rfl rfl rfl rfl rfl (Nat.le_of_ble_eq_true rfl) rfl rfl (by omega) (by omega)) rfl rfl ?_
  refine s_assign rfl rfl rfl ?_
  refine s_end (hK _ ?_); clear hK K
  refine AWP_reg_seq tok fun K hK => ?_
  refine s_assign rfl rfl rfl ?_
  refine s_end (hK _ ?_); clear hK K
  refine AWP_seq ?_
  refine AWP_reg_seq tok fun K hK => ?_
  refine s_move rfl rfl rfl ?_
  refine s_blt rfl (len_w rfl rfl rfl) rfl ?_
  refine s_bin rfl (e_mul (c := ((32 * a.length : Nat) : Int)) (by omega) (by omega)) rfl ?_
  refine s_bin rfl (e_sub rfl (by omega)) rfl ?_
  refine s_assign rfl rfl rfl ?_
  refine s_end (hK _ ?_); clear hK K
  refine AWP_block (a_loop (α := Nat × List Nat) (fun p => mk 54 [(7, V1 (dW (wof (wv a / 2 ^ p.1 % wv b)))), (0, V1 (dW a)), (1, V1 (dW b)), (6, .val (.one (.own 11 1 0 a.length))), (8, dI ((p.1 : Int) - 1))] [(11, some (.arr 1 (p.2.map cW)))] []) (fun p => p.1 ≤ 32 * a.length ∧ BQ (wv a) (wv b) a.length p.1 p.2) (fun p => p.1) (32 * a.length, List.replicate a.length 0) ?_ ⟨Nat.le_refl _, ?_⟩ ?_)
  · have hz : wv a / 2 ^ (32 * a.length) = 0 := by rw [← pow32]; exact Nat.div_eq_of_lt (wv_lt ha)
    simp only [hz, Nat.zero_mod]
    exact Wk.trans (Wk.mk' (E' := [(7, .val (.one .nil)), (0, V1 (dW a)), (1, V1 (dW b)), (6, .val (.one (.own 11 1 0 a.length))), (8, dI (((32 * a.length : Nat) : Int) - 1))]) (S' := [(11, some (.arr 1 ((List.replicate a.length 0).map cW)))]) ⟨rfl, rfl, rfl, rfl, rfl, trivial⟩ ⟨rfl, trivial⟩) Wk.nilD
  · have hz : wv a / 2 ^ (32 * a.length) = 0 := by rw [← pow32]; exact Nat.div_eq_of_lt (wv_lt ha)
    exact ⟨wOK.rep0 _, by simp, by simp only; rw [hz, wv_rep0]; simp⟩
  rintro ⟨m, q⟩ ⟨hm, hbq⟩
  simp only at hm hbq
  show AWP _ _ _ _ _ (mk 54 [(7, V1 (dW (wof (wv a / 2 ^ m % wv b)))), (0, V1 (dW a)), (1, V1 (dW b)), (6, .val (.one (.own 11 1 0 a.length))), (8, dI ((m : Int) - 1))] [(11, some (.arr 1 (q.map cW)))] [])
  have hql := hbq.len
  refine AWP_seq ?_
  refine AWP_reg_seq tok fun K hK => ?_
  refine s_move rfl rfl rfl ?_
  refine s_bin rfl rfl rfl ?_
  refine s_end (hK _ ?_); clear hK K
  refine a_cond rfl (fun hg => ?_) (fun hg => ?_)
  · obtain ⟨i, rfl⟩ : ∃ i, m = i + 1 := ⟨m - 1, by simp at hg; omega⟩
    obtain ⟨s1, s2⟩ := bit_step (A := wv a) (B := wv b) (n := i) h0
    have hr := Nat.mod_lt (wv a / 2 ^ (i + 1)) h0
    have hbit : wv a / 2 ^ i % 2 < 2 := Nat.mod_lt _ (by decide)
    generalize hx : wv a / 2 ^ (i + 1) % wv b = r at *
    generalize hy : wv a / 2 ^ i % 2 = bt at *
    refine AWP_skip ?_
    show AWP _ _ _ _ _ _
    refine AWP_seq ?_
    refine AWP_block ?_
    refine a_keep [(0, V1 (dW a)), (1, V1 (dW b)), (6, .val (.one (.own 11 1 0 a.length))), (7, V1 (dW (wof r))), (8, dI i)] [(11, some (.arr 1 (q.map cW)))] ⟨rfl, rfl, rfl, rfl, dI_eq (by omega), trivial⟩ ⟨rfl, trivial⟩ ?_
    have l1 := hrl r (by omega)
    refine AWP_reg_seq tok fun K hK => ?_
    refine s_move rfl rfl rfl ?_
    refine s_move rfl rfl rfl ?_
    refine s_call rfl rfl (r1add_c (wof r) (wof r) (wof_ok _) (wof_ok _) (by omega) (by omega)) rfl rfl rfl rfl ?_
    refine s_assign rfl rfl rfl ?_
    refine s_end (hK _ ?_); clear hK K
    refine a_join (α := Unit) (fun _ => mk 54 [(0, V1 (dW a)), (1, V1 (dW b)), (6, .val (.one (.own 11 1 0 a.length))), (7, V1 (dW (wof (2 * r + bt)))), (8, dI i)] [(11, some (.arr 1 (q.map cW)))] []) (fun _ => True) ?_ ?_
    · have l2 := hrl (r + r) (by omega)
      have e2 : wv (wof r) + wv (wof r) = r + r := by rw [wv_wof]
      refine AWP_reg_seq tok fun K hK => ?_
      refine s_move rfl rfl rfl ?_
      refine s_move rfl rfl rfl ?_
      refine s_call rfl rfl (hy ▸ r1bit_c a i ha (by omega) (by omega)) rfl rfl rfl rfl ?_
      refine s_bin rfl rfl rfl ?_
      refine s_end (hK _ ?_); clear hK K
      refine a_cond rfl (fun hc => ?_) (fun hc => ?_)
      · have hc : bt = 1 := by simp at hc; omega
        subst hc
        refine AWP_regW fun K hK => ?_
        refine w_step tok rfl ?_
        refine s_move rfl rfl rfl ?_
        refine s_end ?_
        refine w_step tok rfl ?_
        refine s_buildSlice rfl rfl rfl rfl ?_
        refine s_end ?_
        refine w_wk (Wk.fzNew rfl rfl rfl) ?_
        refine w_step tok rfl ?_
        refine s_call rfl rfl (r1add_c (wof (wv (wof r) + wv (wof r))) [1] (wof_ok _) (wOK.one (by decide)) (by rw [e2]; omega) (by simp)) rfl rfl rfl rfl ?_
        refine s_end ?_
        refine w_step tok rfl ?_
        refine s_assign rfl rfl rfl ?_
        refine s_end ?_
        refine w_end rfl (hK _ ?_); clear hK K
        refine ⟨(), trivial, Wk.mk' ⟨rfl, rfl, rfl, ?_, rfl, trivial⟩ ⟨rfl, trivial⟩⟩
        show V1 (dW _) = V1 (dW _)
        rw [wv_wof, e2, show wv [1] = 1 from rfl, show r + r + 1 = 2 * r + 1 from by omega]
      · have hc : bt = 0 := by simp at hc; omega
        subst hc
        refine AWP_skip ?_
        refine ⟨(), trivial, Wk.mk' ⟨rfl, rfl, rfl, ?_, rfl, trivial⟩ ⟨rfl, trivial⟩⟩
        show V1 (dW _) = V1 (dW _)
        rw [e2, show r + r = 2 * r + 0 from by omega]
    rintro - -
    show AWP _ _ _ _ _ (mk 54 [(0, V1 (dW a)), (1, V1 (dW b)), (6, .val (.one (.own 11 1 0 a.length))), (7, V1 (dW (wof (2 * r + bt)))), (8, dI i)] [(11, some (.arr 1 (q.map cW)))] [])
    have l3 := hrl (2 * r + bt) (by omega)
    refine AWP_reg_seq tok fun K hK => ?_
    refine s_move rfl rfl rfl ?_
    refine s_move rfl rfl rfl ?_
    refine s_call rfl rfl (r1cmp_c (wof (2 * r + bt)) b (wof_ok _) hb (wof_top _) tb (by omega) (by omega)) rfl rfl rfl rfl ?_
    refine s_bin rfl rfl rfl ?_
    refine s_end (hK _ ?_); clear hK K
    refine a_cond rfl (fun hc => ?_) (fun hc => ?_)
    · have hc : wv b ≤ 2 * r + bt := by
        have h1 := of_decide_eq_true hc
        have := mt (ncmp_lt (m := wv (wof (2 * r + bt))) (n := wv b)).2 (by omega)
        rw [wv_wof] at this; omega
      have hd1 : (2 * r + bt) / wv b = 1 := Nat.div_eq_of_lt_le (by omega) (by omega)
      have hd2 : (2 * r + bt) % wv b = 2 * r + bt - wv b := by rw [Nat.mod_eq_sub_mod hc, Nat.mod_eq_of_lt (by omega)]
      rw [hd1] at s1
      rw [hd2] at s2
      have hbl : b.length ≤ (wof (2 * r + bt)).length := by
        have := wl_mono hc
        unfold wl at this
        rwa [← hbw] at this
      have hi32 : i / 32 < q.length := by omega
      refine AWP_reg_seq tok fun K hK => ?_
      refine s_move rfl rfl rfl ?_
      refine s_move rfl rfl rfl ?_
      refine s_call rfl rfl (r1sub_c (wof (2 * r + bt)) b (wof_ok _) hb (by omega) hbl (by rw [wv_wof]; exact hc)) rfl rfl rfl rfl ?_
      refine s_assign rfl rfl rfl ?_
      refine s_end (hK _ ?_); clear hK K
      refine AWP_reg tok fun K hK => ?_
      refine s_move rfl rfl rfl ?_
      refine s_move rfl rfl rfl ?_
      refine s_bin rfl (e_quoI (y := 32) (by omega) (by omega) rfl) rfl ?_
      refine s_move rfl rfl rfl ?_
      refine s_move rfl rfl rfl ?_
      refine s_bin rfl (e_quoI (y := 32) (by omega) (by omega) rfl) rfl ?_
      refine s_indexAddr rfl (x_o (i := i / 32) (j := i / 32) rfl rfl rfl rfl rfl (by omega) (by omega)) rfl ?_
      refine s_load rfl (l_wD rfl rfl rfl rfl hi32) rfl ?_
      refine s_move rfl rfl rfl ?_
      refine s_bin rfl (e_remI (y := 32) (by omega) (by omega) rfl) rfl ?_
      refine s_conv rfl (e_conv rfl rfl rfl (wrapL (by omega))) rfl ?_
      refine s_bin rfl (e_shlU (x := 1) (s := i % 32) (by omega) rfl) rfl ?_
      refine s_bin rfl (e_addU rfl) rfl ?_
      refine s_indexAddr rfl (x_o (i := i / 32) (j := i / 32) rfl rfl rfl rfl rfl (by omega) (by omega)) rfl ?_
      refine s_store rfl (st_w rfl rfl rfl hi32) rfl rfl rfl ?_
      refine s_end (hK _ ?_); clear hK K
      show AWP _ _ _ _ _ _
      refine AWP_reg tok fun K hK => ?_
      refine s_move rfl rfl rfl ?_
      refine s_bin rfl (e_sub rfl (by omega)) rfl ?_
      refine s_assign rfl rfl rfl ?_
      refine s_end (hK _ ?_); clear hK K
      refine ⟨(i, _), by simp only; omega, ⟨by simp only; omega, hbq.one s1.symm (by omega)⟩, Wk.mk' ⟨?_, rfl, rfl, rfl, rfl, trivial⟩ ⟨rfl, trivial⟩⟩
      show V1 (dW _) = V1 (dW _)
      rw [wv_wof, s2]
    · have hc : 2 * r + bt < wv b := by
        have h1 := of_decide_eq_false hc
        have := (ncmp_lt (m := wv (wof (2 * r + bt))) (n := wv b)).1 (by omega)
        rwa [wv_wof] at this
      have hd1 : (2 * r + bt) / wv b = 0 := Nat.div_eq_of_lt hc
      have hd2 : (2 * r + bt) % wv b = 2 * r + bt := Nat.mod_eq_of_lt hc
      rw [hd1, Nat.zero_add] at s1
      rw [hd2] at s2
      refine AWP_skip ?_
      show AWP _ _ _ _ _ _
      refine AWP_reg tok fun K hK => ?_
      refine s_move rfl rfl rfl ?_
      refine s_bin rfl (e_sub rfl (by omega)) rfl ?_
      refine s_assign rfl rfl rfl ?_
      refine s_end (hK _ ?_); clear hK K
      refine ⟨(i, q), by simp only; omega, ⟨by simp only; omega, hbq.zero s1.symm⟩, Wk.mk' ⟨?_, rfl, rfl, rfl, rfl, trivial⟩ ⟨rfl, trivial⟩⟩
      show V1 (dW _) = V1 (dW _)
      rw [s2]
  · have hm0 : m = 0 := by simp at hg; omega
    subst hm0
    have hv := hbq.val
    simp only [Nat.pow_zero, Nat.div_one, Nat.mul_one] at hv
    refine AWP_exit ?_
    show AWP _ _ _ _ _ _
    refine a_fz [6, 7] [11] 11 [(6, V1 (dW q)), (7, V1 (dW (wof (wv a / 2 ^ 0 % wv b))))] [] rfl ?_ trivial ?_
    · exact ⟨frz_w rfl (by omega), rfl, trivial⟩
    refine AWP_reg_seq tok fun K hK => ?_
    refine s_move rfl rfl rfl ?_
    refine s_call rfl rfl (r1trim_c q hbq.ok (by omega)) rfl rfl rfl rfl ?_
    refine s_move rfl rfl rfl ?_
    refine s_assign rfl rfl rfl ?_
    refine s_assign rfl rfl rfl ?_
    refine s_end (hK _ ?_); clear hK K
    refine AWP_ret ?_
    repeat (with_reducible refine tq_ret ?_)
    exact post_ret (fin_mk (by rfl) (by rfl) (by rw [hv, Nat.pow_zero, Nat.div_one]; rfl))
end Go.Proofs.YtipenembpidoiaaGreatDoor

/- The reference's integers: halves, quotients, the greatest common divisor. No condition. -/
namespace Go.Proofs.YtipenembpidoiaaGreatDoor
attribute [local irreducible] lexA

theorem ZC_nat (n : Nat) : ZC (n : Int) = IC false (wof n) := by
  unfold ZC
  rw [Int.natAbs_natCast, decide_eq_false (by omega)]
theorem ncmp_eq {m n : Nat} : ncmp m n = 0 ↔ m = n := by
  unfold ncmp
  by_cases h : m < n
  · simp [h]; omega
  · rw [if_neg h]; split <;> omega
theorem ncmp_gt {m n : Nat} : ncmp m n > 0 ↔ n < m := by
  unfold ncmp
  by_cases h : m < n
  · simp [h]; omega
  · rw [if_neg h]; split <;> omega
theorem wof_even (X : Nat) : (wof X).getD 0 0 % 2 = X % 2 := by
  rw [wv_get (wof_ok X), wv_wof, Nat.pow_zero, Nat.div_one]; omega
theorem wof_pos {X : Nat} (h : 0 < X) : 0 < (wof X).length := by
  rw [List.length_pos_iff, ne_eq, wof_nil]; omega
theorem gcd_half {X Y : Nat} (hx : X % 2 = 0) (hy : Y % 2 = 1) : Nat.gcd (X / 2) Y = Nat.gcd X Y := by
  have hc : Nat.Coprime 2 Y := by unfold Nat.Coprime; rw [Nat.gcd_rec, hy]; rfl
  have : X = 2 * (X / 2) := by omega
  conv => rhs; rw [this]
  exact (Nat.Coprime.gcd_mul_left_cancel _ hc).symm

theorem r1half_c (m : List Nat) (hm : wOK m) (lm : m.length ≤ 1073741824) : Con Tryz.prog 87 [V1 (dW m)] { v := V1 (dW (wof (wv m / 2))) } := by
  refine con_intro (fn := Tryz.f87) tok Tryz.func87 (by kernel_rfl) rfl ?_
  intro w0 X
  rw [entry_mkE _ _ [(0, V1 (dW m))] rfl rfl]
  refine AWP_reg_seq tok fun K hK => ?_
  refine s_assign rfl rfl rfl ?_
  refine s_end (hK _ ?_); clear hK K
  refine AWP_reg_seq tok fun K hK => ?_
  refine s_buildSlice rfl rfl rfl rfl ?_
  refine s_move rfl rfl rfl ?_
  refine s_append rfl (ap_o (es := []) rfl rfl rfl rfl rfl rfl (by decide) (Nat.le_of_ble_eq_true rfl) rfl cW_len rfl rfl rfl (by simp; omega)) rfl rfl ?_
  refine s_assign rfl rfl rfl ?_
  refine s_end (hK _ ?_); clear hK K
  refine AWP_seq ?_
  refine AWP_reg_seq tok fun K hK => ?_
  refine s_assign rfl rfl rfl ?_
  refine s_end (hK _ ?_); clear hK K
  refine AWP_block (a_loop (α := Nat × List Nat) (fun p => mk 44 [(0, V1 (dW m)), (3, .val (.one (.own 7 1 0 m.length))), (4, dI p.1)] [(7, some (.arr 1 (p.2.map cW)))] []) (fun p => p.1 ≤ m.length ∧ p.2.length = m.length ∧ ∀ k, p.2.getD k 0 = if k < p.1 then wv m / 2 / 4294967296 ^ k % 4294967296 else m.getD k 0) (fun p => m.length - p.1) (0, m) ?_ ⟨Nat.zero_le _, rfl, fun k => by simp⟩ ?_)
  · refine Wk.mk' ⟨rfl, ?_, rfl, trivial⟩ ⟨rfl, trivial⟩
    show SV.val (.one (.own 7 1 0 _)) = _
    simp
  rintro ⟨i, o⟩ ⟨hi, hol, ho⟩
  simp only at hi hol ho
  show AWP _ _ _ _ _ (mk 44 [(0, V1 (dW m)), (3, .val (.one (.own 7 1 0 m.length))), (4, dI i)] [(7, some (.arr 1 (o.map cW)))] [])
  refine AWP_seq ?_
  refine AWP_reg_seq tok fun K hK => ?_
  refine s_move rfl rfl rfl ?_
  refine s_move rfl rfl rfl ?_
  refine s_blt rfl rfl rfl ?_
  refine s_bin rfl rfl rfl ?_
  refine s_end (hK _ ?_); clear hK K
  refine a_cond rfl (fun hc => ?_) (fun hc => ?_)
  · have hc : i < m.length := by simp at hc; omega
    have hoi := ho i
    rw [if_neg (by omega)] at hoi
    have hdig := shr_digit (n := 1) (by omega) i hm
    have hx0 := getD_lt hm i
    have hx1 := getD_lt hm (i + 1)
    rw [Nat.pow_one] at hdig
    have hdig' : m.getD i 0 / 2 + m.getD (i + 1) 0 % 2 * 2147483648 = wv m / 2 / 4294967296 ^ i % 4294967296 := by rw [← hdig]; omega
    refine AWP_skip ?_
    show AWP _ _ _ _ _ _
    refine AWP_seq ?_
    refine AWP_block ?_
    refine AWP_reg_seq tok fun K hK => ?_
    refine s_move rfl rfl rfl ?_
    refine s_move rfl rfl rfl ?_
    refine s_move rfl rfl rfl ?_
    refine s_move rfl rfl rfl ?_
    refine s_indexAddr rfl (x_o (i := i) (j := i) rfl rfl rfl rfl rfl hc (by omega)) rfl ?_
    refine s_load rfl ((l_wD rfl rfl rfl rfl (by omega)).trans (by rw [hoi])) rfl ?_
    refine s_bin rfl (e_shrU (s := 1) (by omega) rfl) rfl ?_
    refine s_indexAddr rfl (x_o (i := i) (j := i) rfl rfl rfl rfl rfl hc (by omega)) rfl ?_
    refine s_store rfl (st_w rfl rfl rfl (by omega)) rfl rfl rfl ?_
    refine s_end (hK _ ?_); clear hK K
    have hset : ∀ (y z : Nat), (o.set i y).set i z = o.set i z := fun y z => by simp
    have hnew : ∀ z, z = wv m / 2 / 4294967296 ^ i % 4294967296 → ∀ k, (o.set i z).getD k 0 = if k < i + 1 then wv m / 2 / 4294967296 ^ k % 4294967296 else m.getD k 0 := by
      intro z hz k
      rw [wgetD_set _ _ _ _ (by omega)]
      by_cases hk : k = i
      · rw [if_pos hk, if_pos (by omega), hz, hk]
      · rw [if_neg hk, ho k]
        by_cases hk2 : k < i
        · rw [if_pos hk2, if_pos (by omega)]
        · rw [if_neg hk2, if_neg (by omega)]
    refine AWP_reg_seq tok fun K hK => ?_
    refine s_move rfl rfl rfl ?_
    refine s_bin rfl (e_add (c := ((i + 1 : Nat) : Int)) (by omega) (by omega)) rfl ?_
    refine s_move rfl rfl rfl ?_
    refine s_blt rfl (len_w rfl rfl rfl) rfl ?_
    refine s_bin rfl rfl rfl ?_
    refine s_end (hK _ ?_); clear hK K
    refine a_cond rfl (fun hd => ?_) (fun hd => ?_)
    · have hd : i + 1 < m.length := by simp at hd; omega
      refine a_keep [(0, V1 (dW m)), (3, .val (.one (.own 7 1 0 m.length))), (4, dI i)] [(7, some (.arr 1 ((o.set i (m.getD i 0 / 2)).map cW)))] ⟨rfl, rfl, rfl, trivial⟩ ⟨rfl, trivial⟩ ?_
      have hgi : (o.set i (m.getD i 0 / 2)).getD i 0 = m.getD i 0 / 2 := by rw [wgetD_set _ _ _ _ (by omega), if_pos rfl]
      refine a_draw1 tok mixed (A := [[], [], [], [], [], [2, 3], [], [], [], [7], [6, 7, 8], [6, 7, 8, 9], [6, 7, 8, 9, 10], [2, 3, 4, 6, 7, 8, 9, 10, 11], [], []]) (an := [{}, {}, {}, {}, {}, {}, {}, {}, {}, {}, {}, {}, {}, {}, {}, {}]) rfl (by kernel_rfl) rfl fun K hK => ?_
      refine s_move rfl rfl rfl ?_
      refine s_move rfl rfl rfl ?_
      refine s_move rfl rfl rfl ?_
      refine s_move rfl rfl rfl ?_
      refine s_indexAddr rfl (x_o (i := i) (j := i) rfl rfl rfl rfl rfl hc (by omega)) rfl ?_
      refine s_load rfl ((l_wD rfl rfl rfl rfl (by rw [List.length_set]; omega)).trans (by rw [hgi])) rfl ?_
      refine s_move rfl rfl rfl ?_
      refine s_move rfl rfl rfl ?_
      refine s_bin rfl (e_add (c := ((i + 1 : Nat) : Int)) (by omega) (by omega)) rfl ?_
      refine s_indexAddr rfl (x_wD (i := i + 1) rfl rfl rfl rfl rfl hd) rfl ?_
      refine s_load rfl rfl rfl ?_
      refine s_bin rfl (e_remU (y := 2) (by omega) rfl) rfl ?_
      refine s_bin rfl (e_shlU (s := 31) (z := m.getD (i + 1) 0 % 2 * 2147483648) (by omega) (by show m.getD (i + 1) 0 % 2 * 2147483648 % 4294967296 = _; omega)) rfl ?_
      refine s_bin rfl (e_addU (z := wv m / 2 / 4294967296 ^ i % 4294967296) (by rw [hdig', Nat.mod_mod])) rfl ?_
      refine s_indexAddr rfl (x_o (i := i) (j := i) rfl rfl rfl rfl rfl hc (by omega)) rfl ?_
      refine s_store rfl (st_w rfl rfl rfl (by rw [List.length_set]; omega)) rfl rfl rfl ?_
      refine s_end (hK _ ?_); clear hK K
      show AWP _ _ _ _ _ _
      refine AWP_reg tok fun K hK => ?_
      refine s_move rfl rfl rfl ?_
      refine s_bin rfl (e_add (c := ((i + 1 : Nat) : Int)) (by omega) (by omega)) rfl ?_
      refine s_assign rfl rfl rfl ?_
      refine s_end (hK _ ?_); clear hK K
      exact ⟨(i + 1, o.set i (wv m / 2 / 4294967296 ^ i % 4294967296)), by simp only; omega, ⟨hc, by simpa using hol, hnew _ rfl⟩, Wk.mk' ⟨rfl, rfl, rfl, trivial⟩ ⟨by rw [hset]; rfl, trivial⟩⟩
    · have hd : m.length ≤ i + 1 := by simp at hd; omega
      rw [getD_end hd] at hdig'
      refine AWP_skip ?_
      show AWP _ _ _ _ _ _
      refine AWP_reg tok fun K hK => ?_
      refine s_move rfl rfl rfl ?_
      refine s_bin rfl (e_add (c := ((i + 1 : Nat) : Int)) (by omega) (by omega)) rfl ?_
      refine s_assign rfl rfl rfl ?_
      refine s_end (hK _ ?_); clear hK K
      exact ⟨(i + 1, o.set i (m.getD i 0 / 2)), by simp only; omega, ⟨hc, by simpa using hol, hnew _ (by omega)⟩, Wk.mk' ⟨rfl, rfl, rfl, trivial⟩ ⟨rfl, trivial⟩⟩
  · have hc : i = m.length := by simp at hc; omega
    subst hc
    have hfin : o = wfix m.length (wv m / 2) := by
      refine list_getD (by rw [hol, wfix_length]) (fun k hk => ?_)
      rw [ho k, if_pos (by omega), wfix_getD _ (by omega)]
    have hlt := wv_lt hm
    refine AWP_exit ?_
    show AWP _ _ _ _ _ _
    refine a_fz [3] [7] 7 [(3, V1 (dW (wfix m.length (wv m / 2))))] [] rfl ?_ trivial ?_
    · exact ⟨frz_w (by rw [hfin]) (by rw [wfix_length]), trivial⟩
    refine AWP_reg_seq tok fun K hK => ?_
    refine s_move rfl rfl rfl ?_
    refine s_call rfl rfl (r1trim_c _ (wfix_ok _ _) (by rw [wfix_length]; omega)) rfl rfl rfl rfl ?_
    refine s_assign rfl rfl rfl ?_
    refine s_end (hK _ ?_); clear hK K
    refine AWP_ret ?_
    repeat (with_reducible refine tq_ret ?_)
    exact post_ret (fin_mk (by rfl) (by rfl) (by rw [wv_wfix, Nat.mod_eq_of_lt (by omega)]; rfl))

theorem r1Add_z (na nb : Bool) (wa wb : List Nat) (z : Int) (ha : wOK wa) (hb : wOK wb) (la : wa.length ≤ 536870912) (lb : wb.length ≤ 536870912) (h : zv na wa + zv nb wb = z) :
    Con Tryz.prog 58 [AG (IC na wa), AG (IC nb wb)] { v := AG (ZC z) } := h ▸ r1Add_c na nb wa wb ha hb la lb
theorem r1Sub_z (na nb : Bool) (wa wb : List Nat) (z : Int) (ha : wOK wa) (hb : wOK wb) (la : wa.length ≤ 536870912) (lb : wb.length ≤ 536870912) (h : zv na wa - zv nb wb = z) :
    Con Tryz.prog 60 [AG (IC na wa), AG (IC nb wb)] { v := AG (ZC z) } := h ▸ r1Sub_c na nb wa wb ha hb la lb

theorem tr_abs (na : Bool) (A B : Nat) : (tr na A B).natAbs = A % B := by
  unfold tr; split
  · rw [Int.natAbs_neg, Int.natAbs_natCast]
  · rw [Int.natAbs_natCast]
theorem tq_abs (na nb : Bool) (A B : Nat) : (tq na nb A B).natAbs = A / B := by
  unfold tq; split
  · rw [Int.natAbs_natCast]
  · rw [Int.natAbs_neg, Int.natAbs_natCast]
theorem r1DivMod_c (na nb : Bool) (wa wb : List Nat) (ha : wOK wa) (hb : wOK wb) (la : wa.length ≤ 268435456) (lb : wb.length ≤ 268435456) (h0 : zv nb wb ≠ 0) :
    Con Tryz.prog 54 [AG (IC na wa), AG (IC nb wb)] { v := .tup [.agg (ZC (zv na wa / zv nb wb)), .agg (ZC (zv na wa % zv nb wb)), .one (.d (lI 0))] } := by
  have hB0 : wv wb ≠ 0 := by intro h; apply h0; unfold zv; rw [h]; simp
  have hBp : 0 < wv wb := by omega
  have hla := wl_len ha
  have hlb := wl_len hb
  have hxa : zv na wa = sg na (wv wa) := rfl
  have hxb : zv nb wb = sg nb (wv wb) := rfl
  have habs : zv nb wb = sg nb (wv wb) := rfl
  rw [hxa, hxb]
  generalize hA : wv wa = A at *
  generalize hB : wv wb = B at *
  have hsgB : (sg nb B).natAbs = B := by unfold sg; split <;> omega
  have hrle : (wof (tr na A B).natAbs).length ≤ (wof A).length := wl_mono (by rw [tr_abs]; exact Nat.mod_le A B)
  have hqle : (wof (tq na nb A B).natAbs).length ≤ (wof A).length := wl_mono (by rw [tq_abs]; exact Nat.div_le_self A B)
  have hql : (wof (A / B)).length ≤ (wof A).length := wl_mono (Nat.div_le_self A B)
  have hrl : (wof (A % B)).length ≤ (wof A).length := wl_mono (Nat.mod_le A B)
  refine con_intro (fn := Tryz.f54) tok Tryz.func54 (by kernel_rfl) rfl ?_
  intro w0 X
  rw [entry_mkE _ _ [(0, AG (IC na wa)), (1, AG (IC nb wb))] rfl rfl]
  refine AWP_reg_seq tok fun K hK => ?_
  refine s_box rfl rfl rfl rfl rfl rfl ?_
  refine s_box rfl rfl rfl rfl rfl rfl ?_
  refine s_alloc rfl rfl rfl rfl rfl rfl ?_
  refine s_alloc rfl rfl rfl rfl rfl rfl ?_
  refine s_assign rfl rfl rfl ?_
  refine s_end (hK _ ?_); clear hK K
  refine AWP_seq ?_
  refine AWP_reg_seq tok fun K hK => ?_
  refine s_load rfl rfl rfl ?_
  refine s_call rfl rfl (r1Sign_c nb wb hb (by omega)) rfl rfl rfl rfl ?_
  refine s_bin rfl rfl rfl ?_
  refine s_end (hK _ ?_); clear hK K
  refine a_cond rfl (fun hc => ?_) (fun hc => ?_)
  · exfalso
    have : (zv nb wb).sign = 0 := by simpa using hc
    exact h0 (Int.sign_eq_zero_iff_zero.1 this)
  refine AWP_skip ?_
  show AWP _ _ _ _ _ _
  refine a_keep [(2, .ptr 2 0), (3, .ptr 3 0), (4, .ptr 4 0), (5, .ptr 5 0)] [(2, some (.box (IC na wa))), (3, some (.box (IC nb wb))), (4, some (.box [.d (.lit (.bool false)), .nil])), (5, some (.box [.d (.lit (.bool false)), .nil]))] ⟨rfl, rfl, rfl, rfl, trivial⟩ ⟨rfl, rfl, rfl, rfl, trivial⟩ ?_
  refine a_draw tok mixed (A := [[], [], [0], [], [], [0, 1, 3], [0, 1, 3, 4], [0, 1, 2, 3, 4, 5], [0, 1, 2, 3, 4, 5, 6], [0, 1, 2, 3, 4, 5, 6], [], []]) (an := [{}, {}, {}, { c := [19] }, { c := [19] }, {}, {}, {}, {}, {}, {}, {}]) rfl (by kernel_rfl) rfl fun K hK => ?_
  refine s_fieldAddr rfl rfl rfl ?_
  refine s_load rfl rfl rfl ?_
  refine s_call rfl rfl (hA ▸ r1trim_c wa ha (by omega)) rfl rfl rfl rfl ?_
  refine s_fieldAddr rfl rfl rfl ?_
  refine s_load rfl rfl rfl ?_
  refine s_call rfl rfl (hB ▸ r1trim_c wb hb (by omega)) rfl rfl rfl rfl ?_
  refine s_call rfl rfl (r1divide_c (wof A) (wof B) (wof_ok A) (wof_ok B) (wof_top B) (by rw [wv_wof]; exact hBp) (by omega) (by omega)) rfl rfl rfl rfl ?_
  refine s_move rfl rfl rfl ?_
  refine s_extract rfl rfl rfl ?_
  refine s_extract rfl rfl rfl ?_
  refine s_assign rfl rfl rfl ?_
  refine s_assign rfl rfl rfl ?_
  refine s_end (hK _ ?_); clear hK K
  refine AWP_reg_seq tok fun K hK => ?_
  refine s_fieldAddr rfl rfl rfl ?_
  refine s_load rfl rfl rfl ?_
  refine s_fieldAddr rfl rfl rfl ?_
  refine s_load rfl rfl rfl ?_
  refine s_bin rfl rfl rfl ?_
  refine s_move rfl rfl rfl ?_
  refine s_build rfl rfl rfl ?_
  refine s_call rfl rfl (r1Norm_z (!(na == nb)) _ (tq na nb A B) (wof_ok _) (by rw [wv_wof, wv_wof]; omega) (by unfold zv tq; rw [wv_wof, wv_wof, wv_wof]; cases na <;> cases nb <;> simp)) rfl rfl rfl rfl ?_
  refine s_alloc rfl rfl rfl rfl rfl rfl ?_
  refine s_store rfl rfl rfl rfl rfl ?_
  refine s_end (hK _ ?_); clear hK K
  refine AWP_reg_seq tok fun K hK => ?_
  refine s_fieldAddr rfl rfl rfl ?_
  refine s_load rfl rfl rfl ?_
  refine s_move rfl rfl rfl ?_
  refine s_build rfl rfl rfl ?_
  refine s_call rfl rfl (r1Norm_z na _ (tr na A B) (wof_ok _) (by rw [wv_wof, wv_wof]; omega) (by unfold zv tr; rw [wv_wof, wv_wof, wv_wof])) rfl rfl rfl rfl ?_
  refine s_alloc rfl rfl rfl rfl rfl rfl ?_
  refine s_store rfl rfl rfl rfl rfl ?_
  refine s_end (hK _ ?_); clear hK K
  refine a_join (α := Unit) (fun _ => mk 55 [(4, .ptr 4 0), (5, .ptr 5 0), (9, .ptr 9 0), (10, .ptr 10 0)] [(4, some (.box [.d (.lit (.bool false)), .nil])), (5, some (.box [.d (.lit (.bool false)), .nil])), (9, some (.box (ZC (sg na A / sg nb B)))), (10, some (.box (ZC (sg na A % sg nb B))))] []) (fun _ => True) ?_ ?_
  · refine a_keep [(3, .ptr 3 0), (4, .ptr 4 0), (5, .ptr 5 0), (9, .ptr 9 0), (10, .ptr 10 0)] [(3, some (.box (IC nb wb))), (4, some (.box [.d (.lit (.bool false)), .nil])), (5, some (.box [.d (.lit (.bool false)), .nil])), (9, some (.box (ZC (tq na nb A B)))), (10, some (.box (ZC (tr na A B))))] ⟨rfl, rfl, rfl, rfl, rfl, trivial⟩ ⟨rfl, rfl, rfl, rfl, rfl, trivial⟩ ?_
    refine AWP_reg_seq tok fun K hK => ?_
    refine s_fieldAddr rfl rfl rfl ?_
    refine s_load rfl rfl rfl ?_
    refine s_end (hK _ ?_); clear hK K
    refine a_cond rfl (fun hd => ?_) (fun hd => ?_)
    · have hd : tr na A B < 0 := of_decide_eq_true hd
      obtain ⟨e1, e2⟩ := tqr_neg na nb hBp hd
      refine a_keep [(3, .ptr 3 0), (4, .ptr 4 0), (5, .ptr 5 0), (9, .ptr 9 0), (10, .ptr 10 0)] [(3, some (.box (IC nb wb))), (4, some (.box [.d (.lit (.bool false)), .nil])), (5, some (.box [.d (.lit (.bool false)), .nil])), (9, some (.box (ZC (tq na nb A B)))), (10, some (.box (ZC (tr na A B))))] ⟨rfl, rfl, rfl, rfl, rfl, trivial⟩ ⟨rfl, rfl, rfl, rfl, rfl, trivial⟩ ?_
      have habB : (zv nb wb).natAbs = B := by rw [zv_abs]; exact hB
      refine a_draw tok mixed (A := [[], [], [], [1], []]) (an := [{}, {}, {}, {}, {}]) rfl (by kernel_rfl) rfl fun K hK => ?_
      refine s_load rfl rfl rfl ?_
      refine s_load rfl rfl rfl ?_
      refine s_call rfl rfl (habB ▸ r1Abs_c nb wb hb (by omega)) rfl rfl rfl rfl ?_
      refine s_call rfl rfl (r1Add_z (decide (tr na A B < 0)) (decide ((B : Int) < 0)) (wof (tr na A B).natAbs) (wof (B : Int).natAbs) (sg na A % sg nb B) (wof_ok _) (wof_ok _) (by omega) (by simp only [Int.natAbs_natCast]; omega) (by rw [zv_ZC, zv_ZC, e2])) rfl rfl rfl rfl ?_
      refine s_store rfl rfl rfl rfl rfl ?_
      refine s_end (hK _ ?_); clear hK K
      refine AWP_reg_seq tok fun K hK => ?_
      refine s_fieldAddr rfl rfl rfl ?_
      refine s_load rfl rfl rfl ?_
      refine s_end (hK _ ?_); clear hK K
      refine a_cond rfl (fun hn => ?_) (fun hn => ?_)
      · have hn : nb = true := hn
        subst hn
        refine a_draw1 tok mixed (A := [[], [], [], []]) (an := [{}, {}, {}, {}]) rfl (by kernel_rfl) rfl fun K hK => ?_
        refine s_load rfl rfl rfl ?_
        refine s_call rfl rfl (r1Of_c 1 (by unfold I64; omega)) rfl rfl rfl rfl ?_
        refine s_call rfl rfl (r1Add_z (decide (tq na true A B < 0)) (decide ((1 : Int) < 0)) (wof (tq na true A B).natAbs) (wof (1 : Int).natAbs) (sg na A / sg true B) (wof_ok _) (wof_ok _) (by omega) (by decide) (by rw [zv_ZC, zv_ZC, e1]; rfl)) rfl rfl rfl rfl ?_
        refine s_store rfl rfl rfl rfl rfl ?_
        refine s_end (hK _ ?_); clear hK K
        exact ⟨(), trivial, Wk.mk' ⟨rfl, rfl, rfl, rfl, trivial⟩ ⟨rfl, rfl, rfl, rfl, trivial⟩⟩
      · have hn : nb = false := hn
        subst hn
        refine a_draw1 tok mixed (A := [[], [], [], []]) (an := [{}, {}, {}, {}]) rfl (by kernel_rfl) rfl fun K hK => ?_
        refine s_load rfl rfl rfl ?_
        refine s_call rfl rfl (r1Of_c 1 (by unfold I64; omega)) rfl rfl rfl rfl ?_
        refine s_call rfl rfl (r1Sub_z (decide (tq na false A B < 0)) (decide ((1 : Int) < 0)) (wof (tq na false A B).natAbs) (wof (1 : Int).natAbs) (sg na A / sg false B) (wof_ok _) (wof_ok _) (by omega) (by decide) (by rw [zv_ZC, zv_ZC, e1]; rfl)) rfl rfl rfl rfl ?_
        refine s_store rfl rfl rfl rfl rfl ?_
        refine s_end (hK _ ?_); clear hK K
        exact ⟨(), trivial, Wk.mk' ⟨rfl, rfl, rfl, rfl, trivial⟩ ⟨rfl, rfl, rfl, rfl, trivial⟩⟩
    · have hd : 0 ≤ tr na A B := by have := of_decide_eq_false hd; omega
      obtain ⟨e1, e2⟩ := tqr_pos na nb hBp hd
      refine AWP_skip ?_
      exact ⟨(), trivial, Wk.mk' ⟨rfl, rfl, rfl, rfl, trivial⟩ ⟨rfl, rfl, by rw [e1]; rfl, by rw [e2]; rfl, trivial⟩⟩
  rintro - -
  show AWP _ _ _ _ _ (mk 55 [(4, .ptr 4 0), (5, .ptr 5 0), (9, .ptr 9 0), (10, .ptr 10 0)] [(4, some (.box [.d (.lit (.bool false)), .nil])), (5, some (.box [.d (.lit (.bool false)), .nil])), (9, some (.box (ZC (sg na A / sg nb B)))), (10, some (.box (ZC (sg na A % sg nb B))))] [])
  refine a_draw tok mixed (A := [[], [], [], [], []]) (an := [{}, {}, { d := [10] }, {}, {}]) rfl (by kernel_rfl) rfl fun K hK => ?_
  refine s_load rfl rfl rfl ?_
  refine s_load rfl rfl rfl ?_
  refine s_store rfl rfl rfl rfl rfl ?_
  refine s_store rfl rfl rfl rfl rfl ?_
  refine s_assign rfl rfl rfl ?_
  refine s_end (hK _ ?_); clear hK K
  refine AWP_ret ?_
  repeat (with_reducible refine tq_ret ?_)
  exact post_ret (fin_mk (by rfl) (by rfl) (by rfl))

theorem r1DivModZ_c (x y : Int) (hx : zl x ≤ 268435456) (hy : zl y ≤ 268435456) (h0 : y ≠ 0) :
    Con Tryz.prog 54 [AG (ZC x), AG (ZC y)] { v := .tup [.agg (ZC (x / y)), .agg (ZC (x % y)), .one (.d (lI 0))] } := by
  have := r1DivMod_c (decide (x < 0)) (decide (y < 0)) (wof x.natAbs) (wof y.natAbs) (wof_ok _) (wof_ok _) hx hy (by rw [zv_ZC]; exact h0)
  rw [zv_ZC, zv_ZC] at this
  exact this

theorem r1Gcd_c (na nb : Bool) (wa wb : List Nat) (ha : wOK wa) (hb : wOK wb) (la : wa.length ≤ 268435456) (lb : wb.length ≤ 268435456) :
    Con Tryz.prog 51 [AG (IC na wa), AG (IC nb wb)] { v := AG (ZC (Int.gcd (zv na wa) (zv nb wb) : Int)) } := by
  have hg : Int.gcd (zv na wa) (zv nb wb) = Nat.gcd (wv wa) (wv wb) := by
    show Nat.gcd (zv na wa).natAbs (zv nb wb).natAbs = _
    rw [zv_abs, zv_abs]
  have hla := wl_len ha
  have hlb := wl_len hb
  have eA : (zv na wa).natAbs = wv wa := zv_abs na wa
  have eB : (zv nb wb).natAbs = wv wb := zv_abs nb wb
  rw [hg]
  generalize hA : wv wa = A at *
  generalize hB : wv wb = B at *
  refine con_intro (fn := Tryz.f51) tok Tryz.func51 (by kernel_rfl) rfl ?_
  intro w0 X
  rw [entry_mkE _ _ [(0, AG (IC na wa)), (1, AG (IC nb wb))] rfl rfl]
  refine AWP_reg_seq tok fun K hK => ?_
  refine s_box rfl rfl rfl rfl rfl rfl ?_
  refine s_box rfl rfl rfl rfl rfl rfl ?_
  refine s_alloc rfl rfl rfl rfl rfl rfl ?_
  refine s_end (hK _ ?_); clear hK K
  refine AWP_reg_seq tok fun K hK => ?_
  refine s_fieldAddr rfl rfl rfl ?_
  refine s_load rfl rfl rfl ?_
  refine s_call rfl rfl (hA ▸ r1trim_c wa ha (by omega)) rfl rfl rfl rfl ?_
  refine s_assign rfl rfl rfl ?_
  refine s_end (hK _ ?_); clear hK K
  refine AWP_reg_seq tok fun K hK => ?_
  refine s_fieldAddr rfl rfl rfl ?_
  refine s_load rfl rfl rfl ?_
  refine s_call rfl rfl (hB ▸ r1trim_c wb hb (by omega)) rfl rfl rfl rfl ?_
  refine s_assign rfl rfl rfl ?_
  refine s_end (hK _ ?_); clear hK K
  refine AWP_seq ?_
  refine AWP_reg_seq tok fun K hK => ?_
  refine s_move rfl rfl rfl ?_
  refine s_blt rfl (len_w rfl rfl rfl) rfl ?_
  refine s_bin rfl rfl rfl ?_
  refine s_end (hK _ ?_); clear hK K
  refine a_cond rfl (fun hc => ?_) (fun hc => ?_)
  · have hc : wof A = [] := by simpa using hc
    have hA0 : A = 0 := wof_nil.1 hc
    refine AWP_reg_seq tok fun K hK => ?_
    refine s_load rfl rfl rfl ?_
    refine s_call rfl rfl (r1Abs_c nb wb hb (by omega)) rfl rfl rfl rfl ?_
    refine s_store rfl rfl rfl rfl rfl ?_
    refine s_end (hK _ ?_); clear hK K
    refine AWP_ret ?_
    repeat (with_reducible refine tq_ret ?_)
    exact post_ret (fin_mk (by rfl) (by rfl) (by rw [eB, hA0, Nat.gcd_zero_left]; rfl))
  have hc : wof A ≠ [] := by simpa using hc
  have hA0 : 0 < A := by
    rcases Nat.eq_zero_or_pos A with h | h
    · exact absurd (wof_nil.2 h) hc
    · exact h
  refine AWP_skip ?_
  show AWP _ _ _ _ _ _
  refine AWP_seq ?_
  refine AWP_reg_seq tok fun K hK => ?_
  refine s_move rfl rfl rfl ?_
  refine s_blt rfl (len_w rfl rfl rfl) rfl ?_
  refine s_bin rfl rfl rfl ?_
  refine s_end (hK _ ?_); clear hK K
  refine a_cond rfl (fun hd => ?_) (fun hd => ?_)
  · have hd : wof B = [] := by simpa using hd
    have hB0 : B = 0 := wof_nil.1 hd
    refine AWP_reg_seq tok fun K hK => ?_
    refine s_load rfl rfl rfl ?_
    refine s_call rfl rfl (r1Abs_c na wa ha (by omega)) rfl rfl rfl rfl ?_
    refine s_store rfl rfl rfl rfl rfl ?_
    refine s_end (hK _ ?_); clear hK K
    refine AWP_ret ?_
    repeat (with_reducible refine tq_ret ?_)
    exact post_ret (fin_mk (by rfl) (by rfl) (by rw [eA, hB0, Nat.gcd_zero_right]; rfl))
  have hd : wof B ≠ [] := by simpa using hd
  have hB0 : 0 < B := by
    rcases Nat.eq_zero_or_pos B with h | h
    · exact absurd (wof_nil.2 h) hd
    · exact h
  refine AWP_skip ?_
  show AWP _ _ _ _ _ _
  refine AWP_reg_seq tok fun K hK => ?_
  refine s_assign rfl rfl rfl ?_
  refine s_end (hK _ ?_); clear hK K
  have hlen : ∀ X, X ≤ A → (wof X).length ≤ 268435456 := fun X h => Nat.le_trans (wl_mono h) (Nat.le_trans hla la)
  have hlen' : ∀ X, X ≤ B → (wof X).length ≤ 268435456 := fun X h => Nat.le_trans (wl_mono h) (Nat.le_trans hlb lb)
  refine a_join (α := Nat × Nat × Nat) (fun p => mk 84 [(4, .ptr 4 0), (5, V1 (dW (wof p.1))), (6, V1 (dW (wof p.2.1))), (7, dI p.2.2)] [(4, some (.box [.d (.lit (.bool false)), .nil]))] []) (fun p => p.1 * 2 ^ p.2.2 = A ∧ p.2.1 * 2 ^ p.2.2 = B ∧ p.2.2 ≤ 8589934592 ∧ ¬ (p.1 % 2 = 0 ∧ p.2.1 % 2 = 0)) ?_ ?_
  · refine AWP_block (a_loop (α := Nat × Nat × Nat) (fun p => mk 84 [(4, .ptr 4 0), (5, V1 (dW (wof p.1))), (6, V1 (dW (wof p.2.1))), (7, dI p.2.2)] [(4, some (.box [.d (.lit (.bool false)), .nil]))] []) (fun p => p.1 * 2 ^ p.2.2 = A ∧ p.2.1 * 2 ^ p.2.2 = B) (fun p => p.1) (A, B, 0) ?_ ⟨by simp, by simp⟩ ?_)
    · exact Wk.mk' ⟨rfl, rfl, rfl, rfl, trivial⟩ ⟨rfl, trivial⟩
    rintro ⟨x, y, t⟩ ⟨i1, i2⟩
    simp only at i1 i2
    show AWP _ _ _ _ _ (mk 84 [(4, .ptr 4 0), (5, V1 (dW (wof x))), (6, V1 (dW (wof y))), (7, dI t)] [(4, some (.box [.d (.lit (.bool false)), .nil]))] [])
    have hx : 0 < x := by
      rcases Nat.eq_zero_or_pos x with h | h
      · rw [h, Nat.zero_mul] at i1; omega
      · exact h
    have hy : 0 < y := by
      rcases Nat.eq_zero_or_pos y with h | h
      · rw [h, Nat.zero_mul] at i2; omega
      · exact h
    have hxA : x ≤ A := by rw [← i1]; exact Nat.le_mul_of_pos_right _ (Nat.two_pow_pos t)
    have hyB : y ≤ B := by rw [← i2]; exact Nat.le_mul_of_pos_right _ (Nat.two_pow_pos t)
    have ht : t ≤ 8589934592 := by
      have h1 : 2 ^ t ≤ A := by rw [← i1]; exact Nat.le_mul_of_pos_left _ hx
      have h2 := wof_lt A
      rw [pow32] at h2
      have h3 : 2 ^ t < 2 ^ (32 * (wof A).length) := by omega
      have := (Nat.pow_lt_pow_iff_right (by decide : 1 < 2)).1 h3
      omega
    refine AWP_seq ?_
    refine a_join (α := Bool) (fun c => mk 84 [(4, .ptr 4 0), (5, V1 (dW (wof x))), (6, V1 (dW (wof y))), (7, dI t), (36, dB c)] [(4, some (.box [.d (.lit (.bool false)), .nil]))] []) (fun c => (c = true → x % 2 = 0 ∧ y % 2 = 0) ∧ (c = false → ¬ (x % 2 = 0 ∧ y % 2 = 0))) ?_ ?_
    · refine AWP_reg tok fun K hK => ?_
      refine s_move rfl rfl rfl ?_
      refine s_indexAddr rfl (x_wD (i := 0) rfl rfl rfl rfl rfl (wof_pos hx)) rfl ?_
      refine s_load rfl rfl rfl ?_
      refine s_bin rfl (e_remU (y := 2) (z := x % 2) (by omega) (wof_even x)) rfl ?_
      refine s_bin rfl rfl rfl ?_
      refine s_move rfl rfl rfl ?_
      refine s_split (fun he => ?_) (fun he => ?_)
      · have he : x % 2 = 0 := by simp at he; omega
        refine s_move rfl rfl rfl ?_
        refine s_indexAddr rfl (x_wD (i := 0) rfl rfl rfl rfl rfl (wof_pos hy)) rfl ?_
        refine s_load rfl rfl rfl ?_
        refine s_bin rfl (e_remU (y := 2) (z := y % 2) (by omega) (wof_even y)) rfl ?_
        refine s_bin rfl rfl rfl ?_
        refine s_pick rfl rfl rfl ?_
        refine s_end (hK _ ?_); clear hK K
        refine ⟨_, ⟨fun h => ⟨he, ?_⟩, fun h => ?_⟩, Wk.mk' ⟨rfl, rfl, rfl, rfl, rfl, trivial⟩ ⟨rfl, trivial⟩⟩
        · simp at h; omega
        · simp at h; omega
      · have he : ¬ x % 2 = 0 := by simp at he; omega
        refine s_skip rfl ?_
        refine s_skip rfl ?_
        refine s_skip rfl ?_
        refine s_skip rfl ?_
        refine s_skip rfl ?_
        refine s_pick rfl rfl rfl ?_
        refine s_end (hK _ ?_); clear hK K
        exact ⟨false, ⟨fun h => (by cases h), fun _ h => he h.1⟩, Wk.mk' ⟨rfl, rfl, rfl, rfl, rfl, trivial⟩ ⟨rfl, trivial⟩⟩
    rintro c ⟨k1, k2⟩
    refine a_cond rfl (fun he => ?_) (fun he => ?_)
    · obtain ⟨ex, ey⟩ := k1 he
      have l1 := hlen x hxA
      have l2 := hlen' y hyB
      refine AWP_skip ?_
      show AWP _ _ _ _ _ _
      refine AWP_block ?_
      refine AWP_reg_seq tok fun K hK => ?_
      refine s_move rfl rfl rfl ?_
      refine s_call rfl rfl (r1half_c (wof x) (wof_ok _) (by omega)) rfl rfl rfl rfl ?_
      refine s_assign rfl rfl rfl ?_
      refine s_end (hK _ ?_); clear hK K
      refine AWP_reg_seq tok fun K hK => ?_
      refine s_move rfl rfl rfl ?_
      refine s_call rfl rfl (r1half_c (wof y) (wof_ok _) (by omega)) rfl rfl rfl rfl ?_
      refine s_assign rfl rfl rfl ?_
      refine s_end (hK _ ?_); clear hK K
      refine AWP_reg tok fun K hK => ?_
      refine s_move rfl rfl rfl ?_
      refine s_bin rfl (e_add (c := ((t + 1 : Nat) : Int)) (by omega) (by omega)) rfl ?_
      refine s_assign rfl rfl rfl ?_
      refine s_end (hK _ ?_); clear hK K
      refine ⟨(x / 2, y / 2, t + 1), by simp only; omega, ⟨?_, ?_⟩, Wk.mk' ⟨rfl, dW_eq (by rw [wv_wof]), dW_eq (by rw [wv_wof]), rfl, trivial⟩ ⟨rfl, trivial⟩⟩
      · rw [← i1, Nat.pow_succ]
        have : x = 2 * (x / 2) := by omega
        conv => rhs; rw [this]
        simp only; grind
      · rw [← i2, Nat.pow_succ]
        have : y = 2 * (y / 2) := by omega
        conv => rhs; rw [this]
        simp only; grind
    · refine AWP_exit ?_
      exact ⟨(x, y, t), ⟨i1, i2, ht, k2 he⟩, Wk.mk' ⟨rfl, rfl, rfl, rfl, trivial⟩ ⟨rfl, trivial⟩⟩
  rintro ⟨x0, y0, t⟩ ⟨i1, i2, ht, hne⟩
  simp only at i1 i2 ht hne
  have hG : Nat.gcd x0 y0 * 2 ^ t = Nat.gcd A B := by rw [← i1, ← i2, Nat.gcd_mul_right]
  have hx0 : 0 < x0 := by
    rcases Nat.eq_zero_or_pos x0 with h | h
    · rw [h, Nat.zero_mul] at i1; omega
    · exact h
  have hy0 : 0 < y0 := by
    rcases Nat.eq_zero_or_pos y0 with h | h
    · rw [h, Nat.zero_mul] at i2; omega
    · exact h
  have hxA : x0 ≤ A := by rw [← i1]; exact Nat.le_mul_of_pos_right _ (Nat.two_pow_pos t)
  have hyB : y0 ≤ B := by rw [← i2]; exact Nat.le_mul_of_pos_right _ (Nat.two_pow_pos t)
  show AWP _ _ _ _ _ (mk 84 [(4, .ptr 4 0), (5, V1 (dW (wof x0))), (6, V1 (dW (wof y0))), (7, dI t)] [(4, some (.box [.d (.lit (.bool false)), .nil]))] [])
  refine a_join (α := Unit) (fun _ => mk 84 [(4, .ptr 4 0), (5, V1 (dW (wof (Nat.gcd x0 y0)))), (7, dI t)] [(4, some (.box [.d (.lit (.bool false)), .nil]))] []) (fun _ => True) ?_ ?_
  · refine AWP_block (a_loop (α := Nat × Nat) (fun p => mk 84 [(4, .ptr 4 0), (5, V1 (dW (wof p.1))), (6, V1 (dW (wof p.2))), (7, dI t)] [(4, some (.box [.d (.lit (.bool false)), .nil]))] []) (fun p => 0 < p.1 ∧ 0 < p.2 ∧ p.1 ≤ A ∧ p.2 ≤ B ∧ Nat.gcd p.1 p.2 = Nat.gcd x0 y0 ∧ ¬ (p.1 % 2 = 0 ∧ p.2 % 2 = 0)) (fun p => p.1 + p.2) (x0, y0) ?_ ⟨hx0, hy0, hxA, hyB, rfl, hne⟩ ?_)
    · exact Wk.mk' ⟨rfl, rfl, rfl, rfl, trivial⟩ ⟨rfl, trivial⟩
    rintro ⟨x, y⟩ ⟨px, py, lx, ly, hgc, hnb⟩
    simp only at px py lx ly hgc hnb
    show AWP _ _ _ _ _ (mk 84 [(4, .ptr 4 0), (5, V1 (dW (wof x))), (6, V1 (dW (wof y))), (7, dI t)] [(4, some (.box [.d (.lit (.bool false)), .nil]))] [])
    have l1 := hlen x lx
    have l2 := hlen' y ly
    have hcx : ncmp (wv (wof x)) (wv (wof y)) = ncmp x y := by rw [wv_wof, wv_wof]
    refine AWP_seq ?_
    refine AWP_reg_seq tok fun K hK => ?_
    refine s_move rfl rfl rfl ?_
    refine s_move rfl rfl rfl ?_
    refine s_call rfl rfl (r1cmp_c (wof x) (wof y) (wof_ok _) (wof_ok _) (wof_top _) (wof_top _) (by omega) (by omega)) rfl rfl rfl rfl ?_
    refine s_bin rfl rfl rfl ?_
    refine s_end (hK _ ?_); clear hK K
    refine a_cond rfl (fun he => ?_) (fun he => ?_)
    · have he : x ≠ y := by
        rw [hcx] at he
        intro h
        rw [ncmp_eq.2 h] at he; simp at he
      refine AWP_skip ?_
      show AWP _ _ _ _ _ _
      refine AWP_block ?_
      refine AWP_block ?_
      refine a_keep [(4, .ptr 4 0), (5, V1 (dW (wof x))), (6, V1 (dW (wof y))), (7, dI t)] [(4, some (.box [.d (.lit (.bool false)), .nil]))] ⟨rfl, rfl, rfl, rfl, trivial⟩ ⟨rfl, trivial⟩ ?_
      refine AWP_reg_seq tok fun K hK => ?_
      refine s_move rfl rfl rfl ?_
      refine s_indexAddr rfl (x_wD (i := 0) rfl rfl rfl rfl rfl (wof_pos px)) rfl ?_
      refine s_load rfl rfl rfl ?_
      refine s_bin rfl (e_remU (y := 2) (z := x % 2) (by omega) (wof_even x)) rfl ?_
      refine s_bin rfl rfl rfl ?_
      refine s_assign rfl rfl rfl ?_
      refine s_end (hK _ ?_); clear hK K
      refine a_cond rfl (fun hev => ?_) (fun hev => ?_)
      · have hev : x % 2 = 0 := by simp at hev; omega
        have hyo : y % 2 = 1 := by have : ¬ y % 2 = 0 := fun h => hnb ⟨hev, h⟩; omega
        refine AWP_reg tok fun K hK => ?_
        refine s_move rfl rfl rfl ?_
        refine s_call rfl rfl (r1half_c (wof x) (wof_ok _) (by omega)) rfl rfl rfl rfl ?_
        refine s_assign rfl rfl rfl ?_
        refine s_end (hK _ ?_); clear hK K
        exact ⟨(x / 2, y), by simp only; omega, ⟨by simp only; omega, py, by simp only; omega, ly, by rw [← hgc]; exact gcd_half hev hyo, by simp only; omega⟩, Wk.mk' ⟨rfl, dW_eq (by rw [wv_wof]), rfl, rfl, trivial⟩ ⟨rfl, trivial⟩⟩
      have hev : x % 2 = 1 := by simp at hev; omega
      refine AWP_reg_seq tok fun K hK => ?_
      refine s_move rfl rfl rfl ?_
      refine s_indexAddr rfl (x_wD (i := 0) rfl rfl rfl rfl rfl (wof_pos py)) rfl ?_
      refine s_load rfl rfl rfl ?_
      refine s_bin rfl (e_remU (y := 2) (z := y % 2) (by omega) (wof_even y)) rfl ?_
      refine s_bin rfl rfl rfl ?_
      refine s_assign rfl rfl rfl ?_
      refine s_end (hK _ ?_); clear hK K
      refine a_cond rfl (fun hod => ?_) (fun hod => ?_)
      · have hod : y % 2 = 0 := by simp at hod; omega
        refine AWP_reg tok fun K hK => ?_
        refine s_move rfl rfl rfl ?_
        refine s_call rfl rfl (r1half_c (wof y) (wof_ok _) (by omega)) rfl rfl rfl rfl ?_
        refine s_assign rfl rfl rfl ?_
        refine s_end (hK _ ?_); clear hK K
        exact ⟨(x, y / 2), by simp only; omega, ⟨px, by simp only; omega, lx, by simp only; omega, by rw [← hgc, Nat.gcd_comm x, Nat.gcd_comm x]; exact gcd_half hod hev, by simp only; omega⟩, Wk.mk' ⟨rfl, rfl, dW_eq (by rw [wv_wof]), rfl, trivial⟩ ⟨rfl, trivial⟩⟩
      have hod : y % 2 = 1 := by simp at hod; omega
      refine AWP_reg_seq tok fun K hK => ?_
      refine s_move rfl rfl rfl ?_
      refine s_move rfl rfl rfl ?_
      refine s_call rfl rfl (r1cmp_c (wof x) (wof y) (wof_ok _) (wof_ok _) (wof_top _) (wof_top _) (by omega) (by omega)) rfl rfl rfl rfl ?_
      refine s_bin rfl rfl rfl ?_
      refine s_assign rfl rfl rfl ?_
      refine s_end (hK _ ?_); clear hK K
      refine a_cond rfl (fun hgt => ?_) (fun hgt => ?_)
      · have hgt : y < x := by
          rw [hcx] at hgt
          exact ncmp_gt.1 (of_decide_eq_true hgt)
        refine AWP_reg tok fun K hK => ?_
        refine s_move rfl rfl rfl ?_
        refine s_move rfl rfl rfl ?_
        refine s_call rfl rfl (r1sub_c (wof x) (wof y) (wof_ok _) (wof_ok _) (by omega) (wl_mono (by omega)) (by rw [wv_wof, wv_wof]; omega)) rfl rfl rfl rfl ?_
        refine s_assign rfl rfl rfl ?_
        refine s_end (hK _ ?_); clear hK K
        exact ⟨(x - y, y), by simp only; omega, ⟨by simp only; omega, py, by simp only; omega, ly, by rw [← hgc]; exact Nat.gcd_sub_self_left (by omega), by simp only; omega⟩, Wk.mk' ⟨rfl, dW_eq (by rw [wv_wof, wv_wof]), rfl, rfl, trivial⟩ ⟨rfl, trivial⟩⟩
      · have hgt : x < y := by
          rw [hcx] at hgt
          have := mt ncmp_gt.2 (of_decide_eq_false hgt)
          omega
        refine AWP_reg tok fun K hK => ?_
        refine s_move rfl rfl rfl ?_
        refine s_move rfl rfl rfl ?_
        refine s_call rfl rfl (r1sub_c (wof y) (wof x) (wof_ok _) (wof_ok _) (by omega) (wl_mono (by omega)) (by rw [wv_wof, wv_wof]; omega)) rfl rfl rfl rfl ?_
        refine s_assign rfl rfl rfl ?_
        refine s_end (hK _ ?_); clear hK K
        exact ⟨(x, y - x), by simp only; omega, ⟨px, by simp only; omega, lx, by simp only; omega, by rw [← hgc]; exact Nat.gcd_sub_self_right (by omega), by simp only; omega⟩, Wk.mk' ⟨rfl, rfl, dW_eq (by rw [wv_wof, wv_wof]), rfl, trivial⟩ ⟨rfl, trivial⟩⟩
    · have he : x = y := by
        rw [hcx] at he
        simp at he; exact ncmp_eq.1 he
      subst he
      rw [Nat.gcd_self] at hgc
      refine AWP_exit ?_
      exact ⟨(), trivial, Wk.mk' ⟨rfl, by rw [← hgc]; rfl, rfl, trivial⟩ ⟨rfl, trivial⟩⟩
  rintro - -
  have hgle : Nat.gcd A B ≤ A := Nat.gcd_le_left _ hA0
  generalize hgg : Nat.gcd x0 y0 = g at *
  show AWP _ _ _ _ _ (mk 84 [(4, .ptr 4 0), (5, V1 (dW (wof g))), (7, dI t)] [(4, some (.box [.d (.lit (.bool false)), .nil]))] [])
  refine AWP_seq ?_
  refine AWP_reg_seq tok fun K hK => ?_
  refine s_assign rfl rfl rfl ?_
  refine s_end (hK _ ?_); clear hK K
  refine AWP_block (a_loop (α := Nat) (fun i => mk 84 [(4, .ptr 4 0), (5, V1 (dW (wof (g * 2 ^ i)))), (7, dI t), (8, dI i)] [(4, some (.box [.d (.lit (.bool false)), .nil]))] []) (fun i => i ≤ t) (fun i => t - i) 0 ?_ (Nat.zero_le _) ?_)
  · exact Wk.mk' ⟨rfl, by simp; rfl, rfl, rfl, trivial⟩ ⟨rfl, trivial⟩
  intro i hi
  refine AWP_seq ?_
  refine AWP_reg_seq tok fun K hK => ?_
  refine s_move rfl rfl rfl ?_
  refine s_move rfl rfl rfl ?_
  refine s_bin rfl rfl rfl ?_
  refine s_end (hK _ ?_); clear hK K
  refine a_cond rfl (fun he => ?_) (fun he => ?_)
  · have he : i < t := by simp at he; omega
    have hle : g * 2 ^ i ≤ A := by
      have : g * 2 ^ i ≤ g * 2 ^ t := Nat.mul_le_mul_left _ (Nat.pow_le_pow_right (by decide) hi)
      omega
    have l1 := hlen _ hle
    refine AWP_skip ?_
    show AWP _ _ _ _ _ _
    refine AWP_seq ?_
    refine AWP_block ?_
    refine AWP_reg tok fun K hK => ?_
    refine s_move rfl rfl rfl ?_
    refine s_move rfl rfl rfl ?_
    refine s_call rfl rfl (r1add_c (wof (g * 2 ^ i)) (wof (g * 2 ^ i)) (wof_ok _) (wof_ok _) (by omega) (by omega)) rfl rfl rfl rfl ?_
    refine s_assign rfl rfl rfl ?_
    refine s_end (hK _ ?_); clear hK K
    show AWP _ _ _ _ _ _
    refine AWP_reg tok fun K hK => ?_
    refine s_move rfl rfl rfl ?_
    refine s_bin rfl (e_add (c := ((i + 1 : Nat) : Int)) (by omega) (by omega)) rfl ?_
    refine s_assign rfl rfl rfl ?_
    refine s_end (hK _ ?_); clear hK K
    refine ⟨i + 1, by omega, he, Wk.mk' ⟨rfl, ?_, rfl, rfl, trivial⟩ ⟨rfl, trivial⟩⟩
    refine dW_eq ?_
    rw [wv_wof, Nat.pow_succ]
    congr 1; grind
  · have he : i = t := by simp at he; omega
    subst he
    rw [hG] at *
    refine AWP_exit ?_
    show AWP _ _ _ _ _ _
    refine AWP_reg_seq tok fun K hK => ?_
    refine s_move rfl rfl rfl ?_
    refine s_build rfl rfl rfl ?_
    refine s_store rfl rfl rfl rfl rfl ?_
    refine s_end (hK _ ?_); clear hK K
    refine AWP_ret ?_
    repeat (with_reducible refine tq_ret ?_)
    exact post_ret (fin_mk (by rfl) (by rfl) (by rw [ZC_nat]; rfl))
end Go.Proofs.YtipenembpidoiaaGreatDoor

/- The reference's rationals. No condition. -/
namespace Go.Proofs.YtipenembpidoiaaGreatDoor
attribute [local irreducible] lexA

theorem r1NegZ_c (x : Int) (hx : zl x ≤ 268435456) : Con Tryz.prog 55 [AG (ZC x)] { v := AG (ZC (-x)) } := by
  have := r1Neg_c (decide (x < 0)) (wof x.natAbs) (wof_ok _) (Nat.le_trans hx (by decide))
  rw [zv_ZC] at this; exact this
theorem r1AddZ_c (x y : Int) (hx : zl x ≤ 536870912) (hy : zl y ≤ 536870912) : Con Tryz.prog 58 [AG (ZC x), AG (ZC y)] { v := AG (ZC (x + y)) } := by
  have := r1Add_c (decide (x < 0)) (decide (y < 0)) (wof x.natAbs) (wof y.natAbs) (wof_ok _) (wof_ok _) hx hy
  rw [zv_ZC, zv_ZC] at this; exact this
theorem r1SubZ_c (x y : Int) (hx : zl x ≤ 536870912) (hy : zl y ≤ 536870912) : Con Tryz.prog 60 [AG (ZC x), AG (ZC y)] { v := AG (ZC (x - y)) } := by
  have := r1Sub_c (decide (x < 0)) (decide (y < 0)) (wof x.natAbs) (wof y.natAbs) (wof_ok _) (wof_ok _) hx hy
  rw [zv_ZC, zv_ZC] at this; exact this
theorem r1MulZ_c (x y : Int) (hx : zl x ≤ 500000000) (hy : zl y ≤ 500000000) : Con Tryz.prog 59 [AG (ZC x), AG (ZC y)] { v := AG (ZC (x * y)) } := by
  have := r1Mul_c (decide (x < 0)) (decide (y < 0)) (wof x.natAbs) (wof y.natAbs) (wof_ok _) (wof_ok _) hx hy
  rw [zv_ZC, zv_ZC] at this; exact this
theorem r1SignZ_c (x : Int) (hx : zl x ≤ 536870912) : Con Tryz.prog 52 [AG (ZC x)] { v := dI x.sign } := by
  have := r1Sign_c (decide (x < 0)) (wof x.natAbs) (wof_ok _) (Nat.le_trans hx (by decide))
  rw [zv_ZC] at this; exact this
theorem r1DivMod_q (na nb : Bool) (wa wb : List Nat) (x y q : Int) (ha : wOK wa) (hb : wOK wb) (la : wa.length ≤ 268435456) (lb : wb.length ≤ 268435456) (hx : zv na wa = x) (hy : zv nb wb = y) (h0 : y ≠ 0) (hq : x / y = q) :
    Con Tryz.prog 54 [AG (IC na wa), AG (IC nb wb)] { v := .tup [.agg (ZC q), .agg (ZC (x % y)), .one (.d (lI 0))] } := by
  subst hx hy hq
  exact r1DivMod_c na nb wa wb ha hb la lb h0

theorem r2One_c : Con Tryz.prog 99 [] { v := AG (ZC 1) } := by
  refine con_intro (fn := Tryz.f99) tok Tryz.func99 (by kernel_rfl) rfl ?_
  intro w0 X
  rw [entry_mkE _ _ [] rfl rfl]
  refine AWP_reg_seq tok fun K hK => ?_
  refine s_alloc rfl rfl rfl rfl rfl rfl ?_
  refine s_end (hK _ ?_); clear hK K
  refine AWP_reg_seq tok fun K hK => ?_
  refine s_call rfl rfl (r1Of_c 1 (by unfold I64; omega)) rfl rfl rfl rfl ?_
  refine s_store rfl rfl rfl rfl rfl ?_
  refine s_end (hK _ ?_); clear hK K
  refine AWP_ret ?_
  repeat (with_reducible refine tq_ret ?_)
  exact post_ret (fin_mk (by rfl) (by rfl) (by rfl))

theorem r2part_q (na nb : Bool) (wa wb : List Nat) (x y q : Int) (ha : wOK wa) (hb : wOK wb) (la : wa.length ≤ 268435456) (lb : wb.length ≤ 268435456) (hx : zv na wa = x) (hy : zv nb wb = y) (h0 : y ≠ 0) (hq : x / y = q) :
    Con Tryz.prog 100 [AG (IC na wa), AG (IC nb wb)] { v := AG (ZC q) } := by
  refine con_intro (fn := Tryz.f100) tok Tryz.func100 (by kernel_rfl) rfl ?_
  intro w0 X
  rw [entry_mkE _ _ [(0, AG (IC na wa)), (1, AG (IC nb wb))] rfl rfl]
  refine AWP_reg_seq tok fun K hK => ?_
  refine s_box rfl rfl rfl rfl rfl rfl ?_
  refine s_box rfl rfl rfl rfl rfl rfl ?_
  refine s_alloc rfl rfl rfl rfl rfl rfl ?_
  refine s_end (hK _ ?_); clear hK K
  refine AWP_reg_seq tok fun K hK => ?_
  refine s_load rfl rfl rfl ?_
  refine s_load rfl rfl rfl ?_
  refine s_call rfl rfl (r1DivMod_q na nb wa wb x y q ha hb la lb hx hy h0 hq) rfl rfl rfl rfl ?_
  refine s_move rfl rfl rfl ?_
  refine s_extract rfl rfl rfl ?_
  refine s_extract rfl rfl rfl ?_
  refine s_extract rfl rfl rfl ?_
  refine s_alloc rfl rfl rfl rfl rfl rfl ?_
  refine s_alloc rfl rfl rfl rfl rfl rfl ?_
  refine s_store rfl rfl rfl rfl rfl ?_
  refine s_store rfl rfl rfl rfl rfl ?_
  refine s_assign rfl rfl rfl ?_
  refine s_end (hK _ ?_); clear hK K
  refine AWP_reg_seq tok fun K hK => ?_
  refine s_load rfl rfl rfl ?_
  refine s_store rfl rfl rfl rfl rfl ?_
  refine s_end (hK _ ?_); clear hK K
  refine AWP_ret ?_
  repeat (with_reducible refine tq_ret ?_)
  exact post_ret (fin_mk (by rfl) (by rfl) (by rfl))

theorem r2New_c (na nb : Bool) (wa wb : List Nat) (ha : wOK wa) (hb : wOK wb) (la : wa.length ≤ 268435456) (lb : wb.length ≤ 268435456) :
    Con Tryz.prog 64 [AG (IC na wa), AG (IC nb wb)] { v := AG (QZ (Rat.divInt (zv na wa) (zv nb wb))) } := by
  have lza : zl (zv na wa) ≤ 268435456 := by unfold zl; rw [zv_abs]; exact Nat.le_trans (wl_len ha) la
  have lzb : zl (zv nb wb) ≤ 268435456 := by unfold zl; rw [zv_abs]; exact Nat.le_trans (wl_len hb) lb
  generalize hx : zv na wa = x at *
  generalize hy : zv nb wb = y at *
  refine con_intro (fn := Tryz.f64) tok Tryz.func64 (by kernel_rfl) rfl ?_
  intro w0 X
  rw [entry_mkE _ _ [(0, AG (IC na wa)), (1, AG (IC nb wb))] rfl rfl]
  refine AWP_reg_seq tok fun K hK => ?_
  refine s_box rfl rfl rfl rfl rfl rfl ?_
  refine s_box rfl rfl rfl rfl rfl rfl ?_
  refine s_alloc rfl rfl rfl rfl rfl rfl ?_
  refine s_end (hK _ ?_); clear hK K
  refine AWP_seq ?_
  refine a_join (α := Bool) (fun c => mk 34 [(2, .ptr 2 0), (3, .ptr 3 0), (4, .ptr 4 0), (13, dB c)] [(2, some (.box (IC na wa))), (3, some (.box (IC nb wb))), (4, some (.box [.d (.lit (.bool false)), .nil, .d (.lit (.bool false)), .nil]))] []) (fun c => (c = true → x = 0 ∨ y = 0) ∧ (c = false → x ≠ 0 ∧ y ≠ 0)) ?_ ?_
  · refine AWP_reg tok fun K hK => ?_
    refine s_load rfl rfl rfl ?_
    refine s_call rfl rfl (hx ▸ r1Sign_c na wa ha (by omega)) rfl rfl rfl rfl ?_
    refine s_bin rfl rfl rfl ?_
    refine s_move rfl rfl rfl ?_
    refine s_split (fun he => ?_) (fun he => ?_)
    · have he : x = 0 := Int.sign_eq_zero_iff_zero.1 (by simpa using he)
      refine s_skip rfl ?_
      refine s_skip rfl ?_
      refine s_skip rfl ?_
      refine s_pick rfl rfl rfl ?_
      refine s_end (hK _ ?_); clear hK K
      exact ⟨true, ⟨fun _ => Or.inl he, fun h => (by cases h)⟩, Wk.mk' ⟨rfl, rfl, rfl, rfl, trivial⟩ ⟨rfl, rfl, rfl, trivial⟩⟩
    · have he : x ≠ 0 := by intro h; subst h; simp at he
      refine s_load rfl rfl rfl ?_
      refine s_call rfl rfl (hy ▸ r1Sign_c nb wb hb (by omega)) rfl rfl rfl rfl ?_
      refine s_bin rfl rfl rfl ?_
      refine s_pick rfl rfl rfl ?_
      refine s_end (hK _ ?_); clear hK K
      refine ⟨_, ⟨fun h => ?_, fun h => ?_⟩, Wk.mk' ⟨rfl, rfl, rfl, rfl, trivial⟩ ⟨rfl, rfl, rfl, trivial⟩⟩
      · exact Or.inr (Int.sign_eq_zero_iff_zero.1 (by simpa using h))
      · exact ⟨he, by intro h'; subst h'; simp at h⟩
  rintro c ⟨k1, k2⟩
  refine a_cond rfl (fun hc => ?_) (fun hc => ?_)
  · have h0 : Rat.divInt x y = 0 := by
      rcases k1 hc with h | h
      · rw [h, Rat.zero_divInt]
      · rw [h, Rat.divInt_zero]
    refine AWP_reg_seq tok fun K hK => ?_
    refine s_call rfl rfl (r1Of_c 0 (by unfold I64; omega)) rfl rfl rfl rfl ?_
    refine s_call rfl rfl (r2One_c) rfl rfl rfl rfl ?_
    refine s_build rfl rfl rfl ?_
    refine s_store rfl rfl rfl rfl rfl ?_
    refine s_end (hK _ ?_); clear hK K
    refine AWP_ret ?_
    repeat (with_reducible refine tq_ret ?_)
    exact post_ret (fin_mk (by rfl) (by rfl) (by rw [h0]; rfl))
  obtain ⟨hx0, h0⟩ := k2 hc
  refine AWP_skip ?_
  show AWP _ _ _ _ _ _
  refine a_join (α := (Bool × List Nat) × (Bool × List Nat)) (fun p => mk 34 [(2, .ptr 2 0), (3, .ptr 3 0), (4, .ptr 4 0)] [(2, some (.box (IC p.1.1 p.1.2))), (3, some (.box (IC p.2.1 p.2.2))), (4, some (.box [.d (.lit (.bool false)), .nil, .d (.lit (.bool false)), .nil]))] []) (fun p => wOK p.1.2 ∧ wOK p.2.2 ∧ p.1.2.length ≤ 268435456 ∧ p.2.2.length ≤ 268435456 ∧ zv p.1.1 p.1.2 = y.sign * x ∧ zv p.2.1 p.2.2 = (y.natAbs : Int)) ?_ ?_
  · refine AWP_reg_seq tok fun K hK => ?_
    refine s_load rfl rfl rfl ?_
    refine s_call rfl rfl (hy ▸ r1Sign_c nb wb hb (by omega)) rfl rfl rfl rfl ?_
    refine s_bin rfl rfl rfl ?_
    refine s_end (hK _ ?_); clear hK K
    refine a_cond rfl (fun hd => ?_) (fun hd => ?_)
    · have hd : y < 0 := by
        have h1 : y.sign < 0 := of_decide_eq_true hd
        rcases Int.lt_trichotomy y 0 with h | h | h
        · exact h
        · exact absurd h h0
        · rw [Int.sign_eq_one_of_pos h] at h1; omega
      refine AWP_reg_seq tok fun K hK => ?_
      refine s_load rfl rfl rfl ?_
      refine s_call rfl rfl (hx ▸ r1Neg_c na wa ha (by omega)) rfl rfl rfl rfl ?_
      refine s_store rfl rfl rfl rfl rfl ?_
      refine s_end (hK _ ?_); clear hK K
      show AWP _ _ _ _ _ _
      refine AWP_reg tok fun K hK => ?_
      refine s_load rfl rfl rfl ?_
      refine s_call rfl rfl (hy ▸ r1Neg_c nb wb hb (by omega)) rfl rfl rfl rfl ?_
      refine s_store rfl rfl rfl rfl rfl ?_
      refine s_end (hK _ ?_); clear hK K
      refine ⟨((decide (-x < 0), wof (-x).natAbs), (decide (-y < 0), wof (-y).natAbs)), ⟨wof_ok _, wof_ok _, ?_, ?_, ?_, ?_⟩, Wk.mk' ⟨rfl, rfl, rfl, trivial⟩ ⟨rfl, rfl, rfl, trivial⟩⟩
      · show zl (-x) ≤ _; rw [zl_neg]; exact lza
      · show zl (-y) ≤ _; rw [zl_neg]; exact lzb
      · simp only; rw [zv_ZC, Int.sign_eq_neg_one_of_neg hd]; omega
      · simp only; rw [zv_ZC]; omega
    · have hd : 0 < y := by
        have h1 : ¬ y.sign < 0 := of_decide_eq_false hd
        rcases Int.lt_trichotomy y 0 with h | h | h
        · rw [Int.sign_eq_neg_one_of_neg h] at h1; omega
        · exact absurd h h0
        · exact h
      refine AWP_skip ?_
      refine ⟨((na, wa), (nb, wb)), ⟨ha, hb, la, lb, ?_, ?_⟩, Wk.mk' ⟨rfl, rfl, rfl, trivial⟩ ⟨rfl, rfl, rfl, trivial⟩⟩
      · simp only; rw [hx, Int.sign_eq_one_of_pos hd]; omega
      · simp only; rw [hy]; omega
  rintro ⟨⟨na', wa'⟩, ⟨nb', wb'⟩⟩ ⟨oa, ob, ka, kb, va, vb⟩
  simp only at oa ob ka kb va vb
  show AWP _ _ _ _ _ (mk 34 [(2, .ptr 2 0), (3, .ptr 3 0), (4, .ptr 4 0)] [(2, some (.box (IC na' wa'))), (3, some (.box (IC nb' wb'))), (4, some (.box [.d (.lit (.bool false)), .nil, .d (.lit (.bool false)), .nil]))] [])
  have hg : (Int.gcd (zv na' wa') (zv nb' wb') : Int) = (Int.gcd x y : Int) := by
    rw [va, vb]
    show ((Nat.gcd (y.sign * x).natAbs (y.natAbs : Int).natAbs : Nat) : Int) = _
    rw [Int.natAbs_mul, Int.natAbs_natCast]
    have : y.sign.natAbs = 1 := by
      rcases Int.lt_trichotomy y 0 with h | h | h
      · rw [Int.sign_eq_neg_one_of_neg h]; rfl
      · exact absurd h h0
      · rw [Int.sign_eq_one_of_pos h]; rfl
    rw [this, Nat.one_mul]; rfl
  have hgn : (Int.gcd x y : Int) ≠ 0 := by have := gcd_pos (x := x) h0; omega
  have hgl : (wof (Int.gcd x y : Int).natAbs).length ≤ 268435456 := Nat.le_trans (zl_gcd x h0) lzb
  refine AWP_reg_seq tok fun K hK => ?_
  refine s_load rfl rfl rfl ?_
  refine s_load rfl rfl rfl ?_
  refine s_call rfl rfl (hg ▸ r1Gcd_c na' nb' wa' wb' oa ob ka kb) rfl rfl rfl rfl ?_
  refine s_alloc rfl rfl rfl rfl rfl rfl ?_
  refine s_store rfl rfl rfl rfl rfl ?_
  refine s_end (hK _ ?_); clear hK K
  refine a_keep [(2, .ptr 2 0), (3, .ptr 3 0), (4, .ptr 4 0), (5, .ptr 5 0)] [(2, some (.box (IC na' wa'))), (3, some (.box (IC nb' wb'))), (4, some (.box [.d (.lit (.bool false)), .nil, .d (.lit (.bool false)), .nil])), (5, some (.box (ZC (Int.gcd x y : Int))))] ⟨rfl, rfl, rfl, rfl, trivial⟩ ⟨rfl, rfl, rfl, rfl, trivial⟩ ?_
  refine a_draw tok mixed (A := [[], [], [], [], [], [0, 1], [0, 1, 3, 4], []]) (an := [{}, {}, {}, { c := [29] }, { c := [29] }, {}, {}, {}]) rfl (by kernel_rfl) rfl fun K hK => ?_
  refine s_load rfl rfl rfl ?_
  refine s_load rfl rfl rfl ?_
  refine s_call rfl rfl (r2part_q na' (decide ((Int.gcd x y : Int) < 0)) wa' (wof (Int.gcd x y : Int).natAbs) (y.sign * x) (Int.gcd x y : Int) (Rat.divInt x y).num oa (wof_ok _) ka hgl va (zv_ZC _) hgn (num_gcd x y).symm) rfl rfl rfl rfl ?_
  refine s_load rfl rfl rfl ?_
  refine s_load rfl rfl rfl ?_
  refine s_call rfl rfl (r2part_q nb' (decide ((Int.gcd x y : Int) < 0)) wb' (wof (Int.gcd x y : Int).natAbs) (y.natAbs : Int) (Int.gcd x y : Int) ((Rat.divInt x y).den : Int) ob (wof_ok _) kb hgl vb (zv_ZC _) hgn (den_gcd h0).symm) rfl rfl rfl rfl ?_
  refine s_build rfl rfl rfl ?_
  refine s_store rfl rfl rfl rfl rfl ?_
  refine s_end (hK _ ?_); clear hK K
  refine AWP_ret ?_
  repeat (with_reducible refine tq_ret ?_)
  exact post_ret (fin_mk (by rfl) (by rfl) (by rfl))

theorem r2NewZ_c (x y : Int) (q : Rat) (hx : zl x ≤ 268435456) (hy : zl y ≤ 268435456) (h : Rat.divInt x y = q) : Con Tryz.prog 64 [AG (ZC x), AG (ZC y)] { v := AG (QZ q) } := by
  have := r2New_c (decide (x < 0)) (decide (y < 0)) (wof x.natAbs) (wof y.natAbs) (wof_ok _) (wof_ok _) hx hy
  rw [zv_ZC, zv_ZC, h] at this; exact this

theorem r2Norm_c (na nb : Bool) (wa wb : List Nat) (ha : wOK wa) (hb : wOK wb) (la : wa.length ≤ 268435456) (lb : wb.length ≤ 268435456) :
    Con Tryz.prog 71 [AG (QC na wa nb wb)] { v := AG (QZ (qv na wa nb wb)) } := by
  refine con_intro (fn := Tryz.f71) tok Tryz.func71 (by kernel_rfl) rfl ?_
  intro w0 X
  rw [entry_mkE _ _ [(0, AG (QC na wa nb wb))] rfl rfl]
  refine AWP_reg_seq tok fun K hK => ?_
  refine s_box rfl rfl rfl rfl rfl rfl ?_
  refine s_alloc rfl rfl rfl rfl rfl rfl ?_
  refine s_end (hK _ ?_); clear hK K
  refine AWP_reg_seq tok fun K hK => ?_
  refine s_fieldAddr rfl rfl rfl ?_
  refine s_load rfl rfl rfl ?_
  refine s_fieldAddr rfl rfl rfl ?_
  refine s_load rfl rfl rfl ?_
  refine s_call rfl rfl (r2New_c na nb wa wb ha hb la lb) rfl rfl rfl rfl ?_
  refine s_store rfl rfl rfl rfl rfl ?_
  refine s_end (hK _ ?_); clear hK K
  refine AWP_ret ?_
  repeat (with_reducible refine tq_ret ?_)
  exact post_ret (fin_mk (by rfl) (by rfl) (by rfl))

theorem r2Sign_c (na nb : Bool) (wa wb : List Nat) (ha : wOK wa) (hb : wOK wb) (la : wa.length ≤ 268435456) (lb : wb.length ≤ 268435456) :
    Con Tryz.prog 103 [AG (QC na wa nb wb)] { v := dI (qv na wa nb wb).num.sign } := by
  have h1 := ql_qv (na := na) (nb := nb) ha hb la lb (by decide)
  have h2 := ql_num (qv na wa nb wb)
  refine con_intro (fn := Tryz.f103) tok Tryz.func103 (by kernel_rfl) rfl ?_
  intro w0 X
  rw [entry_mkE _ _ [(0, AG (QC na wa nb wb))] rfl rfl]
  refine AWP_reg_seq tok fun K hK => ?_
  refine s_box rfl rfl rfl rfl rfl rfl ?_
  refine s_assign rfl rfl rfl ?_
  refine s_end (hK _ ?_); clear hK K
  refine AWP_reg_seq tok fun K hK => ?_
  refine s_load rfl rfl rfl ?_
  refine s_call rfl rfl (r2Norm_c na nb wa wb ha hb la lb) rfl rfl rfl rfl ?_
  refine s_field rfl rfl rfl ?_
  refine s_call rfl rfl (r1SignZ_c (qv na wa nb wb).num (by omega)) rfl rfl rfl rfl ?_
  refine s_assign rfl rfl rfl ?_
  refine s_end (hK _ ?_); clear hK K
  refine AWP_ret ?_
  repeat (with_reducible refine tq_ret ?_)
  exact post_ret (fin_mk (by rfl) (by rfl) (by rfl))

theorem r2Neg_c (na nb : Bool) (wa wb : List Nat) (ha : wOK wa) (hb : wOK wb) (la : wa.length ≤ 268435456) (lb : wb.length ≤ 268435456) :
    Con Tryz.prog 69 [AG (QC na wa nb wb)] { v := AG (QZ (-(qv na wa nb wb))) } := by
  have h1 := ql_qv (na := na) (nb := nb) ha hb la lb (by decide)
  have h2 := ql_num (qv na wa nb wb)
  have h3 := ql_den (qv na wa nb wb)
  have hz : Rat.divInt (-(qv na wa nb wb).num) (qv na wa nb wb).den = -(qv na wa nb wb) := by rw [← Rat.neg_divInt, divInt_self]
  refine con_intro (fn := Tryz.f69) tok Tryz.func69 (by kernel_rfl) rfl ?_
  intro w0 X
  rw [entry_mkE _ _ [(0, AG (QC na wa nb wb))] rfl rfl]
  refine AWP_reg_seq tok fun K hK => ?_
  refine s_box rfl rfl rfl rfl rfl rfl ?_
  refine s_alloc rfl rfl rfl rfl rfl rfl ?_
  refine s_end (hK _ ?_); clear hK K
  refine AWP_reg_seq tok fun K hK => ?_
  refine s_load rfl rfl rfl ?_
  refine s_call rfl rfl (r2Norm_c na nb wa wb ha hb la lb) rfl rfl rfl rfl ?_
  refine s_alloc rfl rfl rfl rfl rfl rfl ?_
  refine s_store rfl rfl rfl rfl rfl ?_
  refine s_end (hK _ ?_); clear hK K
  refine a_draw tok mixed (A := [[], [], [0], [], [], [0, 1, 3], []]) (an := [{}, {}, {}, { c := [8] }, { c := [8] }, {}, {}]) rfl (by kernel_rfl) rfl fun K hK => ?_
  refine s_fieldAddr rfl rfl rfl ?_
  refine s_load rfl rfl rfl ?_
  refine s_call rfl rfl (r1NegZ_c (qv na wa nb wb).num (by omega)) rfl rfl rfl rfl ?_
  refine s_fieldAddr rfl rfl rfl ?_
  refine s_load rfl rfl rfl ?_
  refine s_call rfl rfl (r2NewZ_c (-(qv na wa nb wb).num) (qv na wa nb wb).den _ (by rw [zl_neg]; omega) (by omega) hz) rfl rfl rfl rfl ?_
  refine s_store rfl rfl rfl rfl rfl ?_
  refine s_end (hK _ ?_); clear hK K
  refine AWP_ret ?_
  repeat (with_reducible refine tq_ret ?_)
  exact post_ret (fin_mk (by rfl) (by rfl) (by rfl))

theorem r2Add_c (na nb nc nd : Bool) (wa wb wc wd : List Nat) (ha : wOK wa) (hb : wOK wb) (hc : wOK wc) (hd : wOK wd) (la : wa.length ≤ 16777216) (lb : wb.length ≤ 16777216) (lc : wc.length ≤ 16777216) (ld : wd.length ≤ 16777216) :
    Con Tryz.prog 67 [AG (QC na wa nb wb), AG (QC nc wc nd wd)] { v := AG (QZ (qv na wa nb wb + qv nc wc nd wd)) } := by
  have hx := ql_qv (na := na) (nb := nb) ha hb la lb (by decide)
  have hy := ql_qv (na := nc) (nb := nd) hc hd lc ld (by decide)
  have a1 := ql_num (qv na wa nb wb)
  have a2 := ql_den (qv na wa nb wb)
  have b1 := ql_num (qv nc wc nd wd)
  have b2 := ql_den (qv nc wc nd wd)
  have m1 := zl_mul (qv na wa nb wb).num (qv nc wc nd wd).den
  have m2 := zl_mul (qv nc wc nd wd).num (qv na wa nb wb).den
  have m3 := zl_mul (qv na wa nb wb).den (qv nc wc nd wd).den
  have m4 := zl_add ((qv na wa nb wb).num * (qv nc wc nd wd).den) ((qv nc wc nd wd).num * (qv na wa nb wb).den)
  refine con_intro (fn := Tryz.f67) tok Tryz.func67 (by kernel_rfl) rfl ?_
  intro w0 X
  rw [entry_mkE _ _ [(0, AG (QC na wa nb wb)), (1, AG (QC nc wc nd wd))] rfl rfl]
  refine AWP_reg_seq tok fun K hK => ?_
  refine s_box rfl rfl rfl rfl rfl rfl ?_
  refine s_box rfl rfl rfl rfl rfl rfl ?_
  refine s_alloc rfl rfl rfl rfl rfl rfl ?_
  refine s_end (hK _ ?_); clear hK K
  refine AWP_reg_seq tok fun K hK => ?_
  refine s_load rfl rfl rfl ?_
  refine s_call rfl rfl (r2Norm_c na nb wa wb ha hb (by omega) (by omega)) rfl rfl rfl rfl ?_
  refine s_alloc rfl rfl rfl rfl rfl rfl ?_
  refine s_store rfl rfl rfl rfl rfl ?_
  refine s_end (hK _ ?_); clear hK K
  refine AWP_reg_seq tok fun K hK => ?_
  refine s_load rfl rfl rfl ?_
  refine s_call rfl rfl (r2Norm_c nc nd wc wd hc hd (by omega) (by omega)) rfl rfl rfl rfl ?_
  refine s_alloc rfl rfl rfl rfl rfl rfl ?_
  refine s_store rfl rfl rfl rfl rfl ?_
  refine s_end (hK _ ?_); clear hK K
  refine a_draw tok mixed (A := [[], [], [], [], [0, 2], [], [], [], [], [0, 1, 2, 3, 5, 7], [0, 1, 2, 3, 5, 6, 7, 8], [], [], [], [], [0, 1, 2, 3, 4, 5, 6, 7, 8, 9, 11, 13], [0, 1, 2, 3, 4, 5, 6, 7, 8, 9, 11, 12, 13, 14], []]) (an := [{}, {}, {}, {}, {}, { c := [15] }, { c := [15] }, { c := [15] }, { c := [15] }, {}, {}, { c := [15, 20, 21] }, { c := [15, 20, 21] }, { c := [15, 20, 21] }, { c := [15, 20, 21] }, {}, {}, {}]) rfl (by kernel_rfl) rfl fun K hK => ?_
  refine s_fieldAddr rfl rfl rfl ?_
  refine s_load rfl rfl rfl ?_
  refine s_fieldAddr rfl rfl rfl ?_
  refine s_load rfl rfl rfl ?_
  refine s_call rfl rfl (r1MulZ_c (qv na wa nb wb).num (qv nc wc nd wd).den (by omega) (by omega)) rfl rfl rfl rfl ?_
  refine s_fieldAddr rfl rfl rfl ?_
  refine s_load rfl rfl rfl ?_
  refine s_fieldAddr rfl rfl rfl ?_
  refine s_load rfl rfl rfl ?_
  refine s_call rfl rfl (r1MulZ_c (qv nc wc nd wd).num (qv na wa nb wb).den (by omega) (by omega)) rfl rfl rfl rfl ?_
  refine s_call rfl rfl (r1AddZ_c ((qv na wa nb wb).num * (qv nc wc nd wd).den) ((qv nc wc nd wd).num * (qv na wa nb wb).den) (by omega) (by omega)) rfl rfl rfl rfl ?_
  refine s_fieldAddr rfl rfl rfl ?_
  refine s_load rfl rfl rfl ?_
  refine s_fieldAddr rfl rfl rfl ?_
  refine s_load rfl rfl rfl ?_
  refine s_call rfl rfl (r1MulZ_c (qv na wa nb wb).den (qv nc wc nd wd).den (by omega) (by omega)) rfl rfl rfl rfl ?_
  refine s_call rfl rfl (r2NewZ_c ((qv na wa nb wb).num * (qv nc wc nd wd).den + (qv nc wc nd wd).num * (qv na wa nb wb).den) (((qv na wa nb wb).den : Int) * (qv nc wc nd wd).den) _ (by omega) (by omega) (divInt_add (qv na wa nb wb) (qv nc wc nd wd)).symm) rfl rfl rfl rfl ?_
  refine s_store rfl rfl rfl rfl rfl ?_
  refine s_end (hK _ ?_); clear hK K
  refine AWP_ret ?_
  repeat (with_reducible refine tq_ret ?_)
  exact post_ret (fin_mk (by rfl) (by rfl) (by rfl))

theorem r2Mul_c (na nb nc nd : Bool) (wa wb wc wd : List Nat) (ha : wOK wa) (hb : wOK wb) (hc : wOK wc) (hd : wOK wd) (la : wa.length ≤ 16777216) (lb : wb.length ≤ 16777216) (lc : wc.length ≤ 16777216) (ld : wd.length ≤ 16777216) :
    Con Tryz.prog 102 [AG (QC na wa nb wb), AG (QC nc wc nd wd)] { v := AG (QZ (qv na wa nb wb * qv nc wc nd wd)) } := by
  have hx := ql_qv (na := na) (nb := nb) ha hb la lb (by decide)
  have hy := ql_qv (na := nc) (nb := nd) hc hd lc ld (by decide)
  have a1 := ql_num (qv na wa nb wb)
  have a2 := ql_den (qv na wa nb wb)
  have b1 := ql_num (qv nc wc nd wd)
  have b2 := ql_den (qv nc wc nd wd)
  have m1 := zl_mul (qv na wa nb wb).num (qv nc wc nd wd).num
  have m3 := zl_mul (qv na wa nb wb).den (qv nc wc nd wd).den
  refine con_intro (fn := Tryz.f102) tok Tryz.func102 (by kernel_rfl) rfl ?_
  intro w0 X
  rw [entry_mkE _ _ [(0, AG (QC na wa nb wb)), (1, AG (QC nc wc nd wd))] rfl rfl]
  refine AWP_reg_seq tok fun K hK => ?_
  refine s_box rfl rfl rfl rfl rfl rfl ?_
  refine s_box rfl rfl rfl rfl rfl rfl ?_
  refine s_alloc rfl rfl rfl rfl rfl rfl ?_
  refine s_end (hK _ ?_); clear hK K
  refine AWP_reg_seq tok fun K hK => ?_
  refine s_load rfl rfl rfl ?_
  refine s_call rfl rfl (r2Norm_c na nb wa wb ha hb (by omega) (by omega)) rfl rfl rfl rfl ?_
  refine s_alloc rfl rfl rfl rfl rfl rfl ?_
  refine s_store rfl rfl rfl rfl rfl ?_
  refine s_end (hK _ ?_); clear hK K
  refine AWP_reg_seq tok fun K hK => ?_
  refine s_load rfl rfl rfl ?_
  refine s_call rfl rfl (r2Norm_c nc nd wc wd hc hd (by omega) (by omega)) rfl rfl rfl rfl ?_
  refine s_alloc rfl rfl rfl rfl rfl rfl ?_
  refine s_store rfl rfl rfl rfl rfl ?_
  refine s_end (hK _ ?_); clear hK K
  refine a_draw tok mixed (A := [[], [], [], [], [0, 2], [], [], [], [], [0, 1, 2, 3, 5, 7], [0, 1, 2, 3, 5, 6, 7, 8], []]) (an := [{}, {}, {}, {}, {}, { c := [15] }, { c := [15] }, { c := [15] }, { c := [15] }, {}, {}, {}]) rfl (by kernel_rfl) rfl fun K hK => ?_
  refine s_fieldAddr rfl rfl rfl ?_
  refine s_load rfl rfl rfl ?_
  refine s_fieldAddr rfl rfl rfl ?_
  refine s_load rfl rfl rfl ?_
  refine s_call rfl rfl (r1MulZ_c (qv na wa nb wb).num (qv nc wc nd wd).num (by omega) (by omega)) rfl rfl rfl rfl ?_
  refine s_fieldAddr rfl rfl rfl ?_
  refine s_load rfl rfl rfl ?_
  refine s_fieldAddr rfl rfl rfl ?_
  refine s_load rfl rfl rfl ?_
  refine s_call rfl rfl (r1MulZ_c (qv na wa nb wb).den (qv nc wc nd wd).den (by omega) (by omega)) rfl rfl rfl rfl ?_
  refine s_call rfl rfl (r2NewZ_c ((qv na wa nb wb).num * (qv nc wc nd wd).num) (((qv na wa nb wb).den : Int) * (qv nc wc nd wd).den) _ (by omega) (by omega) (divInt_mul (qv na wa nb wb) (qv nc wc nd wd)).symm) rfl rfl rfl rfl ?_
  refine s_store rfl rfl rfl rfl rfl ?_
  refine s_end (hK _ ?_); clear hK K
  refine AWP_ret ?_
  repeat (with_reducible refine tq_ret ?_)
  exact post_ret (fin_mk (by rfl) (by rfl) (by rfl))

theorem r2Mul_q (x y : Rat) (na nb nc nd : Bool) (wa wb wc wd : List Nat) (ha : wOK wa) (hb : wOK wb) (hc : wOK wc) (hd : wOK wd) (la : wa.length ≤ 16777216) (lb : wb.length ≤ 16777216) (lc : wc.length ≤ 16777216) (ld : wd.length ≤ 16777216)
    (hx : qv na wa nb wb = x) (hy : qv nc wc nd wd = y) :
    Con Tryz.prog 102 [AG (QC na wa nb wb), AG (QC nc wc nd wd)] { v := AG (QZ (x * y)) } := by
  subst hx hy
  exact r2Mul_c na nb nc nd wa wb wc wd ha hb hc hd la lb lc ld
theorem r2MulZ_c (x y : Rat) (hx : ql x ≤ 16777216) (hy : ql y ≤ 16777216) : Con Tryz.prog 102 [AG (QZ x), AG (QZ y)] { v := AG (QZ (x * y)) } :=
  r2Mul_q x y _ _ _ _ _ _ _ _ (wof_ok _) (wof_ok _) (wof_ok _) (wof_ok _) (Nat.le_trans (ql_num x) hx) (Nat.le_trans (ql_den x) hx) (Nat.le_trans (ql_num y) hy) (Nat.le_trans (ql_den y) hy) (qv_QZ x) (qv_QZ y)
theorem r2Add_q (x y : Rat) (na nb nc nd : Bool) (wa wb wc wd : List Nat) (ha : wOK wa) (hb : wOK wb) (hc : wOK wc) (hd : wOK wd) (la : wa.length ≤ 16777216) (lb : wb.length ≤ 16777216) (lc : wc.length ≤ 16777216) (ld : wd.length ≤ 16777216)
    (hx : qv na wa nb wb = x) (hy : qv nc wc nd wd = y) :
    Con Tryz.prog 67 [AG (QC na wa nb wb), AG (QC nc wc nd wd)] { v := AG (QZ (x + y)) } := by
  subst hx hy
  exact r2Add_c na nb nc nd wa wb wc wd ha hb hc hd la lb lc ld
theorem r2AddZ_c (x y : Rat) (hx : ql x ≤ 16777216) (hy : ql y ≤ 16777216) : Con Tryz.prog 67 [AG (QZ x), AG (QZ y)] { v := AG (QZ (x + y)) } :=
  r2Add_q x y _ _ _ _ _ _ _ _ (wof_ok _) (wof_ok _) (wof_ok _) (wof_ok _) (Nat.le_trans (ql_num x) hx) (Nat.le_trans (ql_den x) hx) (Nat.le_trans (ql_num y) hy) (Nat.le_trans (ql_den y) hy) (qv_QZ x) (qv_QZ y)
theorem r2SignZ_c (x : Rat) (hx : ql x ≤ 268435456) : Con Tryz.prog 103 [AG (QZ x)] { v := dI x.num.sign } := by
  have := r2Sign_c (decide (x.num < 0)) (decide ((x.den : Int) < 0)) (wof x.num.natAbs) (wof (x.den : Int).natAbs) (wof_ok _) (wof_ok _) (Nat.le_trans (ql_num x) hx) (Nat.le_trans (ql_den x) hx)
  rw [qv_QZ] at this; exact this
end Go.Proofs.YtipenembpidoiaaGreatDoor

/- Rotations as the program computes them. No condition. -/
namespace Go.Proofs.YtipenembpidoiaaGreatDoor
attribute [local irreducible] lexA

/-- The cells of two integers. -/
def PZ (x y : Int) : List SC := QC (decide (x < 0)) (wof x.natAbs) (decide (y < 0)) (wof y.natAbs)
theorem sign0 {n : Bool} {w : List Nat} {x : Int} (h : zv n w = x) : (((zv n w).sign == 0) = true ↔ x = 0) ∧ (((zv n w).sign == 0) = false ↔ x ≠ 0) := by
  subst h
  have := Int.sign_eq_zero_iff_zero (a := zv n w)
  constructor
  · simp [this]
  · simp [this]

theorem tof0_c (np nq : Bool) (wp wq : List Nat) (hp : wOK wp) (hq : wOK wq) (lp : wp.length ≤ 268435456) (lq : wq.length ≤ 268435456) (h1 : zv np wp = 0) (h2 : zv nq wq = 0) :
    Con Tryz.prog 48 [AG (QC np wp nq wq)] { v := AG (PZ 1 0) } := by
  refine con_intro (fn := Tryz.f48) tok Tryz.func48 (by kernel_rfl) rfl ?_
  intro w0 X
  rw [entry_mkE _ _ [(0, AG (QC np wp nq wq))] rfl rfl]
  refine AWP_reg_seq tok fun K hK => ?_
  refine s_box rfl rfl rfl rfl rfl rfl ?_
  refine s_alloc rfl rfl rfl rfl rfl rfl ?_
  refine s_end (hK _ ?_); clear hK K
  refine AWP_seq ?_
  refine AWP_reg_seq tok fun K hK => ?_
  refine s_fieldAddr rfl rfl rfl ?_
  refine s_load rfl rfl rfl ?_
  refine s_call rfl rfl (iSign_c np wp hp (by omega)) rfl rfl rfl rfl ?_
  refine s_bin rfl rfl rfl ?_
  refine s_move rfl rfl rfl ?_
  rw [h1]
  refine s_env (v' := dB true) rfl ?_
  refine s_fieldAddr rfl rfl rfl ?_
  refine s_load rfl rfl rfl ?_
  refine s_call rfl rfl (iSign_c nq wq hq (by omega)) rfl rfl rfl rfl ?_
  refine s_bin rfl rfl rfl ?_
  rw [h2]
  refine s_pick rfl rfl rfl ?_
  refine s_end (hK _ ?_); clear hK K
  refine a_cond rfl (fun hc => ?_) (fun hc => by cases hc)
  refine AWP_reg_seq tok fun K hK => ?_
  refine s_call rfl rfl (iOf_c 1 (by unfold I64; omega)) rfl rfl rfl rfl ?_
  refine s_build rfl rfl rfl ?_
  refine s_store rfl rfl rfl rfl rfl ?_
  refine s_end (hK _ ?_); clear hK K
  refine AWP_ret ?_
  repeat (with_reducible refine tq_ret ?_)
  exact post_ret (fin_mk (by rfl) (by rfl) (by rfl))

theorem tof1_c (np nq : Bool) (wp wq : List Nat) (hp : wOK wp) (hq : wOK wq) (lp : wp.length ≤ 268435456) (lq : wq.length ≤ 268435456) (h : ¬ (zv np wp = 0 ∧ zv nq wq = 0)) :
    Con Tryz.prog 48 [AG (QC np wp nq wq)] { v := AG (QC nq wq np wp) } := by
  refine con_intro (fn := Tryz.f48) tok Tryz.func48 (by kernel_rfl) rfl ?_
  intro w0 X
  rw [entry_mkE _ _ [(0, AG (QC np wp nq wq))] rfl rfl]
  refine AWP_reg_seq tok fun K hK => ?_
  refine s_box rfl rfl rfl rfl rfl rfl ?_
  refine s_alloc rfl rfl rfl rfl rfl rfl ?_
  refine s_end (hK _ ?_); clear hK K
  refine AWP_seq ?_
  refine a_join (α := Unit) (fun _ => mk 20 [(1, .ptr 1 0), (2, .ptr 2 0), (12, dB false)] [(1, some (.box (QC np wp nq wq))), (2, some (.box [.d (.lit (.bool false)), .nil, .d (.lit (.bool false)), .nil]))] []) (fun _ => True) ?_ ?_
  · refine AWP_reg tok fun K hK => ?_
    refine s_fieldAddr rfl rfl rfl ?_
    refine s_load rfl rfl rfl ?_
    refine s_call rfl rfl (iSign_c np wp hp (by omega)) rfl rfl rfl rfl ?_
    refine s_bin rfl rfl rfl ?_
    refine s_move rfl rfl rfl ?_
    refine s_split (fun hb => ?_) (fun hb => ?_)
    · have hb : zv np wp = 0 := (sign0 rfl).1.1 hb
      have h2 : zv nq wq ≠ 0 := fun h' => h ⟨hb, h'⟩
      refine s_fieldAddr rfl rfl rfl ?_
      refine s_load rfl rfl rfl ?_
      refine s_call rfl rfl (iSign_c nq wq hq (by omega)) rfl rfl rfl rfl ?_
      refine s_bin rfl rfl rfl ?_
      refine s_pick rfl rfl rfl ?_
      refine s_end (hK _ ?_); clear hK K
      refine ⟨(), trivial, Wk.mk' ⟨rfl, rfl, ?_, trivial⟩ ⟨rfl, rfl, trivial⟩⟩
      exact dB_eq ((sign0 rfl).2.2 h2)
    · refine s_skip rfl ?_
      refine s_skip rfl ?_
      refine s_skip rfl ?_
      refine s_skip rfl ?_
      refine s_pick rfl rfl rfl ?_
      refine s_end (hK _ ?_); clear hK K
      exact ⟨(), trivial, Wk.mk' ⟨rfl, rfl, rfl, trivial⟩ ⟨rfl, rfl, trivial⟩⟩
  rintro - -
  refine a_cond rfl (fun hc => by cases hc) (fun hc => ?_)
  refine AWP_skip ?_
  show AWP _ _ _ _ _ _
  refine AWP_reg_seq tok fun K hK => ?_
  refine s_fieldAddr rfl rfl rfl ?_
  refine s_load rfl rfl rfl ?_
  refine s_fieldAddr rfl rfl rfl ?_
  refine s_load rfl rfl rfl ?_
  refine s_build rfl rfl rfl ?_
  refine s_store rfl rfl rfl rfl rfl ?_
  refine s_end (hK _ ?_); clear hK K
  refine AWP_ret ?_
  repeat (with_reducible refine tq_ret ?_)
  exact post_ret (fin_mk (by rfl) (by rfl) (by rfl))

theorem trot_c (nr ni : Bool) (wr wi : List Nat) (hr : wOK wr) (hi : wOK wi) (lr : wr.length ≤ 268435456) (li : wi.length ≤ 268435456) (h : ¬ (zv ni wi = 0 ∧ zv nr wr = 0)) :
    Con Tryz.prog 49 [AG (QC nr wr ni wi)] { v := AG (PZ (rP (zv ni wi) (zv nr wr)) (rQ (zv ni wi) (zv nr wr))) } := by
  have lzr : zl (zv nr wr) ≤ 268435456 := by unfold zl; rw [zv_abs]; exact Nat.le_trans (wl_len hr) lr
  have lzi : zl (zv ni wi) ≤ 268435456 := by unfold zl; rw [zv_abs]; exact Nat.le_trans (wl_len hi) li
  generalize hx : zv nr wr = x at *
  generalize hy : zv ni wi = y at *
  have hg : zl (Int.gcd y x : Int) ≤ 268435456 := by
    by_cases h0 : x = 0
    · have : y ≠ 0 := fun h' => h ⟨h', h0⟩
      rw [Int.gcd_comm]; exact Nat.le_trans (zl_gcd x this) lzi
    · exact Nat.le_trans (zl_gcd y h0) lzr
  have hgc : Int.gcd (zv nr wr) (zv ni wi) = Int.gcd y x := by rw [hx, hy, Int.gcd_comm]
  have hrg : zl (rg y x) ≤ 268435456 := by unfold zl; rw [natAbs_rg]; rw [zl_nat] at hg; exact hg
  have hrn := rg_ne h
  have sx := sign0 hx
  have sxl : (zv nr wr).sign < 0 ↔ x < 0 := by rw [hx]; exact Int.sign_neg_iff
  have syl : (zv ni wi).sign < 0 ↔ y < 0 := by rw [hy]; exact Int.sign_neg_iff
  refine con_intro (fn := Tryz.f49) tok Tryz.func49 (by kernel_rfl) rfl ?_
  intro w0 X
  rw [entry_mkE _ _ [(0, AG (QC nr wr ni wi))] rfl rfl]
  refine AWP_reg_seq tok fun K hK => ?_
  refine s_box rfl rfl rfl rfl rfl rfl ?_
  refine s_alloc rfl rfl rfl rfl rfl rfl ?_
  refine s_end (hK _ ?_); clear hK K
  refine AWP_reg_seq tok fun K hK => ?_
  refine s_fieldAddr rfl rfl rfl ?_
  refine s_load rfl rfl rfl ?_
  refine s_fieldAddr rfl rfl rfl ?_
  refine s_load rfl rfl rfl ?_
  refine s_call rfl rfl (hgc ▸ iGcd_c nr ni wr wi hr hi lr li) rfl rfl rfl rfl ?_
  refine s_alloc rfl rfl rfl rfl rfl rfl ?_
  refine s_store rfl rfl rfl rfl rfl ?_
  refine s_end (hK _ ?_); clear hK K
  refine a_join (α := Unit) (fun _ => mk 52 [(1, .ptr 1 0), (2, .ptr 2 0), (3, .ptr 3 0)] [(1, some (.box (QC nr wr ni wi))), (2, some (.box [.d (.lit (.bool false)), .nil, .d (.lit (.bool false)), .nil])), (3, some (.box (ZC (rg y x))))] []) (fun _ => True) ?_ ?_
  · refine AWP_reg_seq tok fun K hK => ?_
    refine s_fieldAddr rfl rfl rfl ?_
    refine s_load rfl rfl rfl ?_
    refine s_call rfl rfl (iSign_c nr wr hr (by omega)) rfl rfl rfl rfl ?_
    refine s_assign rfl rfl rfl ?_
    refine s_end (hK _ ?_); clear hK K
    refine a_join (α := Bool) (fun c => mk 52 [(1, .ptr 1 0), (2, .ptr 2 0), (3, .ptr 3 0), (30, dB c)] [(1, some (.box (QC nr wr ni wi))), (2, some (.box [.d (.lit (.bool false)), .nil, .d (.lit (.bool false)), .nil])), (3, some (.box (ZC (Int.gcd y x : Int))))] []) (fun c => c = rneg y x) ?_ ?_
    · refine AWP_regW fun K hK => ?_
      refine w_step tok rfl ?_
      refine s_move rfl rfl rfl ?_
      refine s_end ?_
      refine w_step tok rfl ?_
      refine s_bin rfl rfl rfl ?_
      refine s_end ?_
      refine w_step tok rfl ?_
      refine s_move rfl rfl rfl ?_
      refine s_end ?_
      refine w_split (fun hb => ?_) (fun hb => ?_)
      · have hb : x < 0 := sxl.1 (of_decide_eq_true hb)
        refine w_skip rfl rfl ?_
        refine w_skip rfl rfl ?_
        refine w_skip rfl rfl ?_
        refine w_skip2 rfl rfl rfl ?_
        refine w_skip2 rfl rfl rfl ?_
        refine w_skip2 rfl rfl rfl ?_
        refine w_skip2 rfl rfl rfl ?_
        refine w_skip rfl rfl ?_
        refine w_step tok rfl ?_
        refine s_pick rfl rfl rfl ?_
        refine s_end ?_
        refine w_end rfl (hK _ ?_); clear hK K
        exact ⟨true, by unfold rneg; simp [hb], Wk.mk' ⟨rfl, rfl, rfl, rfl, trivial⟩ ⟨rfl, rfl, rfl, trivial⟩⟩
      have hb : ¬ x < 0 := fun h' => of_decide_eq_false hb (sxl.2 h')
      refine w_step tok rfl ?_
      refine s_move rfl rfl rfl ?_
      refine s_end ?_
      refine w_step tok rfl ?_
      refine s_bin rfl rfl rfl ?_
      refine s_end ?_
      refine w_step tok rfl ?_
      refine s_move rfl rfl rfl ?_
      refine s_end ?_
      refine w_split (fun he => ?_) (fun he => ?_)
      · have he : x = 0 := sx.1.1 he
        refine w_step tok rfl ?_
        refine s_fieldAddr rfl rfl rfl ?_
        refine s_end ?_
        refine w_step tok rfl ?_
        refine s_load rfl rfl rfl ?_
        refine s_end ?_
        refine w_step tok rfl ?_
        refine s_call rfl rfl (iSign_c ni wi hi (by omega)) rfl rfl rfl rfl ?_
        refine s_end ?_
        refine w_step tok rfl ?_
        refine s_bin rfl rfl rfl ?_
        refine s_end ?_
        refine w_step tok rfl ?_
        refine s_pick rfl rfl rfl ?_
        refine s_end ?_
        refine w_step tok rfl ?_
        refine s_pick rfl rfl rfl ?_
        refine s_end ?_
        refine w_end rfl (hK _ ?_); clear hK K
        refine ⟨_, ?_, Wk.mk' ⟨rfl, rfl, rfl, rfl, trivial⟩ ⟨rfl, rfl, rfl, trivial⟩⟩
        unfold rneg
        rw [decide_eq_false hb, decide_eq_true he, Bool.false_or, Bool.true_and]
        exact decide_eq_decide.2 syl
      · have he : x ≠ 0 := sx.2.1 he
        refine w_skip rfl rfl ?_
        refine w_skip rfl rfl ?_
        refine w_skip rfl rfl ?_
        refine w_skip rfl rfl ?_
        refine w_step tok rfl ?_
        refine s_pick rfl rfl rfl ?_
        refine s_end ?_
        refine w_step tok rfl ?_
        refine s_pick rfl rfl rfl ?_
        refine s_end ?_
        refine w_end rfl (hK _ ?_); clear hK K
        exact ⟨false, by unfold rneg; simp [hb, he], Wk.mk' ⟨rfl, rfl, rfl, rfl, trivial⟩ ⟨rfl, rfl, rfl, trivial⟩⟩
    rintro c hcr
    refine a_cond rfl (fun hc => ?_) (fun hc => ?_)
    · rw [hcr] at hc
      refine AWP_reg tok fun K hK => ?_
      refine s_load rfl rfl rfl ?_
      refine s_call rfl rfl (iNegZ_c (Int.gcd y x : Int) hg) rfl rfl rfl rfl ?_
      refine s_store rfl rfl rfl rfl rfl ?_
      refine s_end (hK _ ?_); clear hK K
      exact ⟨(), trivial, Wk.mk' ⟨rfl, rfl, rfl, trivial⟩ ⟨rfl, rfl, by unfold rg; rw [if_pos hc]; rfl, trivial⟩⟩
    · rw [hcr] at hc
      refine AWP_skip ?_
      exact ⟨(), trivial, Wk.mk' ⟨rfl, rfl, rfl, trivial⟩ ⟨rfl, rfl, by unfold rg; rw [if_neg (by simp [hc])]; rfl, trivial⟩⟩
  rintro - -
  have e1 : rQ y x = x / rg y x := by unfold rQ; rw [if_neg h]
  have e2 : rP y x = y / rg y x := by unfold rP; rw [if_neg h]
  refine AWP_reg_seq tok fun K hK => ?_
  refine s_fieldAddr rfl rfl rfl ?_
  refine s_load rfl rfl rfl ?_
  refine s_load rfl rfl rfl ?_
  refine s_call rfl rfl (iDivMod_q nr (decide (rg y x < 0)) wr (wof (rg y x).natAbs) x (rg y x) (rQ y x) hr (wof_ok _) lr hrg hx (zv_ZC _) hrn e1.symm) rfl rfl rfl rfl ?_
  refine s_move rfl rfl rfl ?_
  refine s_extract rfl rfl rfl ?_
  refine s_extract rfl rfl rfl ?_
  refine s_extract rfl rfl rfl ?_
  refine s_alloc rfl rfl rfl rfl rfl rfl ?_
  refine s_alloc rfl rfl rfl rfl rfl rfl ?_
  refine s_store rfl rfl rfl rfl rfl ?_
  refine s_store rfl rfl rfl rfl rfl ?_
  refine s_assign rfl rfl rfl ?_
  refine s_end (hK _ ?_); clear hK K
  refine AWP_reg_seq tok fun K hK => ?_
  refine s_fieldAddr rfl rfl rfl ?_
  refine s_load rfl rfl rfl ?_
  refine s_load rfl rfl rfl ?_
  refine s_call rfl rfl (iDivMod_q ni (decide (rg y x < 0)) wi (wof (rg y x).natAbs) y (rg y x) (rP y x) hi (wof_ok _) li hrg hy (zv_ZC _) hrn e2.symm) rfl rfl rfl rfl ?_
  refine s_move rfl rfl rfl ?_
  refine s_extract rfl rfl rfl ?_
  refine s_extract rfl rfl rfl ?_
  refine s_extract rfl rfl rfl ?_
  refine s_alloc rfl rfl rfl rfl rfl rfl ?_
  refine s_alloc rfl rfl rfl rfl rfl rfl ?_
  refine s_store rfl rfl rfl rfl rfl ?_
  refine s_store rfl rfl rfl rfl rfl ?_
  refine s_assign rfl rfl rfl ?_
  refine s_end (hK _ ?_); clear hK K
  refine AWP_reg_seq tok fun K hK => ?_
  refine s_load rfl rfl rfl ?_
  refine s_load rfl rfl rfl ?_
  refine s_build rfl rfl rfl ?_
  refine s_store rfl rfl rfl rfl rfl ?_
  refine s_end (hK _ ?_); clear hK K
  refine AWP_ret ?_
  repeat (with_reducible refine tq_ret ?_)
  exact post_ret (fin_mk (by rfl) (by rfl) (by rfl))

theorem trotZ_c (x y : Int) (hx : zl x ≤ 268435456) (hy : zl y ≤ 268435456) (h : ¬ (y = 0 ∧ x = 0)) :
    Con Tryz.prog 49 [AG (PZ x y)] { v := AG (PZ (rP y x) (rQ y x)) } := by
  have := trot_c (decide (x < 0)) (decide (y < 0)) (wof x.natAbs) (wof y.natAbs) (wof_ok _) (wof_ok _) hx hy (by rw [zv_ZC, zv_ZC]; exact h)
  rw [zv_ZC, zv_ZC] at this; exact this

theorem tNorm_c (np nq : Bool) (wp wq : List Nat) (hp : wOK wp) (hq : wOK wq) (lp : wp.length ≤ 268435456) (lq : wq.length ≤ 268435456) :
    Con Tryz.prog 9 [AG (QC np wp nq wq)] { v := AG (PZ (rP (zv np wp) (zv nq wq)) (rQ (zv np wp) (zv nq wq))) } := by
  by_cases h : zv np wp = 0 ∧ zv nq wq = 0
  · have e : PZ (rP (zv np wp) (zv nq wq)) (rQ (zv np wp) (zv nq wq)) = PZ (rP 0 1) (rQ 0 1) := by rw [h.1, h.2]; rfl
    rw [e]
    refine con_intro (fn := Tryz.f9) tok Tryz.func9 (by kernel_rfl) rfl ?_
    intro w0 X
    rw [entry_mkE _ _ [(0, AG (QC np wp nq wq))] rfl rfl]
    refine AWP_reg_seq tok fun K hK => ?_
    refine s_box rfl rfl rfl rfl rfl rfl ?_
    refine s_alloc rfl rfl rfl rfl rfl rfl ?_
    refine s_end (hK _ ?_); clear hK K
    refine AWP_reg_seq tok fun K hK => ?_
    refine s_load rfl rfl rfl ?_
    refine s_call rfl rfl (tof0_c np nq wp wq hp hq lp lq h.1 h.2) rfl rfl rfl rfl ?_
    refine s_call rfl rfl (trotZ_c 1 0 (by decide) (by decide) (by decide)) rfl rfl rfl rfl ?_
    refine s_store rfl rfl rfl rfl rfl ?_
    refine s_end (hK _ ?_); clear hK K
    refine AWP_ret ?_
    repeat (with_reducible refine tq_ret ?_)
    exact post_ret (fin_mk (by rfl) (by rfl) (by rfl))
  · show Con _ _ _ _
    refine con_intro (fn := Tryz.f9) tok Tryz.func9 (by kernel_rfl) rfl ?_
    intro w0 X
    rw [entry_mkE _ _ [(0, AG (QC np wp nq wq))] rfl rfl]
    refine AWP_reg_seq tok fun K hK => ?_
    refine s_box rfl rfl rfl rfl rfl rfl ?_
    refine s_alloc rfl rfl rfl rfl rfl rfl ?_
    refine s_end (hK _ ?_); clear hK K
    refine AWP_reg_seq tok fun K hK => ?_
    refine s_load rfl rfl rfl ?_
    refine s_call rfl rfl (tof1_c np nq wp wq hp hq lp lq h) rfl rfl rfl rfl ?_
    refine s_call rfl rfl (trot_c nq np wq wp hq hp lq lp h) rfl rfl rfl rfl ?_
    refine s_store rfl rfl rfl rfl rfl ?_
    refine s_end (hK _ ?_); clear hK K
    refine AWP_ret ?_
    repeat (with_reducible refine tq_ret ?_)
    exact post_ret (fin_mk (by rfl) (by rfl) (by rfl))

theorem tofZ_c (x y : Int) (hx : zl x ≤ 268435456) (hy : zl y ≤ 268435456) (h : ¬ (x = 0 ∧ y = 0)) : Con Tryz.prog 48 [AG (PZ x y)] { v := AG (PZ y x) } :=
  tof1_c (decide (x < 0)) (decide (y < 0)) (wof x.natAbs) (wof y.natAbs) (wof_ok _) (wof_ok _) hx hy (by rw [zv_ZC, zv_ZC]; exact h)

theorem ttimes_c (a b c d : Int) (ha : zl a ≤ 134217728) (hb : zl b ≤ 134217728) (hc : zl c ≤ 134217728) (hd : zl d ≤ 134217728) :
    Con Tryz.prog 57 [AG (PZ a b), AG (PZ c d)] { v := AG (PZ (a * c - b * d) (a * d + b * c)) } := by
  have m1 := zl_mul a c
  have m2 := zl_mul b d
  have m3 := zl_mul a d
  have m4 := zl_mul b c
  refine con_intro (fn := Tryz.f57) tok Tryz.func57 (by kernel_rfl) rfl ?_
  intro w0 X
  rw [entry_mkE _ _ [(0, AG (PZ a b)), (1, AG (PZ c d))] rfl rfl]
  refine AWP_reg_seq tok fun K hK => ?_
  refine s_box rfl rfl rfl rfl rfl rfl ?_
  refine s_box rfl rfl rfl rfl rfl rfl ?_
  refine s_alloc rfl rfl rfl rfl rfl rfl ?_
  refine s_end (hK _ ?_); clear hK K
  refine a_draw tok mixed (A := [[], [], [], [], [0, 2], [], [], [], [], [0, 1, 2, 3, 5, 7], [0, 1, 2, 3, 5, 6, 7, 8], [], [], [], [], [0, 1, 2, 3, 4, 5, 6, 7, 8, 9, 11, 13], [], [], [], [], [0, 1, 2, 3, 4, 5, 6, 7, 8, 9, 10, 11, 12, 13, 14, 16, 18], [0, 1, 2, 3, 4, 5, 6, 7, 8, 9, 10, 11, 12, 13, 14, 16, 17, 18, 19], [0, 1, 2, 3, 4, 5, 6, 7, 8, 9, 11, 12, 13, 14, 15, 16, 17, 18, 19, 20], []]) (an := [{}, {}, {}, {}, {}, { c := [9] }, { c := [9] }, { c := [9] }, { c := [9] }, {}, {}, { c := [9, 14, 15] }, { c := [9, 14, 15] }, { c := [9, 14, 15] }, { c := [9, 14, 15] }, {}, { c := [9, 14, 15, 20] }, { c := [9, 14, 15, 20] }, { c := [9, 14, 15, 20] }, { c := [9, 14, 15, 20] }, {}, {}, {}, {}]) rfl (by kernel_rfl) rfl fun K hK => ?_
  refine s_fieldAddr rfl rfl rfl ?_
  refine s_load rfl rfl rfl ?_
  refine s_fieldAddr rfl rfl rfl ?_
  refine s_load rfl rfl rfl ?_
  refine s_call rfl rfl (iMulZ_c a c (by omega) (by omega)) rfl rfl rfl rfl ?_
  refine s_fieldAddr rfl rfl rfl ?_
  refine s_load rfl rfl rfl ?_
  refine s_fieldAddr rfl rfl rfl ?_
  refine s_load rfl rfl rfl ?_
  refine s_call rfl rfl (iMulZ_c b d (by omega) (by omega)) rfl rfl rfl rfl ?_
  refine s_call rfl rfl (iSubZ_c (a * c) (b * d) (by omega) (by omega)) rfl rfl rfl rfl ?_
  refine s_fieldAddr rfl rfl rfl ?_
  refine s_load rfl rfl rfl ?_
  refine s_fieldAddr rfl rfl rfl ?_
  refine s_load rfl rfl rfl ?_
  refine s_call rfl rfl (iMulZ_c a d (by omega) (by omega)) rfl rfl rfl rfl ?_
  refine s_fieldAddr rfl rfl rfl ?_
  refine s_load rfl rfl rfl ?_
  refine s_fieldAddr rfl rfl rfl ?_
  refine s_load rfl rfl rfl ?_
  refine s_call rfl rfl (iMulZ_c b c (by omega) (by omega)) rfl rfl rfl rfl ?_
  refine s_call rfl rfl (iAddZ_c (a * d) (b * c) (by omega) (by omega)) rfl rfl rfl rfl ?_
  refine s_build rfl rfl rfl ?_
  refine s_store rfl rfl rfl rfl rfl ?_
  refine s_end (hK _ ?_); clear hK K
  refine AWP_ret ?_
  repeat (with_reducible refine tq_ret ?_)
  exact post_ret (fin_mk (by rfl) (by rfl) (by rfl))

theorem tsquare_c (a b : Int) (ha : zl a ≤ 134217728) (hb : zl b ≤ 134217728) :
    Con Tryz.prog 63 [AG (PZ a b)] { v := AG (ZC (a * a + b * b)) } := by
  have m1 := zl_mul a a
  have m2 := zl_mul b b
  refine con_intro (fn := Tryz.f63) tok Tryz.func63 (by kernel_rfl) rfl ?_
  intro w0 X
  rw [entry_mkE _ _ [(0, AG (PZ a b))] rfl rfl]
  refine AWP_reg_seq tok fun K hK => ?_
  refine s_box rfl rfl rfl rfl rfl rfl ?_
  refine s_alloc rfl rfl rfl rfl rfl rfl ?_
  refine s_end (hK _ ?_); clear hK K
  refine a_draw tok mixed (A := [[], [], [], [], [0, 2], [], [], [], [], [0, 1, 2, 3, 5, 7], [0, 1, 2, 3, 5, 6, 7, 8], []]) (an := [{}, {}, {}, {}, {}, { c := [7] }, { c := [7] }, { c := [7] }, { c := [7] }, {}, {}, {}]) rfl (by kernel_rfl) rfl fun K hK => ?_
  refine s_fieldAddr rfl rfl rfl ?_
  refine s_load rfl rfl rfl ?_
  refine s_fieldAddr rfl rfl rfl ?_
  refine s_load rfl rfl rfl ?_
  refine s_call rfl rfl (iMulZ_c a a (by omega) (by omega)) rfl rfl rfl rfl ?_
  refine s_fieldAddr rfl rfl rfl ?_
  refine s_load rfl rfl rfl ?_
  refine s_fieldAddr rfl rfl rfl ?_
  refine s_load rfl rfl rfl ?_
  refine s_call rfl rfl (iMulZ_c b b (by omega) (by omega)) rfl rfl rfl rfl ?_
  refine s_call rfl rfl (iAddZ_c (a * a) (b * b) (by omega) (by omega)) rfl rfl rfl rfl ?_
  refine s_store rfl rfl rfl rfl rfl ?_
  refine s_end (hK _ ?_); clear hK K
  refine AWP_ret ?_
  repeat (with_reducible refine tq_ret ?_)
  exact post_ret (fin_mk (by rfl) (by rfl) (by rfl))

theorem zl_zv {n : Bool} {w : List Nat} {k : Nat} (h : wOK w) (l : w.length ≤ k) : zl (zv n w) ≤ k := by
  unfold zl; rw [zv_abs]; exact Nat.le_trans (wl_len h) l

theorem tNorm_q (np nq : Bool) (wp wq : List Nat) (a b : Int) (hp : wOK wp) (hq : wOK wq) (lp : wp.length ≤ 268435456) (lq : wq.length ≤ 268435456) (ha : rP (zv np wp) (zv nq wq) = a) (hb : rQ (zv np wp) (zv nq wq) = b) :
    Con Tryz.prog 9 [AG (QC np wp nq wq)] { v := AG (PZ a b) } := by
  subst ha hb
  exact tNorm_c np nq wp wq hp hq lp lq

theorem tThen_c (np nq nr ns : Bool) (wp wq wr ws : List Nat) (hp : wOK wp) (hq : wOK wq) (hr : wOK wr) (hs : wOK ws) (lp : wp.length ≤ 67108864) (lq : wq.length ≤ 67108864) (lr : wr.length ≤ 67108864) (ls : ws.length ≤ 67108864) :
    Con Tryz.prog 13 [AG (QC np wp nq wq), AG (QC nr wr ns ws)] { v := AG (PZ (thP (zv np wp) (zv nq wq) (zv nr wr) (zv ns ws)) (thQ (zv np wp) (zv nq wq) (zv nr wr) (zv ns ws))) } := by
  have r1 : zl (rP (zv np wp) (zv nq wq)) ≤ 67108864 := zl_rP_le rfl (zl_zv hp lp)
  have r2 : zl (rQ (zv np wp) (zv nq wq)) ≤ 67108864 := zl_rQ_le rfl (zl_zv hq lq)
  have r3 : zl (rP (zv nr wr) (zv ns ws)) ≤ 67108864 := zl_rP_le rfl (zl_zv hr lr)
  have r4 : zl (rQ (zv nr wr) (zv ns ws)) ≤ 67108864 := zl_rQ_le rfl (zl_zv hs ls)
  have n1 := rPQ_ne (zv np wp) (zv nq wq)
  have n2 := rPQ_ne (zv nr wr) (zv ns ws)
  have n3 := rmul_ne n1 n2
  unfold thP thQ
  generalize hA : rP (zv np wp) (zv nq wq) = a at *
  generalize hB : rQ (zv np wp) (zv nq wq) = b at *
  generalize hC : rP (zv nr wr) (zv ns ws) = c at *
  generalize hD : rQ (zv nr wr) (zv ns ws) = d at *
  have m5 : zl (b * d - a * c) ≤ 268435456 := le_d (zl_sub_le (zl_mul_le r2 r4) (zl_mul_le r1 r3)) rfl
  have m6 : zl (b * c + a * d) ≤ 268435456 := le_d (zl_add_le (zl_mul_le r2 r3) (zl_mul_le r1 r4)) rfl
  refine con_intro (fn := Tryz.f13) tok Tryz.func13 (by kernel_rfl) rfl ?_
  intro w0 X
  rw [entry_mkE _ _ [(0, AG (QC np wp nq wq)), (1, AG (QC nr wr ns ws))] rfl rfl]
  refine AWP_reg_seq tok fun K hK => ?_
  refine s_box rfl rfl rfl rfl rfl rfl ?_
  refine s_box rfl rfl rfl rfl rfl rfl ?_
  refine s_alloc rfl rfl rfl rfl rfl rfl ?_
  refine s_end (hK _ ?_); clear hK K
  refine a_draw tok mixed (A := [[], [], [0], [], [0, 1], [0, 1, 2, 3], [0, 1, 3, 4], [0, 1, 2, 3, 4, 5], []]) (an := [{}, {}, {}, { c := [6, 7] }, {}, {}, {}, {}, {}]) rfl (by kernel_rfl) rfl fun K hK => ?_
  refine s_load rfl rfl rfl ?_
  refine s_call rfl rfl (tNorm_q np nq wp wq a b hp hq (le_d lp rfl) (le_d lq rfl) hA hB) rfl rfl rfl rfl ?_
  refine s_call rfl rfl (tofZ_c a b (le_d r1 rfl) (le_d r2 rfl) n1) rfl rfl rfl rfl ?_
  refine s_load rfl rfl rfl ?_
  refine s_call rfl rfl (tNorm_q nr ns wr ws c d hr hs (le_d lr rfl) (le_d ls rfl) hC hD) rfl rfl rfl rfl ?_
  refine s_call rfl rfl (tofZ_c c d (le_d r3 rfl) (le_d r4 rfl) n2) rfl rfl rfl rfl ?_
  refine s_call rfl rfl (ttimes_c b a d c (le_d r2 rfl) (le_d r1 rfl) (le_d r4 rfl) (le_d r3 rfl)) rfl rfl rfl rfl ?_
  refine s_call rfl rfl (trotZ_c (b * d - a * c) (b * c + a * d) m5 m6 n3) rfl rfl rfl rfl ?_
  refine s_store rfl rfl rfl rfl rfl ?_
  refine s_end (hK _ ?_); clear hK K
  refine AWP_ret ?_
  repeat (with_reducible refine tq_ret ?_)
  exact post_ret (fin_mk (by rfl) (by rfl) (by rfl))

theorem tCos_c (np nq : Bool) (wp wq : List Nat) (hp : wOK wp) (hq : wOK wq) (lp : wp.length ≤ 67108864) (lq : wq.length ≤ 67108864) :
    Con Tryz.prog 18 [AG (QC np wp nq wq)] { v := AG (QZ (cosR (zv np wp) (zv nq wq))) } := by
  have r1 : zl (rP (zv np wp) (zv nq wq)) ≤ 67108864 := zl_rP_le rfl (zl_zv hp lp)
  have r2 : zl (rQ (zv np wp) (zv nq wq)) ≤ 67108864 := zl_rQ_le rfl (zl_zv hq lq)
  have n1 := rPQ_ne (zv np wp) (zv nq wq)
  unfold cosR
  generalize hA : rP (zv np wp) (zv nq wq) = a at *
  generalize hB : rQ (zv np wp) (zv nq wq) = b at *
  have m5 : zl (b * b - a * a) ≤ 268435456 := le_d (zl_sub_le (zl_mul_le r2 r2) (zl_mul_le r1 r1)) rfl
  have m6 : zl (b * b + a * a) ≤ 268435456 := le_d (zl_add_le (zl_mul_le r2 r2) (zl_mul_le r1 r1)) rfl
  refine con_intro (fn := Tryz.f18) tok Tryz.func18 (by kernel_rfl) rfl ?_
  intro w0 X
  rw [entry_mkE _ _ [(0, AG (QC np wp nq wq))] rfl rfl]
  refine AWP_reg_seq tok fun K hK => ?_
  refine s_box rfl rfl rfl rfl rfl rfl ?_
  refine s_alloc rfl rfl rfl rfl rfl rfl ?_
  refine s_end (hK _ ?_); clear hK K
  refine AWP_reg_seq tok fun K hK => ?_
  refine s_load rfl rfl rfl ?_
  refine s_call rfl rfl (tNorm_q np nq wp wq a b hp hq (le_d lp rfl) (le_d lq rfl) hA hB) rfl rfl rfl rfl ?_
  refine s_call rfl rfl (tofZ_c a b (le_d r1 rfl) (le_d r2 rfl) n1) rfl rfl rfl rfl ?_
  refine s_alloc rfl rfl rfl rfl rfl rfl ?_
  refine s_store rfl rfl rfl rfl rfl ?_
  refine s_end (hK _ ?_); clear hK K
  refine a_draw tok mixed (A := [[], [], [], [0, 1], [], [0, 1], [0, 1, 2, 4], []]) (an := [{}, {}, {}, {}, { c := [9] }, {}, {}, {}]) rfl (by kernel_rfl) rfl fun K hK => ?_
  refine s_load rfl rfl rfl ?_
  refine s_load rfl rfl rfl ?_
  refine s_call rfl rfl (ttimes_c b a b a (le_d r2 rfl) (le_d r1 rfl) (le_d r2 rfl) (le_d r1 rfl)) rfl rfl rfl rfl ?_
  refine s_field rfl rfl rfl ?_
  refine s_load rfl rfl rfl ?_
  refine s_call rfl rfl (tsquare_c b a (le_d r2 rfl) (le_d r1 rfl)) rfl rfl rfl rfl ?_
  refine s_call rfl rfl (qNewZ_c (b * b - a * a) (b * b + a * a) _ m5 m6 rfl) rfl rfl rfl rfl ?_
  refine s_store rfl rfl rfl rfl rfl ?_
  refine s_end (hK _ ?_); clear hK K
  refine AWP_ret ?_
  repeat (with_reducible refine tq_ret ?_)
  exact post_ret (fin_mk (by rfl) (by rfl) (by rfl))

theorem tSin_c (np nq : Bool) (wp wq : List Nat) (hp : wOK wp) (hq : wOK wq) (lp : wp.length ≤ 67108864) (lq : wq.length ≤ 67108864) :
    Con Tryz.prog 20 [AG (QC np wp nq wq)] { v := AG (QZ (sinR (zv np wp) (zv nq wq))) } := by
  have r1 : zl (rP (zv np wp) (zv nq wq)) ≤ 67108864 := zl_rP_le rfl (zl_zv hp lp)
  have r2 : zl (rQ (zv np wp) (zv nq wq)) ≤ 67108864 := zl_rQ_le rfl (zl_zv hq lq)
  have n1 := rPQ_ne (zv np wp) (zv nq wq)
  unfold sinR
  generalize hA : rP (zv np wp) (zv nq wq) = a at *
  generalize hB : rQ (zv np wp) (zv nq wq) = b at *
  have m5 : zl (b * a + a * b) ≤ 268435456 := le_d (zl_add_le (zl_mul_le r2 r1) (zl_mul_le r1 r2)) rfl
  have m6 : zl (b * b + a * a) ≤ 268435456 := le_d (zl_add_le (zl_mul_le r2 r2) (zl_mul_le r1 r1)) rfl
  refine con_intro (fn := Tryz.f20) tok Tryz.func20 (by kernel_rfl) rfl ?_
  intro w0 X
  rw [entry_mkE _ _ [(0, AG (QC np wp nq wq))] rfl rfl]
  refine AWP_reg_seq tok fun K hK => ?_
  refine s_box rfl rfl rfl rfl rfl rfl ?_
  refine s_alloc rfl rfl rfl rfl rfl rfl ?_
  refine s_end (hK _ ?_); clear hK K
  refine AWP_reg_seq tok fun K hK => ?_
  refine s_load rfl rfl rfl ?_
  refine s_call rfl rfl (tNorm_q np nq wp wq a b hp hq (le_d lp rfl) (le_d lq rfl) hA hB) rfl rfl rfl rfl ?_
  refine s_call rfl rfl (tofZ_c a b (le_d r1 rfl) (le_d r2 rfl) n1) rfl rfl rfl rfl ?_
  refine s_alloc rfl rfl rfl rfl rfl rfl ?_
  refine s_store rfl rfl rfl rfl rfl ?_
  refine s_end (hK _ ?_); clear hK K
  refine a_draw tok mixed (A := [[], [], [], [0, 1], [], [0, 1], [0, 1, 2, 4], []]) (an := [{}, {}, {}, {}, { c := [9] }, {}, {}, {}]) rfl (by kernel_rfl) rfl fun K hK => ?_
  refine s_load rfl rfl rfl ?_
  refine s_load rfl rfl rfl ?_
  refine s_call rfl rfl (ttimes_c b a b a (le_d r2 rfl) (le_d r1 rfl) (le_d r2 rfl) (le_d r1 rfl)) rfl rfl rfl rfl ?_
  refine s_field rfl rfl rfl ?_
  refine s_load rfl rfl rfl ?_
  refine s_call rfl rfl (tsquare_c b a (le_d r2 rfl) (le_d r1 rfl)) rfl rfl rfl rfl ?_
  refine s_call rfl rfl (qNewZ_c (b * a + a * b) (b * b + a * a) _ m5 m6 rfl) rfl rfl rfl rfl ?_
  refine s_store rfl rfl rfl rfl rfl ?_
  refine s_end (hK _ ?_); clear hK K
  refine AWP_ret ?_
  repeat (with_reducible refine tq_ret ?_)
  exact post_ret (fin_mk (by rfl) (by rfl) (by rfl))

theorem tTurn_c (np nq na nb nc nd : Bool) (wp wq wa wb wc wd : List Nat) (hp : wOK wp) (hq : wOK wq) (ha : wOK wa) (hb : wOK wb) (hc : wOK wc) (hd : wOK wd)
    (lp : wp.length ≤ 1048576) (lq : wq.length ≤ 1048576) (la : wa.length ≤ 1048576) (lb : wb.length ≤ 1048576) (lc : wc.length ≤ 1048576) (ld : wd.length ≤ 1048576) :
    Con Tryz.prog 43 [AG (QC np wp nq wq), AG (QC na wa nb wb), AG (QC nc wc nd wd)]
      { v := .tup [.agg (QZ (cosR (zv np wp) (zv nq wq) * qv na wa nb wb - sinR (zv np wp) (zv nq wq) * qv nc wc nd wd)), .agg (QZ (sinR (zv np wp) (zv nq wq) * qv na wa nb wb + cosR (zv np wp) (zv nq wq) * qv nc wc nd wd))] } := by
  have c1 : ql (cosR (zv np wp) (zv nq wq)) ≤ 2097153 := ql_cos (zv np wp) (zv nq wq) (zl_zv hp lp) (zl_zv hq lq) (by decide)
  have s1 : ql (sinR (zv np wp) (zv nq wq)) ≤ 2097153 := ql_sin (zv np wp) (zv nq wq) (zl_zv hp lp) (zl_zv hq lq) (by decide)
  have x1 := ql_qv (na := na) (nb := nb) ha hb la lb (by decide)
  have y1 := ql_qv (na := nc) (nb := nd) hc hd lc ld (by decide)
  generalize hC : cosR (zv np wp) (zv nq wq) = C at *
  generalize hS : sinR (zv np wp) (zv nq wq) = S at *
  generalize hx : qv na wa nb wb = x at *
  generalize hy : qv nc wc nd wd = y at *
  refine con_intro (fn := Tryz.f43) tok Tryz.func43 (by kernel_rfl) rfl ?_
  intro w0 X
  rw [entry_mkE _ _ [(0, AG (QC np wp nq wq)), (1, AG (QC na wa nb wb)), (2, AG (QC nc wc nd wd))] rfl rfl]
  refine AWP_reg_seq tok fun K hK => ?_
  refine s_box rfl rfl rfl rfl rfl rfl ?_
  refine s_box rfl rfl rfl rfl rfl rfl ?_
  refine s_box rfl rfl rfl rfl rfl rfl ?_
  refine s_alloc rfl rfl rfl rfl rfl rfl ?_
  refine s_alloc rfl rfl rfl rfl rfl rfl ?_
  refine s_end (hK _ ?_); clear hK K
  refine a_draw tok mixed (A := [[], [], [], [0], [], [], [2], []]) (an := [{}, {}, { c := [11] }, {}, { c := [11, 13] }, { c := [11, 13, 8] }, {}, {}]) rfl (by kernel_rfl) rfl fun K hK => ?_
  refine s_load rfl rfl rfl ?_
  refine s_call rfl rfl (hC ▸ tCos_c np nq wp wq hp hq (le_d lp rfl) (le_d lq rfl)) rfl rfl rfl rfl ?_
  refine s_load rfl rfl rfl ?_
  refine s_call rfl rfl (hS ▸ tSin_c np nq wp wq hp hq (le_d lp rfl) (le_d lq rfl)) rfl rfl rfl rfl ?_
  refine s_alloc rfl rfl rfl rfl rfl rfl ?_
  refine s_alloc rfl rfl rfl rfl rfl rfl ?_
  refine s_store rfl rfl rfl rfl rfl ?_
  refine s_store rfl rfl rfl rfl rfl ?_
  refine s_end (hK _ ?_); clear hK K
  refine a_draw tok mixed (A := [[], [], [], [], [], [0, 1], [0, 1, 3, 4], [], [], [0, 1, 2, 3, 4, 5], [], [], [0, 1, 2, 3, 4, 5, 6, 7, 8], [0, 1, 2, 3, 4, 5, 6, 7, 8, 10, 11], [7, 8, 9, 10, 11, 12], []]) (an := [{}, {}, {}, { c := [16] }, { c := [16] }, {}, {}, { c := [16, 19, 20] }, { c := [16, 19, 20] }, {}, { c := [16, 19, 20, 23] }, { c := [16, 19, 20, 23] }, {}, {}, {}, {}]) rfl (by kernel_rfl) rfl fun K hK => ?_
  refine s_load rfl rfl rfl ?_
  refine s_load rfl rfl rfl ?_
  refine s_call rfl rfl (qMul_q C x _ _ _ _ _ _ _ _ (wof_ok _) (wof_ok _) ha hb (le_d (ql_num_le c1) rfl) (le_d (ql_den_le c1) rfl) (le_d la rfl) (le_d lb rfl) (qv_QZ C) hx) rfl rfl rfl rfl ?_
  refine s_load rfl rfl rfl ?_
  refine s_load rfl rfl rfl ?_
  refine s_call rfl rfl (qMul_q S y _ _ _ _ _ _ _ _ (wof_ok _) (wof_ok _) hc hd (le_d (ql_num_le s1) rfl) (le_d (ql_den_le s1) rfl) (le_d lc rfl) (le_d ld rfl) (qv_QZ S) hy) rfl rfl rfl rfl ?_
  refine s_call rfl rfl (qSubZ_c (C * x) (S * y) (le_d (ql_mul_le c1 x1) rfl) (le_d (ql_mul_le s1 y1) rfl)) rfl rfl rfl rfl ?_
  refine s_load rfl rfl rfl ?_
  refine s_load rfl rfl rfl ?_
  refine s_call rfl rfl (qMul_q S x _ _ _ _ _ _ _ _ (wof_ok _) (wof_ok _) ha hb (le_d (ql_num_le s1) rfl) (le_d (ql_den_le s1) rfl) (le_d la rfl) (le_d lb rfl) (qv_QZ S) hx) rfl rfl rfl rfl ?_
  refine s_load rfl rfl rfl ?_
  refine s_load rfl rfl rfl ?_
  refine s_call rfl rfl (qMul_q C y _ _ _ _ _ _ _ _ (wof_ok _) (wof_ok _) hc hd (le_d (ql_num_le c1) rfl) (le_d (ql_den_le c1) rfl) (le_d lc rfl) (le_d ld rfl) (qv_QZ C) hy) rfl rfl rfl rfl ?_
  refine s_call rfl rfl (qAddZ_c (S * x) (C * y) (le_d (ql_mul_le s1 x1) rfl) (le_d (ql_mul_le c1 y1) rfl)) rfl rfl rfl rfl ?_
  refine s_store rfl rfl rfl rfl rfl ?_
  refine s_store rfl rfl rfl rfl rfl ?_
  refine s_end (hK _ ?_); clear hK K
  refine AWP_ret ?_
  repeat (with_reducible refine tq_ret ?_)
  exact post_ret (fin_mk (by rfl) (by rfl) (by rfl))
end Go.Proofs.YtipenembpidoiaaGreatDoor

/- The reference's rotations. No condition. -/
namespace Go.Proofs.YtipenembpidoiaaGreatDoor
attribute [local irreducible] lexA

theorem ediv_sign {x g : Int} (hg : 0 < g) (hd : g ∣ x) : (x / g < 0 ↔ x < 0) ∧ (x / g = 0 ↔ x = 0) := by
  obtain ⟨k, rfl⟩ := hd
  rw [Int.mul_ediv_cancel_left _ (by omega)]
  refine ⟨⟨fun h => Int.mul_neg_of_pos_of_neg hg h, fun h => ?_⟩, ⟨fun h => by rw [h, Int.mul_zero], fun h => ?_⟩⟩
  · rcases (by omega : k < 0 ∨ 0 ≤ k) with h' | h'
    · exact h'
    · have := Int.mul_nonneg (Int.le_of_lt hg) h'; omega
  · rcases Int.mul_eq_zero.1 h with h' | h'
    · omega
    · exact h'
theorem dec_sign (x : Int) : decide (x.sign < 0) = decide (x < 0) ∧ (x.sign == 0) = decide (x = 0) := by
  constructor
  · exact decide_eq_decide.2 Int.sign_neg_iff
  · rw [Bool.eq_iff_iff]
    simp [Int.sign_eq_zero_iff_zero]

theorem r3Norm_c (np nq : Bool) (wp wq : List Nat) (hp : wOK wp) (hq : wOK wq) (lp : wp.length ≤ 268435456) (lq : wq.length ≤ 268435456) :
    Con Tryz.prog 10 [AG (QC np wp nq wq)] { v := AG (PZ (rP (zv np wp) (zv nq wq)) (rQ (zv np wp) (zv nq wq))) } := by
  have z1 := zl_zv (n := np) hp lp
  have z2 := zl_zv (n := nq) hq lq
  generalize hx : zv np wp = x at *
  generalize hy : zv nq wq = y at *
  have hgz : Int.gcd (zv (decide (x < 0)) (wof x.natAbs)) (zv (decide (y < 0)) (wof y.natAbs)) = Int.gcd x y := by rw [zv_ZC, zv_ZC]
  have hgl : zl (Int.gcd x y : Int) ≤ 268435456 := by
    by_cases h0 : y = 0
    · subst h0
      rw [Int.gcd_zero_right, zl_nat]; exact z1
    · exact Nat.le_trans (zl_gcd x h0) z2
  have hg0 : (Int.gcd x y : Int).sign = 0 → x = 0 ∧ y = 0 := by
    intro h
    have := Int.sign_eq_zero_iff_zero.1 h
    exact Int.gcd_eq_zero_iff.1 (by omega)
  refine con_intro (fn := Tryz.f10) tok Tryz.func10 (by kernel_rfl) rfl ?_
  intro w0 X
  rw [entry_mkE _ _ [(0, AG (QC np wp nq wq))] rfl rfl]
  refine AWP_reg_seq tok fun K hK => ?_
  refine s_box rfl rfl rfl rfl rfl rfl ?_
  refine s_alloc rfl rfl rfl rfl rfl rfl ?_
  refine s_end (hK _ ?_); clear hK K
  refine a_draw tok mixed (A := [[], [], [0], [], [], [0, 1, 3], [], [], [3, 4], []]) (an := [{}, {}, {}, { c := [8] }, { c := [8] }, {}, { c := [8, 11] }, { c := [8, 11, 3] }, {}, {}]) rfl (by kernel_rfl) rfl fun K hK => ?_
  refine s_fieldAddr rfl rfl rfl ?_
  refine s_load rfl rfl rfl ?_
  refine s_call rfl rfl (hx ▸ r1Norm_c np wp hp (le_d lp rfl)) rfl rfl rfl rfl ?_
  refine s_fieldAddr rfl rfl rfl ?_
  refine s_load rfl rfl rfl ?_
  refine s_call rfl rfl (hy ▸ r1Norm_c nq wq hq (le_d lq rfl)) rfl rfl rfl rfl ?_
  refine s_alloc rfl rfl rfl rfl rfl rfl ?_
  refine s_alloc rfl rfl rfl rfl rfl rfl ?_
  refine s_store rfl rfl rfl rfl rfl ?_
  refine s_store rfl rfl rfl rfl rfl ?_
  refine s_end (hK _ ?_); clear hK K
  refine AWP_reg_seq tok fun K hK => ?_
  refine s_load rfl rfl rfl ?_
  refine s_load rfl rfl rfl ?_
  refine s_call rfl rfl (hgz ▸ r1Gcd_c (decide (x < 0)) (decide (y < 0)) (wof x.natAbs) (wof y.natAbs) (wof_ok _) (wof_ok _) z1 z2) rfl rfl rfl rfl ?_
  refine s_alloc rfl rfl rfl rfl rfl rfl ?_
  refine s_store rfl rfl rfl rfl rfl ?_
  refine s_end (hK _ ?_); clear hK K
  refine a_keep [(2, .ptr 2 0), (3, .ptr 3 0), (4, .ptr 4 0), (5, .ptr 5 0)] [(2, some (.box [.d (.lit (.bool false)), .nil, .d (.lit (.bool false)), .nil])), (3, some (.box (ZC x))), (4, some (.box (ZC y))), (5, some (.box (ZC (Int.gcd x y : Int))))] ⟨rfl, rfl, rfl, rfl, trivial⟩ ⟨rfl, rfl, rfl, rfl, trivial⟩ ?_
  refine AWP_seq ?_
  refine AWP_reg_seq tok fun K hK => ?_
  refine s_load rfl rfl rfl ?_
  refine s_call rfl rfl (r1SignZ_c (Int.gcd x y : Int) (le_d hgl rfl)) rfl rfl rfl rfl ?_
  refine s_bin rfl rfl rfl ?_
  refine s_end (hK _ ?_); clear hK K
  refine a_cond rfl (fun hc => ?_) (fun hc => ?_)
  · obtain ⟨e1, e2⟩ := hg0 (by simpa using hc)
    refine AWP_reg_seq tok fun K hK => ?_
    refine s_call rfl rfl (r1Of_c 0 (by unfold I64; omega)) rfl rfl rfl rfl ?_
    refine s_call rfl rfl (r1Of_c 1 (by unfold I64; omega)) rfl rfl rfl rfl ?_
    refine s_build rfl rfl rfl ?_
    refine s_store rfl rfl rfl rfl rfl ?_
    refine s_end (hK _ ?_); clear hK K
    refine AWP_ret ?_
    repeat (with_reducible refine tq_ret ?_)
    exact post_ret (fin_mk (by rfl) (by rfl) (by rw [e1, e2]; rfl))
  have hne : ¬ (x = 0 ∧ y = 0) := by
    rintro ⟨h1, h2⟩
    subst h1 h2
    simp at hc
  have hgn := gcd_ne hne
  have hgp : (0 : Int) < (Int.gcd x y : Int) := by omega
  have d1 : (Int.gcd x y : Int) ∣ x := Int.gcd_dvd_left ..
  have d2 : (Int.gcd x y : Int) ∣ y := Int.gcd_dvd_right ..
  have s1 := ediv_sign hgp d1
  have s2 := ediv_sign hgp d2
  have l1 : zl (x / (Int.gcd x y : Int)) ≤ 268435456 := Nat.le_trans (wl_mono (natAbs_ediv_le x _)) z1
  have l2 : zl (y / (Int.gcd x y : Int)) ≤ 268435456 := Nat.le_trans (wl_mono (natAbs_ediv_le y _)) z2
  have eP : rP x y = if rneg x y then -(x / (Int.gcd x y : Int)) else x / (Int.gcd x y : Int) := by
    unfold rP rg; rw [if_neg hne]; split
    · rw [Int.ediv_neg]
    · rfl
  have eQ : rQ x y = if rneg x y then -(y / (Int.gcd x y : Int)) else y / (Int.gcd x y : Int) := by
    unfold rQ rg; rw [if_neg hne]; split
    · rw [Int.ediv_neg]
    · rfl
  have eN : rneg x y = (decide (y / (Int.gcd x y : Int) < 0) || (decide (y / (Int.gcd x y : Int) = 0) && decide (x / (Int.gcd x y : Int) < 0))) := by
    unfold rneg
    rw [decide_eq_decide.2 s2.1, decide_eq_decide.2 s2.2, decide_eq_decide.2 s1.1]
  refine AWP_skip ?_
  show AWP _ _ _ _ _ _
  refine AWP_reg_seq tok fun K hK => ?_
  refine s_load rfl rfl rfl ?_
  refine s_load rfl rfl rfl ?_
  refine s_call rfl rfl (r1DivModZ_c x (Int.gcd x y : Int) z1 hgl hgn) rfl rfl rfl rfl ?_
  refine s_move rfl rfl rfl ?_
  refine s_extract rfl rfl rfl ?_
  refine s_extract rfl rfl rfl ?_
  refine s_extract rfl rfl rfl ?_
  refine s_store rfl rfl rfl rfl rfl ?_
  refine s_end (hK _ ?_); clear hK K
  refine AWP_reg_seq tok fun K hK => ?_
  refine s_load rfl rfl rfl ?_
  refine s_load rfl rfl rfl ?_
  refine s_call rfl rfl (r1DivModZ_c y (Int.gcd x y : Int) z2 hgl hgn) rfl rfl rfl rfl ?_
  refine s_move rfl rfl rfl ?_
  refine s_extract rfl rfl rfl ?_
  refine s_extract rfl rfl rfl ?_
  refine s_extract rfl rfl rfl ?_
  refine s_store rfl rfl rfl rfl rfl ?_
  refine s_end (hK _ ?_); clear hK K
  generalize x / (Int.gcd x y : Int) = a at *
  generalize y / (Int.gcd x y : Int) = b at *
  refine a_join (α := Unit) (fun _ => mk 55 [(2, .ptr 2 0), (3, .ptr 3 0), (4, .ptr 4 0)] [(2, some (.box [.d (.lit (.bool false)), .nil, .d (.lit (.bool false)), .nil])), (3, some (.box (ZC (rP x y)))), (4, some (.box (ZC (rQ x y))))] []) (fun _ => True) ?_ ?_
  · refine a_keep [(2, .ptr 2 0), (3, .ptr 3 0), (4, .ptr 4 0)] [(2, some (.box [.d (.lit (.bool false)), .nil, .d (.lit (.bool false)), .nil])), (3, some (.box (ZC a))), (4, some (.box (ZC b)))] ⟨rfl, rfl, rfl, trivial⟩ ⟨rfl, rfl, rfl, trivial⟩ ?_
    refine a_join (α := Bool) (fun c => mk 55 [(2, .ptr 2 0), (3, .ptr 3 0), (4, .ptr 4 0), (47, dB c)] [(2, some (.box [.d (.lit (.bool false)), .nil, .d (.lit (.bool false)), .nil])), (3, some (.box (ZC a))), (4, some (.box (ZC b)))] []) (fun c => c = rneg x y) ?_ ?_
    · refine AWP_regW fun K hK => ?_
      refine w_step tok rfl ?_
      refine s_load rfl rfl rfl ?_
      refine s_end ?_
      refine w_step tok rfl ?_
      refine s_call rfl rfl (r1SignZ_c b (le_d l2 rfl)) rfl rfl rfl rfl ?_
      refine s_end ?_
      refine w_step tok rfl ?_
      refine s_bin rfl rfl rfl ?_
      refine s_end ?_
      refine w_step tok rfl ?_
      refine s_move rfl rfl rfl ?_
      refine s_end ?_
      refine w_split (fun hb => ?_) (fun hb => ?_)
      · rw [(dec_sign b).1] at hb
        refine w_skip rfl rfl ?_
        refine w_skip rfl rfl ?_
        refine w_skip rfl rfl ?_
        refine w_skip rfl rfl ?_
        refine w_skip2 rfl rfl rfl ?_
        refine w_skip2 rfl rfl rfl ?_
        refine w_skip2 rfl rfl rfl ?_
        refine w_skip rfl rfl ?_
        refine w_step tok rfl ?_
        refine s_pick rfl rfl rfl ?_
        refine s_end ?_
        refine w_end rfl (hK _ ?_); clear hK K
        exact ⟨true, by rw [eN, hb, Bool.true_or], Wk.mk' ⟨rfl, rfl, rfl, rfl, trivial⟩ ⟨rfl, rfl, rfl, trivial⟩⟩
      rw [(dec_sign b).1] at hb
      refine w_step tok rfl ?_
      refine s_load rfl rfl rfl ?_
      refine s_end ?_
      refine w_step tok rfl ?_
      refine s_call rfl rfl (r1SignZ_c b (le_d l2 rfl)) rfl rfl rfl rfl ?_
      refine s_end ?_
      refine w_step tok rfl ?_
      refine s_bin rfl rfl rfl ?_
      refine s_end ?_
      refine w_step tok rfl ?_
      refine s_move rfl rfl rfl ?_
      refine s_end ?_
      refine w_split (fun he => ?_) (fun he => ?_)
      · rw [(dec_sign b).2] at he
        refine w_step tok rfl ?_
        refine s_load rfl rfl rfl ?_
        refine s_end ?_
        refine w_step tok rfl ?_
        refine s_call rfl rfl (r1SignZ_c a (le_d l1 rfl)) rfl rfl rfl rfl ?_
        refine s_end ?_
        refine w_step tok rfl ?_
        refine s_bin rfl rfl rfl ?_
        refine s_end ?_
        refine w_step tok rfl ?_
        refine s_pick rfl rfl rfl ?_
        refine s_end ?_
        refine w_step tok rfl ?_
        refine s_pick rfl rfl rfl ?_
        refine s_end ?_
        refine w_end rfl (hK _ ?_); clear hK K
        refine ⟨_, ?_, Wk.mk' ⟨rfl, rfl, rfl, rfl, trivial⟩ ⟨rfl, rfl, rfl, trivial⟩⟩
        rw [eN, hb, he, Bool.false_or, Bool.true_and]
        exact (dec_sign a).1
      · rw [(dec_sign b).2] at he
        refine w_skip rfl rfl ?_
        refine w_skip rfl rfl ?_
        refine w_skip rfl rfl ?_
        refine w_step tok rfl ?_
        refine s_pick rfl rfl rfl ?_
        refine s_end ?_
        refine w_step tok rfl ?_
        refine s_pick rfl rfl rfl ?_
        refine s_end ?_
        refine w_end rfl (hK _ ?_); clear hK K
        exact ⟨false, by rw [eN, hb, he]; rfl, Wk.mk' ⟨rfl, rfl, rfl, rfl, trivial⟩ ⟨rfl, rfl, rfl, trivial⟩⟩
    rintro c hcr
    refine a_cond rfl (fun hc => ?_) (fun hc => ?_)
    · rw [hcr] at hc
      rw [hc, if_pos rfl] at eP eQ
      refine a_draw1 tok mixed (A := [[], [], [], [0], [2], []]) (an := [{}, {}, { c := [49] }, {}, {}, {}]) rfl (by kernel_rfl) rfl fun K hK => ?_
      refine s_load rfl rfl rfl ?_
      refine s_call rfl rfl (r1NegZ_c a l1) rfl rfl rfl rfl ?_
      refine s_load rfl rfl rfl ?_
      refine s_call rfl rfl (r1NegZ_c b l2) rfl rfl rfl rfl ?_
      refine s_store rfl rfl rfl rfl rfl ?_
      refine s_store rfl rfl rfl rfl rfl ?_
      refine s_end (hK _ ?_); clear hK K
      exact ⟨(), trivial, Wk.mk' ⟨rfl, rfl, rfl, trivial⟩ ⟨rfl, by rw [eP]; rfl, by rw [eQ]; rfl, trivial⟩⟩
    · rw [hcr] at hc
      rw [hc, if_neg (by decide)] at eP eQ
      refine AWP_skip ?_
      exact ⟨(), trivial, Wk.mk' ⟨rfl, rfl, rfl, trivial⟩ ⟨rfl, by rw [eP]; rfl, by rw [eQ]; rfl, trivial⟩⟩
  rintro - -
  show AWP _ _ _ _ _ (mk 55 [(2, .ptr 2 0), (3, .ptr 3 0), (4, .ptr 4 0)] [(2, some (.box [.d (.lit (.bool false)), .nil, .d (.lit (.bool false)), .nil])), (3, some (.box (ZC (rP x y)))), (4, some (.box (ZC (rQ x y))))] [])
  refine AWP_reg_seq tok fun K hK => ?_
  refine s_load rfl rfl rfl ?_
  refine s_load rfl rfl rfl ?_
  refine s_build rfl rfl rfl ?_
  refine s_store rfl rfl rfl rfl rfl ?_
  refine s_end (hK _ ?_); clear hK K
  refine AWP_ret ?_
  repeat (with_reducible refine tq_ret ?_)
  exact post_ret (fin_mk (by rfl) (by rfl) (by rfl))

theorem r3Norm_q (np nq : Bool) (wp wq : List Nat) (a b : Int) (hp : wOK wp) (hq : wOK wq) (lp : wp.length ≤ 268435456) (lq : wq.length ≤ 268435456) (ha : rP (zv np wp) (zv nq wq) = a) (hb : rQ (zv np wp) (zv nq wq) = b) :
    Con Tryz.prog 10 [AG (QC np wp nq wq)] { v := AG (PZ a b) } := by
  subst ha hb
  exact r3Norm_c np nq wp wq hp hq lp lq
theorem r3NormZ_q (x y a b : Int) (hx : zl x ≤ 268435456) (hy : zl y ≤ 268435456) (ha : rP x y = a) (hb : rQ x y = b) : Con Tryz.prog 10 [AG (PZ x y)] { v := AG (PZ a b) } :=
  r3Norm_q _ _ _ _ a b (wof_ok _) (wof_ok _) hx hy (by rw [zv_ZC, zv_ZC]; exact ha) (by rw [zv_ZC, zv_ZC]; exact hb)

theorem r3Of_c (p q : Int) (hp : I64 p) (hq : I64 q) : Con Tryz.prog 40 [dI p, dI q] { v := AG (PZ (rP p q) (rQ p q)) } := by
  refine con_intro (fn := Tryz.f40) tok Tryz.func40 (by kernel_rfl) rfl ?_
  intro w0 X
  rw [entry_mkE _ _ [(0, dI p), (1, dI q)] rfl rfl]
  refine AWP_reg_seq tok fun K hK => ?_
  refine s_alloc rfl rfl rfl rfl rfl rfl ?_
  refine s_end (hK _ ?_); clear hK K
  refine AWP_reg_seq tok fun K hK => ?_
  refine s_move rfl rfl rfl ?_
  refine s_call rfl rfl (r1Of_c p hp) rfl rfl rfl rfl ?_
  refine s_move rfl rfl rfl ?_
  refine s_call rfl rfl (r1Of_c q hq) rfl rfl rfl rfl ?_
  refine s_build rfl rfl rfl ?_
  refine s_call rfl rfl (r3NormZ_q p q _ _ (le_d (zl_i64 hp) rfl) (le_d (zl_i64 hq) rfl) rfl rfl) rfl rfl rfl rfl ?_
  refine s_store rfl rfl rfl rfl rfl ?_
  refine s_end (hK _ ?_); clear hK K
  refine AWP_ret ?_
  repeat (with_reducible refine tq_ret ?_)
  exact post_ret (fin_mk (by rfl) (by rfl) (by rfl))

theorem r3Then_c (np nq nr ns : Bool) (wp wq wr ws : List Nat) (hp : wOK wp) (hq : wOK wq) (hr : wOK wr) (hs : wOK ws) (lp : wp.length ≤ 67108864) (lq : wq.length ≤ 67108864) (lr : wr.length ≤ 67108864) (ls : ws.length ≤ 67108864) :
    Con Tryz.prog 14 [AG (QC np wp nq wq), AG (QC nr wr ns ws)] { v := AG (PZ (thP (zv np wp) (zv nq wq) (zv nr wr) (zv ns ws)) (thQ (zv np wp) (zv nq wq) (zv nr wr) (zv ns ws))) } := by
  have r1 : zl (rP (zv np wp) (zv nq wq)) ≤ 67108864 := zl_rP_le rfl (zl_zv hp lp)
  have r2 : zl (rQ (zv np wp) (zv nq wq)) ≤ 67108864 := zl_rQ_le rfl (zl_zv hq lq)
  have r3 : zl (rP (zv nr wr) (zv ns ws)) ≤ 67108864 := zl_rP_le rfl (zl_zv hr lr)
  have r4 : zl (rQ (zv nr wr) (zv ns ws)) ≤ 67108864 := zl_rQ_le rfl (zl_zv hs ls)
  unfold thP thQ
  generalize hA : rP (zv np wp) (zv nq wq) = a at *
  generalize hB : rQ (zv np wp) (zv nq wq) = b at *
  generalize hC : rP (zv nr wr) (zv ns ws) = c at *
  generalize hD : rQ (zv nr wr) (zv ns ws) = d at *
  have m5 : zl (b * d - a * c) ≤ 268435456 := le_d (zl_sub_le (zl_mul_le r2 r4) (zl_mul_le r1 r3)) rfl
  have m6 : zl (a * d + b * c) ≤ 268435456 := le_d (zl_add_le (zl_mul_le r1 r4) (zl_mul_le r2 r3)) rfl
  rw [Int.add_comm (b * c)]
  refine con_intro (fn := Tryz.f14) tok Tryz.func14 (by kernel_rfl) rfl ?_
  intro w0 X
  rw [entry_mkE _ _ [(0, AG (QC np wp nq wq)), (1, AG (QC nr wr ns ws))] rfl rfl]
  refine AWP_reg_seq tok fun K hK => ?_
  refine s_box rfl rfl rfl rfl rfl rfl ?_
  refine s_box rfl rfl rfl rfl rfl rfl ?_
  refine s_alloc rfl rfl rfl rfl rfl rfl ?_
  refine s_end (hK _ ?_); clear hK K
  refine a_draw tok mixed (A := [[], [], [], [0], [2], []]) (an := [{}, {}, { c := [8] }, {}, {}, {}]) rfl (by kernel_rfl) rfl fun K hK => ?_
  refine s_load rfl rfl rfl ?_
  refine s_call rfl rfl (r3Norm_q np nq wp wq a b hp hq (le_d lp rfl) (le_d lq rfl) hA hB) rfl rfl rfl rfl ?_
  refine s_load rfl rfl rfl ?_
  refine s_call rfl rfl (r3Norm_q nr ns wr ws c d hr hs (le_d lr rfl) (le_d ls rfl) hC hD) rfl rfl rfl rfl ?_
  refine s_store rfl rfl rfl rfl rfl ?_
  refine s_store rfl rfl rfl rfl rfl ?_
  refine s_end (hK _ ?_); clear hK K
  refine a_draw tok mixed (A := [[], [], [], [], [0, 2], [], [], [], [], [0, 1, 2, 3, 5, 7], [0, 1, 2, 3, 5, 6, 7, 8], [], []]) (an := [{}, {}, {}, {}, {}, { c := [15] }, { c := [15] }, { c := [15] }, { c := [15] }, {}, {}, { c := [15, 20, 21] }, {}]) rfl (by kernel_rfl) rfl fun K hK => ?_
  refine s_fieldAddr rfl rfl rfl ?_
  refine s_load rfl rfl rfl ?_
  refine s_fieldAddr rfl rfl rfl ?_
  refine s_load rfl rfl rfl ?_
  refine s_call rfl rfl (r1MulZ_c a d (le_d r1 rfl) (le_d r4 rfl)) rfl rfl rfl rfl ?_
  refine s_fieldAddr rfl rfl rfl ?_
  refine s_load rfl rfl rfl ?_
  refine s_fieldAddr rfl rfl rfl ?_
  refine s_load rfl rfl rfl ?_
  refine s_call rfl rfl (r1MulZ_c b c (le_d r2 rfl) (le_d r3 rfl)) rfl rfl rfl rfl ?_
  refine s_call rfl rfl (r1AddZ_c (a * d) (b * c) (le_d (zl_mul_le r1 r4) rfl) (le_d (zl_mul_le r2 r3) rfl)) rfl rfl rfl rfl ?_
  refine s_alloc rfl rfl rfl rfl rfl rfl ?_
  refine s_store rfl rfl rfl rfl rfl ?_
  refine s_end (hK _ ?_); clear hK K
  refine a_draw tok mixed (A := [[], [], [], [], [0, 2], [], [], [], [], [0, 1, 2, 3, 5, 7], [0, 1, 2, 3, 5, 6, 7, 8], [], []]) (an := [{}, {}, {}, {}, {}, { c := [26] }, { c := [26] }, { c := [26] }, { c := [26] }, {}, {}, { c := [26, 31, 32] }, {}]) rfl (by kernel_rfl) rfl fun K hK => ?_
  refine s_fieldAddr rfl rfl rfl ?_
  refine s_load rfl rfl rfl ?_
  refine s_fieldAddr rfl rfl rfl ?_
  refine s_load rfl rfl rfl ?_
  refine s_call rfl rfl (r1MulZ_c b d (le_d r2 rfl) (le_d r4 rfl)) rfl rfl rfl rfl ?_
  refine s_fieldAddr rfl rfl rfl ?_
  refine s_load rfl rfl rfl ?_
  refine s_fieldAddr rfl rfl rfl ?_
  refine s_load rfl rfl rfl ?_
  refine s_call rfl rfl (r1MulZ_c a c (le_d r1 rfl) (le_d r3 rfl)) rfl rfl rfl rfl ?_
  refine s_call rfl rfl (r1SubZ_c (b * d) (a * c) (le_d (zl_mul_le r2 r4) rfl) (le_d (zl_mul_le r1 r3) rfl)) rfl rfl rfl rfl ?_
  refine s_alloc rfl rfl rfl rfl rfl rfl ?_
  refine s_store rfl rfl rfl rfl rfl ?_
  refine s_end (hK _ ?_); clear hK K
  refine AWP_reg_seq tok fun K hK => ?_
  refine s_load rfl rfl rfl ?_
  refine s_load rfl rfl rfl ?_
  refine s_build rfl rfl rfl ?_
  refine s_call rfl rfl (r3NormZ_q (a * d + b * c) (b * d - a * c) _ _ m6 m5 rfl rfl) rfl rfl rfl rfl ?_
  refine s_store rfl rfl rfl rfl rfl ?_
  refine s_end (hK _ ?_); clear hK K
  refine AWP_ret ?_
  repeat (with_reducible refine tq_ret ?_)
  exact post_ret (fin_mk (by rfl) (by rfl) (by rfl))

theorem r2Sub_q (x y : Rat) (na nb nc nd : Bool) (wa wb wc wd : List Nat) (ha : wOK wa) (hb : wOK wb) (hc : wOK wc) (hd : wOK wd) (la : wa.length ≤ 16777215) (lb : wb.length ≤ 16777215) (lc : wc.length ≤ 16777215) (ld : wd.length ≤ 16777215)
    (hx : qv na wa nb wb = x) (hy : qv nc wc nd wd = y) :
    Con Tryz.prog 101 [AG (QC na wa nb wb), AG (QC nc wc nd wd)] { v := AG (QZ (x - y)) } := by
  have y1 : ql (-y) ≤ 16777215 := by rw [ql_neg, ← hy]; exact ql_qv hc hd lc ld (by decide)
  have e : x - y = x + -y := Rat.sub_eq_add_neg x y
  rw [e]
  refine con_intro (fn := Tryz.f101) tok Tryz.func101 (by kernel_rfl) rfl ?_
  intro w0 X
  rw [entry_mkE _ _ [(0, AG (QC na wa nb wb)), (1, AG (QC nc wc nd wd))] rfl rfl]
  refine AWP_reg_seq tok fun K hK => ?_
  refine s_box rfl rfl rfl rfl rfl rfl ?_
  refine s_box rfl rfl rfl rfl rfl rfl ?_
  refine s_alloc rfl rfl rfl rfl rfl rfl ?_
  refine s_end (hK _ ?_); clear hK K
  refine a_draw tok mixed (A := [[], [], [], [1], []]) (an := [{}, {}, {}, {}, {}]) rfl (by kernel_rfl) rfl fun K hK => ?_
  refine s_load rfl rfl rfl ?_
  refine s_load rfl rfl rfl ?_
  refine s_call rfl rfl (hy ▸ r2Neg_c nc nd wc wd hc hd (le_d lc rfl) (le_d ld rfl)) rfl rfl rfl rfl ?_
  refine s_call rfl rfl (r2Add_q x (-y) na nb _ _ wa wb _ _ ha hb (wof_ok _) (wof_ok _) (le_d la rfl) (le_d lb rfl) (le_d (ql_num_le y1) rfl) (le_d (ql_den_le y1) rfl) hx (qv_QZ _)) rfl rfl rfl rfl ?_
  refine s_store rfl rfl rfl rfl rfl ?_
  refine s_end (hK _ ?_); clear hK K
  refine AWP_ret ?_
  repeat (with_reducible refine tq_ret ?_)
  exact post_ret (fin_mk (by rfl) (by rfl) (by rfl))

theorem r2SubZ_c (x y : Rat) (hx : ql x ≤ 16777215) (hy : ql y ≤ 16777215) : Con Tryz.prog 101 [AG (QZ x), AG (QZ y)] { v := AG (QZ (x - y)) } :=
  r2Sub_q x y _ _ _ _ _ _ _ _ (wof_ok _) (wof_ok _) (wof_ok _) (wof_ok _) (Nat.le_trans (ql_num x) hx) (Nat.le_trans (ql_den x) hx) (Nat.le_trans (ql_num y) hy) (Nat.le_trans (ql_den y) hy) (qv_QZ x) (qv_QZ y)

theorem r3Cos_c (np nq : Bool) (wp wq : List Nat) (hp : wOK wp) (hq : wOK wq) (lp : wp.length ≤ 67108864) (lq : wq.length ≤ 67108864) :
    Con Tryz.prog 19 [AG (QC np wp nq wq)] { v := AG (QZ (cosR (zv np wp) (zv nq wq))) } := by
  have r1 : zl (rP (zv np wp) (zv nq wq)) ≤ 67108864 := zl_rP_le rfl (zl_zv hp lp)
  have r2 : zl (rQ (zv np wp) (zv nq wq)) ≤ 67108864 := zl_rQ_le rfl (zl_zv hq lq)
  unfold cosR
  generalize hA : rP (zv np wp) (zv nq wq) = a at *
  generalize hB : rQ (zv np wp) (zv nq wq) = b at *
  have m5 : zl (b * b - a * a) ≤ 268435456 := le_d (zl_sub_le (zl_mul_le r2 r2) (zl_mul_le r1 r1)) rfl
  have m6 : zl (b * b + a * a) ≤ 268435456 := le_d (zl_add_le (zl_mul_le r2 r2) (zl_mul_le r1 r1)) rfl
  refine con_intro (fn := Tryz.f19) tok Tryz.func19 (by kernel_rfl) rfl ?_
  intro w0 X
  rw [entry_mkE _ _ [(0, AG (QC np wp nq wq))] rfl rfl]
  refine AWP_reg_seq tok fun K hK => ?_
  refine s_box rfl rfl rfl rfl rfl rfl ?_
  refine s_alloc rfl rfl rfl rfl rfl rfl ?_
  refine s_end (hK _ ?_); clear hK K
  refine AWP_reg_seq tok fun K hK => ?_
  refine s_load rfl rfl rfl ?_
  refine s_call rfl rfl (r3Norm_q np nq wp wq a b hp hq (le_d lp rfl) (le_d lq rfl) hA hB) rfl rfl rfl rfl ?_
  refine s_store rfl rfl rfl rfl rfl ?_
  refine s_end (hK _ ?_); clear hK K
  refine a_draw tok mixed (A := [[], [], [], [], [0, 2], [], [], [], [], [0, 1, 2, 3, 5, 7], [], [], [5, 6, 7, 8], []]) (an := [{}, {}, {}, {}, {}, { c := [11] }, { c := [11] }, { c := [11] }, { c := [11] }, {}, { c := [11, 16] }, { c := [11, 16, 3] }, {}, {}]) rfl (by kernel_rfl) rfl fun K hK => ?_
  refine s_fieldAddr rfl rfl rfl ?_
  refine s_load rfl rfl rfl ?_
  refine s_fieldAddr rfl rfl rfl ?_
  refine s_load rfl rfl rfl ?_
  refine s_call rfl rfl (r1MulZ_c a a (le_d r1 rfl) (le_d r1 rfl)) rfl rfl rfl rfl ?_
  refine s_fieldAddr rfl rfl rfl ?_
  refine s_load rfl rfl rfl ?_
  refine s_fieldAddr rfl rfl rfl ?_
  refine s_load rfl rfl rfl ?_
  refine s_call rfl rfl (r1MulZ_c b b (le_d r2 rfl) (le_d r2 rfl)) rfl rfl rfl rfl ?_
  refine s_alloc rfl rfl rfl rfl rfl rfl ?_
  refine s_alloc rfl rfl rfl rfl rfl rfl ?_
  refine s_store rfl rfl rfl rfl rfl ?_
  refine s_store rfl rfl rfl rfl rfl ?_
  refine s_end (hK _ ?_); clear hK K
  refine a_draw tok mixed (A := [[], [], [], [], [], [0, 1], [0, 1, 3, 4], []]) (an := [{}, {}, {}, { c := [19] }, { c := [19] }, {}, {}, {}]) rfl (by kernel_rfl) rfl fun K hK => ?_
  refine s_load rfl rfl rfl ?_
  refine s_load rfl rfl rfl ?_
  refine s_call rfl rfl (r1SubZ_c (b * b) (a * a) (le_d (zl_mul_le r2 r2) rfl) (le_d (zl_mul_le r1 r1) rfl)) rfl rfl rfl rfl ?_
  refine s_load rfl rfl rfl ?_
  refine s_load rfl rfl rfl ?_
  refine s_call rfl rfl (r1AddZ_c (b * b) (a * a) (le_d (zl_mul_le r2 r2) rfl) (le_d (zl_mul_le r1 r1) rfl)) rfl rfl rfl rfl ?_
  refine s_call rfl rfl (r2NewZ_c (b * b - a * a) (b * b + a * a) _ m5 m6 rfl) rfl rfl rfl rfl ?_
  refine s_store rfl rfl rfl rfl rfl ?_
  refine s_end (hK _ ?_); clear hK K
  refine AWP_ret ?_
  repeat (with_reducible refine tq_ret ?_)
  exact post_ret (fin_mk (by rfl) (by rfl) (by rfl))

theorem r3Sin_c (np nq : Bool) (wp wq : List Nat) (hp : wOK wp) (hq : wOK wq) (lp : wp.length ≤ 67108864) (lq : wq.length ≤ 67108864) :
    Con Tryz.prog 21 [AG (QC np wp nq wq)] { v := AG (QZ (sinR (zv np wp) (zv nq wq))) } := by
  have r1 : zl (rP (zv np wp) (zv nq wq)) ≤ 67108864 := zl_rP_le rfl (zl_zv hp lp)
  have r2 : zl (rQ (zv np wp) (zv nq wq)) ≤ 67108864 := zl_rQ_le rfl (zl_zv hq lq)
  unfold sinR
  generalize hA : rP (zv np wp) (zv nq wq) = a at *
  generalize hB : rQ (zv np wp) (zv nq wq) = b at *
  have m5 : zl (a * b + a * b) ≤ 268435456 := le_d (zl_add_le (zl_mul_le r1 r2) (zl_mul_le r1 r2)) rfl
  have m6 : zl (a * a + b * b) ≤ 268435456 := le_d (zl_add_le (zl_mul_le r1 r1) (zl_mul_le r2 r2)) rfl
  have e1 : b * a + a * b = a * b + a * b := by rw [Int.mul_comm b a]
  have e2 : b * b + a * a = a * a + b * b := Int.add_comm _ _
  rw [e1, e2]
  refine con_intro (fn := Tryz.f21) tok Tryz.func21 (by kernel_rfl) rfl ?_
  intro w0 X
  rw [entry_mkE _ _ [(0, AG (QC np wp nq wq))] rfl rfl]
  refine AWP_reg_seq tok fun K hK => ?_
  refine s_box rfl rfl rfl rfl rfl rfl ?_
  refine s_alloc rfl rfl rfl rfl rfl rfl ?_
  refine s_end (hK _ ?_); clear hK K
  refine AWP_reg_seq tok fun K hK => ?_
  refine s_load rfl rfl rfl ?_
  refine s_call rfl rfl (r3Norm_q np nq wp wq a b hp hq (le_d lp rfl) (le_d lq rfl) hA hB) rfl rfl rfl rfl ?_
  refine s_store rfl rfl rfl rfl rfl ?_
  refine s_end (hK _ ?_); clear hK K
  refine AWP_reg_seq tok fun K hK => ?_
  refine s_fieldAddr rfl rfl rfl ?_
  refine s_load rfl rfl rfl ?_
  refine s_fieldAddr rfl rfl rfl ?_
  refine s_load rfl rfl rfl ?_
  refine s_call rfl rfl (r1MulZ_c a b (le_d r1 rfl) (le_d r2 rfl)) rfl rfl rfl rfl ?_
  refine s_alloc rfl rfl rfl rfl rfl rfl ?_
  refine s_store rfl rfl rfl rfl rfl ?_
  refine s_end (hK _ ?_); clear hK K
  refine a_draw tok mixed (A := [[], [], [], [], [], [], [], [0, 1, 3, 5], [], [], [], [], [0, 1, 2, 3, 4, 5, 6, 8, 10], [0, 1, 2, 3, 4, 5, 6, 8, 9, 10, 11], [0, 1, 3, 4, 5, 6, 7, 8, 9, 10, 11, 12], []]) (an := [{}, {}, {}, { c := [13] }, { c := [13] }, { c := [13] }, { c := [13] }, {}, { c := [13, 18] }, { c := [13, 18] }, { c := [13, 18] }, { c := [13, 18] }, {}, {}, {}, {}]) rfl (by kernel_rfl) rfl fun K hK => ?_
  refine s_load rfl rfl rfl ?_
  refine s_load rfl rfl rfl ?_
  refine s_call rfl rfl (r1AddZ_c (a * b) (a * b) (le_d (zl_mul_le r1 r2) rfl) (le_d (zl_mul_le r1 r2) rfl)) rfl rfl rfl rfl ?_
  refine s_fieldAddr rfl rfl rfl ?_
  refine s_load rfl rfl rfl ?_
  refine s_fieldAddr rfl rfl rfl ?_
  refine s_load rfl rfl rfl ?_
  refine s_call rfl rfl (r1MulZ_c a a (le_d r1 rfl) (le_d r1 rfl)) rfl rfl rfl rfl ?_
  refine s_fieldAddr rfl rfl rfl ?_
  refine s_load rfl rfl rfl ?_
  refine s_fieldAddr rfl rfl rfl ?_
  refine s_load rfl rfl rfl ?_
  refine s_call rfl rfl (r1MulZ_c b b (le_d r2 rfl) (le_d r2 rfl)) rfl rfl rfl rfl ?_
  refine s_call rfl rfl (r1AddZ_c (a * a) (b * b) (le_d (zl_mul_le r1 r1) rfl) (le_d (zl_mul_le r2 r2) rfl)) rfl rfl rfl rfl ?_
  refine s_call rfl rfl (r2NewZ_c (a * b + a * b) (a * a + b * b) _ m5 m6 rfl) rfl rfl rfl rfl ?_
  refine s_store rfl rfl rfl rfl rfl ?_
  refine s_end (hK _ ?_); clear hK K
  refine AWP_ret ?_
  repeat (with_reducible refine tq_ret ?_)
  exact post_ret (fin_mk (by rfl) (by rfl) (by rfl))

theorem r3Turn_c (np nq na nb nc nd : Bool) (wp wq wa wb wc wd : List Nat) (hp : wOK wp) (hq : wOK wq) (ha : wOK wa) (hb : wOK wb) (hc : wOK wc) (hd : wOK wd)
    (lp : wp.length ≤ 1048576) (lq : wq.length ≤ 1048576) (la : wa.length ≤ 1048576) (lb : wb.length ≤ 1048576) (lc : wc.length ≤ 1048576) (ld : wd.length ≤ 1048576) :
    Con Tryz.prog 66 [AG (QC np wp nq wq), AG (QC na wa nb wb), AG (QC nc wc nd wd)]
      { v := .tup [.agg (QZ (cosR (zv np wp) (zv nq wq) * qv na wa nb wb - sinR (zv np wp) (zv nq wq) * qv nc wc nd wd)), .agg (QZ (sinR (zv np wp) (zv nq wq) * qv na wa nb wb + cosR (zv np wp) (zv nq wq) * qv nc wc nd wd))] } := by
  have c1 : ql (cosR (zv np wp) (zv nq wq)) ≤ 2097153 := ql_cos (zv np wp) (zv nq wq) (zl_zv hp lp) (zl_zv hq lq) (by decide)
  have s1 : ql (sinR (zv np wp) (zv nq wq)) ≤ 2097153 := ql_sin (zv np wp) (zv nq wq) (zl_zv hp lp) (zl_zv hq lq) (by decide)
  have x1 := ql_qv (na := na) (nb := nb) ha hb la lb (by decide)
  have y1 := ql_qv (na := nc) (nb := nd) hc hd lc ld (by decide)
  generalize hC : cosR (zv np wp) (zv nq wq) = C at *
  generalize hS : sinR (zv np wp) (zv nq wq) = S at *
  generalize hx : qv na wa nb wb = x at *
  generalize hy : qv nc wc nd wd = y at *
  refine con_intro (fn := Tryz.f66) tok Tryz.func66 (by kernel_rfl) rfl ?_
  intro w0 X
  rw [entry_mkE _ _ [(0, AG (QC np wp nq wq)), (1, AG (QC na wa nb wb)), (2, AG (QC nc wc nd wd))] rfl rfl]
  refine AWP_reg_seq tok fun K hK => ?_
  refine s_box rfl rfl rfl rfl rfl rfl ?_
  refine s_box rfl rfl rfl rfl rfl rfl ?_
  refine s_box rfl rfl rfl rfl rfl rfl ?_
  refine s_alloc rfl rfl rfl rfl rfl rfl ?_
  refine s_alloc rfl rfl rfl rfl rfl rfl ?_
  refine s_end (hK _ ?_); clear hK K
  refine a_draw tok mixed (A := [[], [], [], [0], [], [], [2], []]) (an := [{}, {}, { c := [13] }, {}, { c := [13, 15] }, { c := [13, 15, 8] }, {}, {}]) rfl (by kernel_rfl) rfl fun K hK => ?_
  refine s_load rfl rfl rfl ?_
  refine s_call rfl rfl (hC ▸ r3Cos_c np nq wp wq hp hq (le_d lp rfl) (le_d lq rfl)) rfl rfl rfl rfl ?_
  refine s_load rfl rfl rfl ?_
  refine s_call rfl rfl (hS ▸ r3Sin_c np nq wp wq hp hq (le_d lp rfl) (le_d lq rfl)) rfl rfl rfl rfl ?_
  refine s_alloc rfl rfl rfl rfl rfl rfl ?_
  refine s_alloc rfl rfl rfl rfl rfl rfl ?_
  refine s_store rfl rfl rfl rfl rfl ?_
  refine s_store rfl rfl rfl rfl rfl ?_
  refine s_end (hK _ ?_); clear hK K
  refine a_draw tok mixed (A := [[], [], [], [], [], [0, 1], [0, 1, 3, 4], [], []]) (an := [{}, {}, {}, { c := [18] }, { c := [18] }, {}, {}, { c := [18, 21, 22] }, {}]) rfl (by kernel_rfl) rfl fun K hK => ?_
  refine s_load rfl rfl rfl ?_
  refine s_load rfl rfl rfl ?_
  refine s_call rfl rfl (r2Mul_q C x _ _ _ _ _ _ _ _ (wof_ok _) (wof_ok _) ha hb (le_d (ql_num_le c1) rfl) (le_d (ql_den_le c1) rfl) (le_d la rfl) (le_d lb rfl) (qv_QZ C) hx) rfl rfl rfl rfl ?_
  refine s_load rfl rfl rfl ?_
  refine s_load rfl rfl rfl ?_
  refine s_call rfl rfl (r2Mul_q S y _ _ _ _ _ _ _ _ (wof_ok _) (wof_ok _) hc hd (le_d (ql_num_le s1) rfl) (le_d (ql_den_le s1) rfl) (le_d lc rfl) (le_d ld rfl) (qv_QZ S) hy) rfl rfl rfl rfl ?_
  refine s_call rfl rfl (r2SubZ_c (C * x) (S * y) (le_d (ql_mul_le c1 x1) rfl) (le_d (ql_mul_le s1 y1) rfl)) rfl rfl rfl rfl ?_
  refine s_alloc rfl rfl rfl rfl rfl rfl ?_
  refine s_store rfl rfl rfl rfl rfl ?_
  refine s_end (hK _ ?_); clear hK K
  refine a_draw tok mixed (A := [[], [], [], [], [], [0, 1], [0, 1, 3, 4], [], []]) (an := [{}, {}, {}, { c := [25] }, { c := [25] }, {}, {}, { c := [25, 28, 29] }, {}]) rfl (by kernel_rfl) rfl fun K hK => ?_
  refine s_load rfl rfl rfl ?_
  refine s_load rfl rfl rfl ?_
  refine s_call rfl rfl (r2Mul_q S x _ _ _ _ _ _ _ _ (wof_ok _) (wof_ok _) ha hb (le_d (ql_num_le s1) rfl) (le_d (ql_den_le s1) rfl) (le_d la rfl) (le_d lb rfl) (qv_QZ S) hx) rfl rfl rfl rfl ?_
  refine s_load rfl rfl rfl ?_
  refine s_load rfl rfl rfl ?_
  refine s_call rfl rfl (r2Mul_q C y _ _ _ _ _ _ _ _ (wof_ok _) (wof_ok _) hc hd (le_d (ql_num_le c1) rfl) (le_d (ql_den_le c1) rfl) (le_d lc rfl) (le_d ld rfl) (qv_QZ C) hy) rfl rfl rfl rfl ?_
  refine s_call rfl rfl (r2AddZ_c (S * x) (C * y) (le_d (ql_mul_le s1 x1) rfl) (le_d (ql_mul_le c1 y1) rfl)) rfl rfl rfl rfl ?_
  refine s_alloc rfl rfl rfl rfl rfl rfl ?_
  refine s_store rfl rfl rfl rfl rfl ?_
  refine s_end (hK _ ?_); clear hK K
  refine a_draw tok mixed (A := [[], [], [], []]) (an := [{}, {}, { d := [11] }, {}]) rfl (by kernel_rfl) rfl fun K hK => ?_
  refine s_load rfl rfl rfl ?_
  refine s_load rfl rfl rfl ?_
  refine s_store rfl rfl rfl rfl rfl ?_
  refine s_store rfl rfl rfl rfl rfl ?_
  refine s_end (hK _ ?_); clear hK K
  refine AWP_ret ?_
  repeat (with_reducible refine tq_ret ?_)
  exact post_ret (fin_mk (by rfl) (by rfl) (by rfl))

end Go.Proofs.YtipenembpidoiaaGreatDoor

/- Data of the graph layer: rationals, rotations, links, positions as they stand. No condition. -/
namespace Go.Proofs.YtipenembpidoiaaGreatDoor

/-- Two integers as they stand: a rational (numerator, denominator) or a rotation (P, Q). -/
structure RW where
  np : Bool
  wp : List Nat
  nq : Bool
  wq : List Nat
  deriving DecidableEq
def RW.dc (r : RW) : List DC := [.lit (.bool r.np), dW r.wp, .lit (.bool r.nq), dW r.wq]
abbrev RW.cs (r : RW) : List SC := QC r.np r.wp r.nq r.wq
/-- Its words are words, at most k of each. -/
structure RW.OK (k : Nat) (r : RW) : Prop where
  op : wOK r.wp
  oq : wOK r.wq
  lp : r.wp.length ≤ k
  lq : r.wq.length ≤ k
def RW.p (r : RW) : Int := zv r.np r.wp
def RW.q (r : RW) : Int := zv r.nq r.wq
/-- The rational. -/
def RW.v (r : RW) : Rat := qv r.np r.wp r.nq r.wq
/-- Canonical ones. -/
def pzW (x y : Int) : RW := ⟨decide (x < 0), wof x.natAbs, decide (y < 0), wof y.natAbs⟩
def qzW (q : Rat) : RW := pzW q.num q.den
theorem pzW_p (x y : Int) : (pzW x y).p = x := zv_ZC x
theorem pzW_q (x y : Int) : (pzW x y).q = y := zv_ZC y
theorem qzW_v (q : Rat) : (qzW q).v = q := qv_QZ q
theorem pzW_ok {x y : Int} {k : Nat} (hx : zl x ≤ k) (hy : zl y ≤ k) : (pzW x y).OK k := ⟨wof_ok _, wof_ok _, hx, hy⟩
theorem qzW_ok {q : Rat} {k : Nat} (h : ql q ≤ k) : (qzW q).OK k := pzW_ok (ql_num_le h) (ql_den_le h)
theorem RW.OK.mono {r : RW} {k m : Nat} (h : r.OK k) (hk : Nat.ble k m = true) : r.OK m := ⟨h.op, h.oq, le_d h.lp hk, le_d h.lq hk⟩
theorem RW.OK.ql {r : RW} {k : Nat} (h : r.OK k) (hk : Nat.ble 1 k = true) : ql r.v ≤ k := ql_qv h.op h.oq h.lp h.lq (Nat.le_of_ble_eq_true hk)

/-- Links. -/
structure LK where
  f : Int
  t : Int
  x : Int
  y : Int
  w : Int
  deriving DecidableEq
def LK.dc (l : LK) : List DC := [lI l.f, lI l.t, lI l.x, lI l.y, lI l.w]
/-- Positions. -/
structure SP where
  x : RW
  y : RW
  deriving DecidableEq
def SP.dc (s : SP) : List DC := [.lit (.bool s.x.np), dW s.x.wp, .lit (.bool s.x.nq), dW s.x.wq, .lit (.bool s.y.np), dW s.y.wp, .lit (.bool s.y.nq), dW s.y.wq]
def SP.cs (s : SP) : List SC := [.d (.lit (.bool s.x.np)), .d (dW s.x.wp), .d (.lit (.bool s.x.nq)), .d (dW s.x.wq), .d (.lit (.bool s.y.np)), .d (dW s.y.wp), .d (.lit (.bool s.y.nq)), .d (dW s.y.wq)]
/-- Points. -/
structure PT where
  x : Int
  y : Int
  deriving DecidableEq
def PT.dc (p : PT) : List DC := [lI p.x, lI p.y]
/-- Lists. -/
def dRs (l : List RW) : DC := .sl (l.map RW.dc)
def dLs (l : List LK) : DC := .sl (l.map LK.dc)
def dSs (l : List SP) : DC := .sl (l.map SP.dc)
def dPs (l : List PT) : DC := .sl (l.map PT.dc)
def cI (n : Int) : List DC := [lI n]
def dIs (l : List Int) : DC := .sl (l.map cI)
def cM (l : List RW) : List DC := [dRs l]
def dMs (m : List (List RW)) : DC := .sl (m.map cM)
/-- A graph. -/
structure GR where
  nodes : List RW
  links : List LK
def GR.cs (g : GR) : List SC := [.d (dRs g.nodes), .d (dLs g.links)]

section
variable {T : Tab} {t e : TypeId} {ti ei : TI} {α : Type}
theorem x_m {k : IntKind} {n : Int} {i : Nat} {l : List α} (f : α → List DC) (h1 : T t = some ti) (h2 : ti.und = .slice e) (h3 : T e = some ei) (hn : n = (i : Int)) (hi : i < l.length) (hl : (f l[i]).length = ei.size) :
    effIndexAddr T t (V1 (.sl (l.map f))) (V1 (.lit (.int k n))) = .set (.pd (f l[i])) :=
  x_d h1 h2 h3 hn (by rw [List.getElem?_map, List.getElem?_eq_getElem hi]; rfl) hl
theorem len_m {S : Objs} {l : List α} (f : α → List DC) (h1 : T t = some ti) (h2 : ti.und = .slice e) : effCall T ⟨[], S, []⟩ (.builtin .len) [V1 (.sl (l.map f))] [t] = .set (dI l.length) :=
  len_d h1 h2 (by simp)
end
theorem take_eq_succ {α : Type} {a b : List α} {i : Nat} (ha : i < a.length) (hb : i < b.length) (h : a.take i = b.take i) (he : a[i] = b[i]) : a.take (i + 1) = b.take (i + 1) := by
  rw [List.take_succ_eq_append_getElem ha, List.take_succ_eq_append_getElem hb, h, he]
theorem take_eq_all {α : Type} {a b : List α} (hl : a.length = b.length) (h : a.take a.length = b.take a.length) : a = b := by
  rwa [List.take_of_length_le (Nat.le_refl _), List.take_of_length_le (by omega)] at h
theorem ne_of_get {α : Type} {a b : List α} {i : Nat} (ha : i < a.length) (hb : i < b.length) (he : a[i] ≠ b[i]) : a ≠ b := by
  intro h; subst h; exact he rfl
end Go.Proofs.YtipenembpidoiaaGreatDoor

/- What is read at this program's types. No condition. -/
namespace Go.Proofs.YtipenembpidoiaaGreatDoor
open Go.RowKit

/-- Words are words. -/
def RW.W (r : RW) : Prop := wOK r.wp ∧ wOK r.wq
def SP.W (s : SP) : Prop := s.x.W ∧ s.y.W
def LK.I (l : LK) : Prop := I64 l.f ∧ I64 l.t ∧ I64 l.x ∧ I64 l.y ∧ I64 l.w
def PT.I (p : PT) : Prop := I64 p.x ∧ I64 p.y

theorem wf_i64 {n : Int} (h : (Lit.int .i64 n).wf = true) : I64 n := by
  simp [Lit.wf, IntKind.min, IntKind.max, IntKind.signed, IntKind.bits] at h
  exact ⟨by omega, by omega⟩
theorem wf_u32 {n : Int} (h : (Lit.int .u32 n).wf = true) : ∃ x : Nat, n = x ∧ x < 4294967296 := by
  simp [Lit.wf, IntKind.min, IntKind.max, IntKind.signed, IntKind.bits] at h
  exact ⟨n.toNat, by omega, by omega⟩
theorem wf_u8 {n : Int} (h : (Lit.int .u8 n).wf = true) : ∃ x : Nat, n = x ∧ x < 256 := by
  simp [Lit.wf, IntKind.min, IntKind.max, IntKind.signed, IntKind.bits] at h
  exact ⟨n.toNat, by omega, by omega⟩
theorem wf_u64 {n : Int} (h : (Lit.int .u64 n).wf = true) : ∃ x : Nat, n = x ∧ x < 18446744073709551616 := by
  simp [Lit.wf, IntKind.min, IntKind.max, IntKind.signed, IntKind.bits] at h
  exact ⟨n.toNat, by omega, by omega⟩

section
variable {w : World}
abbrev QI : List DC → Prop := fun ds => ∃ n, I64 n ∧ ds = [lI n]
theorem rd_I : Reads Tryz.prog w 3 QI := (rd_int tok rfl rfl).mono fun ds ⟨n, h, e⟩ => ⟨n, wf_i64 h, e⟩
theorem rd_W : Reads Tryz.prog w 22 (fun ds => ∃ ws : List Nat, wOK ws ∧ ds = [dW ws]) := by
  have h1 : Reads Tryz.prog w 58 (fun ds => ∃ x : Nat, x < 4294967296 ∧ ds = cW x) := (rd_int tok rfl rfl).mono fun ds ⟨n, h, e⟩ => by
    obtain ⟨x, rfl, hx⟩ := wf_u32 h
    exact ⟨x, hx, e⟩
  exact (rd_slice cW (fun x => x < 4294967296) tok rfl rfl rfl rfl h1).mono fun ds ⟨l, h, e⟩ => ⟨l, h, e⟩
abbrev QZ' : List DC → Prop := fun ds => ∃ (b : Bool) (ws : List Nat), wOK ws ∧ ds = [.lit (.bool b), dW ws]
theorem rd_Z : Reads Tryz.prog w 24 QZ' := by
  refine (rd_struct (qs := [fun ds => ∃ b, ds = [.lit (.bool b)], fun ds => ∃ ws : List Nat, wOK ws ∧ ds = [dW ws]]) tok rfl rfl rfl rfl ?_).mono fun ds h => ?_
  · exact ⟨rfl, rd_bool tok rfl rfl, _, rfl, rfl, rd_W, _, rfl, trivial⟩
  · obtain ⟨a, b, e, ⟨n, h1⟩, c, d, e', ⟨ws, hw, h2⟩, h3⟩ := h
    have h3 : d = [] := h3
    subst e e' h1 h2 h3
    exact ⟨n, ws, hw, rfl⟩
abbrev QR : List DC → Prop := fun ds => ∃ r : RW, r.W ∧ ds = r.dc
theorem rw_of : ∀ ds, QFs [QZ', QZ'] ds → QR ds := fun ds ⟨a, b, e, ⟨n, ws, hw, h1⟩, c, d, e', ⟨m, vs, hv, h2⟩, h3⟩ => by
    have h3 : d = [] := h3
    subst e e' h1 h2 h3
    exact ⟨⟨n, ws, m, vs⟩, ⟨hw, hv⟩, rfl⟩

theorem rd_Rot : Reads Tryz.prog w 26 QR := by
  refine (rd_struct (qs := [QZ', QZ']) tok rfl rfl rfl rfl ?_).mono rw_of
  exact ⟨rfl, rd_Z, _, rfl, rfl, rd_Z, _, rfl, trivial⟩

theorem rd_Q : Reads Tryz.prog w 34 QR := by
  refine (rd_struct (qs := [QZ', QZ']) tok rfl rfl rfl rfl ?_).mono rw_of
  exact ⟨rfl, rd_Z, _, rfl, rfl, rd_Z, _, rfl, trivial⟩
abbrev QS : List DC → Prop := fun ds => ∃ s : SP, s.W ∧ ds = s.dc

theorem rd_S : Reads Tryz.prog w 39 QS := by
  refine (rd_struct (qs := [QR, QR]) tok rfl rfl rfl rfl ?_).mono fun ds h => ?_
  · exact ⟨rfl, rd_Q, _, rfl, rfl, rd_Q, _, rfl, trivial⟩
  · obtain ⟨a, b, e, ⟨x, hx, h1⟩, c, d, e', ⟨y, hy, h2⟩, h3⟩ := h
    have h3 : d = [] := h3
    subst e e' h1 h2 h3
    exact ⟨⟨x, y⟩, ⟨hx, hy⟩, rfl⟩

/-- Transforms. -/
structure TR where
  r : RW
  x : RW
  y : RW
  deriving DecidableEq
def TR.dc (t : TR) : List DC := t.r.dc ++ (t.x.dc ++ t.y.dc)
def TR.cs (t : TR) : List SC := [.d (.lit (.bool t.r.np)), .d (dW t.r.wp), .d (.lit (.bool t.r.nq)), .d (dW t.r.wq), .d (.lit (.bool t.x.np)), .d (dW t.x.wp), .d (.lit (.bool t.x.nq)), .d (dW t.x.wq), .d (.lit (.bool t.y.np)), .d (dW t.y.wp), .d (.lit (.bool t.y.nq)), .d (dW t.y.wq)]
def TR.W (t : TR) : Prop := t.r.W ∧ t.x.W ∧ t.y.W
abbrev QT : List DC → Prop := fun ds => ∃ t : TR, t.W ∧ ds = t.dc

theorem rd_T : Reads Tryz.prog w 37 QT := by
  refine (rd_struct (qs := [QR, QR, QR]) tok rfl rfl rfl rfl ?_).mono fun ds h => ?_
  · exact ⟨rfl, rd_Rot, _, rfl, rfl, rd_Q, _, rfl, rfl, rd_Q, _, rfl, trivial⟩
  · obtain ⟨a, b, e, ⟨x, hx, h1⟩, c, d, e', ⟨y, hy, h2⟩, u, v, e2, ⟨z, hz, h4⟩, h3⟩ := h
    have h3 : v = [] := h3
    subst e e' e2 h1 h2 h4 h3
    exact ⟨⟨x, y, z⟩, ⟨hx, hy, hz⟩, by simp [TR.dc]⟩

abbrev QP : List DC → Prop := fun ds => ∃ p : PT, p.I ∧ ds = p.dc

abbrev QL : List DC → Prop := fun ds => ∃ l : LK, l.I ∧ ds = l.dc

def GR.W (g : GR) : Prop := (∀ r ∈ g.nodes, r.W) ∧ ∀ l ∈ g.links, l.I

end

section
variable {w : World} {H : Type} {enc : TypeId × Value → H} {sp : Nat → Bool} {v : Value} {d : DataW H} {ps : List MemPlace} {base : Nat}

set_option maxRecDepth 100000 in
theorem arg_S (hv : Value.okWide Tryz.prog w .any base 39 v) (hd : DataW.Trod enc Tryz.prog w 0 sp true 39 v d ps) : ∃ s : SP, s.W ∧ RelV w (fun _ => False) (fun _ => 0) v (AG s.cs) := by
  obtain ⟨ti, fs, a, b⟩ : ∃ ti fs, tab.ty 39 = some ti ∧ ti.und = .struct fs := ⟨_, _, rfl, rfl⟩
  obtain ⟨ds, ⟨g, hg, rfl⟩, hr⟩ := arg_agg tok a b rd_S hv hd (fun _ => 0)
  exact ⟨g, hg, hr⟩

set_option maxRecDepth 100000 in
theorem arg_I (hv : Value.okWide Tryz.prog w .any base 3 v) (hd : DataW.Trod enc Tryz.prog w 0 sp true 3 v d ps) : ∃ n : Int, I64 n ∧ RelV w (fun _ => False) (fun _ => 0) v (dI n) := by
  obtain ⟨ti, a, b⟩ : ∃ ti, tab.ty 3 = some ti ∧ ti.und = .int .i64 := ⟨_, rfl, rfl⟩
  obtain ⟨n, h1, h2⟩ := arg_int tok a b hv hd (fun _ => 0)
  exact ⟨n, wf_i64 h1, h2⟩

set_option maxRecDepth 100000 in
theorem arg_u8 (hv : Value.okWide Tryz.prog w .any base 5 v) (hd : DataW.Trod enc Tryz.prog w 0 sp true 5 v d ps) : ∃ n : Nat, n < 256 ∧ RelV w (fun _ => False) (fun _ => 0) v (V1 (.lit (.int .u8 n))) := by
  obtain ⟨ti, a, b⟩ : ∃ ti, tab.ty 5 = some ti ∧ ti.und = .int .u8 := ⟨_, rfl, rfl⟩
  obtain ⟨n, h1, h2⟩ := arg_int tok a b hv hd (fun _ => 0)
  obtain ⟨x, rfl, hx⟩ := wf_u8 h1
  exact ⟨x, hx, h2⟩

set_option maxRecDepth 100000 in
theorem arg_R (hv : Value.okWide Tryz.prog w .any base 26 v) (hd : DataW.Trod enc Tryz.prog w 0 sp true 26 v d ps) : ∃ r : RW, r.W ∧ RelV w (fun _ => False) (fun _ => 0) v (AG r.cs) := by
  obtain ⟨ti, fs, a, b⟩ : ∃ ti fs, tab.ty 26 = some ti ∧ ti.und = .struct fs := ⟨_, _, rfl, rfl⟩
  obtain ⟨ds, ⟨g, hg, rfl⟩, hr⟩ := arg_agg tok a b rd_Rot hv hd (fun _ => 0)
  exact ⟨g, hg, hr⟩

set_option maxRecDepth 100000 in
theorem arg_T (hv : Value.okWide Tryz.prog w .any base 37 v) (hd : DataW.Trod enc Tryz.prog w 0 sp true 37 v d ps) : ∃ r : TR, r.W ∧ RelV w (fun _ => False) (fun _ => 0) v (AG r.cs) := by
  obtain ⟨ti, fs, a, b⟩ : ∃ ti fs, tab.ty 37 = some ti ∧ ti.und = .struct fs := ⟨_, _, rfl, rfl⟩
  obtain ⟨ds, ⟨g, hg, rfl⟩, hr⟩ := arg_agg tok a b rd_T hv hd (fun _ => 0)
  exact ⟨g, hg, hr⟩

set_option maxRecDepth 100000 in
theorem arg_u64L {T64 : TypeId} (ti : TI) (a : tab.ty T64 = some ti) (b : ti.und = .int .u64) (hv : Value.okWide Tryz.prog w .any base T64 v) (hd : DataW.Trod enc Tryz.prog w 0 sp true T64 v d ps) : ∃ n : Nat, n < 18446744073709551616 ∧ RelV w (fun _ => False) (fun _ => 0) v (V1 (.lit (.int .u64 n))) := by
  obtain ⟨n, h1, h2⟩ := arg_int tok a b hv hd (fun _ => 0)
  obtain ⟨x, rfl, hx⟩ := wf_u64 h1
  exact ⟨x, hx, h2⟩
end
/-- The arguments one by one. -/
theorem args1 {vs : List Value} {xs : List SV} {w : World} (h1 : vs.length = xs.length) (h : ∀ (i : Nat) (v : Value) (a : SV), vs[i]? = some v → xs[i]? = some a → RelV w (fun _ => False) (fun _ => 0) v a) :
    vs.length = xs.length ∧ ∀ (i : Nat) (x : SV), xs[i]? = some x → ∃ v, vs[i]? = some v ∧ RelV w (fun _ => False) (fun _ => 0) v x :=
  ⟨h1, fun i x hx => by
    have hi : i < vs.length := by rw [h1]; exact (List.getElem?_eq_some_iff.1 hx).1
    exact ⟨vs[i], List.getElem?_eq_getElem hi, h i _ _ (List.getElem?_eq_getElem hi) hx⟩⟩
end Go.Proofs.YtipenembpidoiaaGreatDoor

/- Comparisons of the base package; sizes of numbers. No condition. -/
namespace Go.Proofs.YtipenembpidoiaaGreatDoor
attribute [local irreducible] lexA

theorem bInt_c (na nb : Bool) (wa wb : List Nat) (la : wa.length ≤ 9223372036854775806) : Con Tryz.prog 47 [AG (IC na wa), AG (IC nb wb)] { v := dB (decide (na = nb ∧ wa = wb)) } := by
  refine con_intro (fn := Tryz.f47) tok Tryz.func47 (by kernel_rfl) rfl ?_
  intro w0 X
  rw [entry_mkE _ _ [(0, AG (IC na wa)), (1, AG (IC nb wb))] rfl rfl]
  refine AWP_reg_seq tok fun K hK => ?_
  refine s_box rfl rfl rfl rfl rfl rfl ?_
  refine s_box rfl rfl rfl rfl rfl rfl ?_
  refine s_assign rfl rfl rfl ?_
  refine s_end (hK _ ?_); clear hK K
  refine AWP_seq ?_
  refine a_join (α := Bool) (fun c => mk 38 [(2, .ptr 2 0), (3, .ptr 3 0), (19, dB c)] [(2, some (.box (IC na wa))), (3, some (.box (IC nb wb)))] []) (fun c => (c = true → ¬ (na = nb ∧ wa = wb)) ∧ (c = false → na = nb ∧ wa.length = wb.length)) ?_ ?_
  · refine AWP_reg tok fun K hK => ?_
    refine s_fieldAddr rfl rfl rfl ?_
    refine s_load rfl rfl rfl ?_
    refine s_fieldAddr rfl rfl rfl ?_
    refine s_load rfl rfl rfl ?_
    refine s_bin rfl rfl rfl ?_
    refine s_move rfl rfl rfl ?_
    refine s_split (fun h => ?_) (fun h => ?_)
    · have h : na ≠ nb := by simpa using h
      refine s_skip rfl ?_
      refine s_skip rfl ?_
      refine s_skip rfl ?_
      refine s_skip rfl ?_
      refine s_skip rfl ?_
      refine s_skip rfl ?_
      refine s_skip rfl ?_
      refine s_pick rfl rfl rfl ?_
      refine s_end (hK _ ?_); clear hK K
      exact ⟨true, ⟨fun _ h' => h h'.1, fun h => (by cases h)⟩, Wk.mk' ⟨rfl, rfl, rfl, trivial⟩ ⟨rfl, rfl, trivial⟩⟩
    · have h : na = nb := by simpa using h
      refine s_fieldAddr rfl rfl rfl ?_
      refine s_load rfl rfl rfl ?_
      refine s_blt rfl (len_w rfl rfl rfl) rfl ?_
      refine s_fieldAddr rfl rfl rfl ?_
      refine s_load rfl rfl rfl ?_
      refine s_blt rfl (len_w rfl rfl rfl) rfl ?_
      refine s_bin rfl rfl rfl ?_
      refine s_pick rfl rfl rfl ?_
      refine s_end (hK _ ?_); clear hK K
      refine ⟨_, ⟨fun h' h2 => ?_, fun h' => ⟨h, ?_⟩⟩, Wk.mk' ⟨rfl, rfl, rfl, trivial⟩ ⟨rfl, rfl, trivial⟩⟩
      · rw [h2.2] at h'; simp at h'
      · simp at h'; omega
  rintro c ⟨k1, k2⟩
  refine a_cond rfl (fun hc => ?_) (fun hc => ?_)
  · refine AWP_reg_seq tok fun K hK => ?_
    refine s_assign rfl rfl rfl ?_
    refine s_end (hK _ ?_); clear hK K
    refine AWP_ret ?_
    repeat (with_reducible refine tq_ret ?_)
    exact post_ret (fin_mk (by rfl) (by rfl) (by rw [decide_eq_false (k1 hc)]; rfl))
  obtain ⟨hn, hl⟩ := k2 hc
  refine AWP_skip ?_
  show AWP _ _ _ _ _ _
  refine AWP_seq ?_
  refine AWP_reg_seq tok fun K hK => ?_
  refine s_assign rfl rfl rfl ?_
  refine s_end (hK _ ?_); clear hK K
  refine AWP_block (a_loop (α := Nat) (fun i => mk 38 [(2, .ptr 2 0), (3, .ptr 3 0), (5, dI i)] [(2, some (.box (IC na wa))), (3, some (.box (IC nb wb)))] []) (fun i => i ≤ wa.length ∧ wa.take i = wb.take i) (fun i => wa.length - i) 0 ?_ ⟨Nat.zero_le _, rfl⟩ ?_)
  · exact Wk.mk' ⟨rfl, rfl, rfl, trivial⟩ ⟨rfl, rfl, trivial⟩
  rintro i ⟨hi, ht⟩
  refine AWP_seq ?_
  refine AWP_reg_seq tok fun K hK => ?_
  refine s_move rfl rfl rfl ?_
  refine s_fieldAddr rfl rfl rfl ?_
  refine s_load rfl rfl rfl ?_
  refine s_blt rfl (len_w rfl rfl rfl) rfl ?_
  refine s_bin rfl rfl rfl ?_
  refine s_end (hK _ ?_); clear hK K
  refine a_cond rfl (fun hg => ?_) (fun hg => ?_)
  · have hg : i < wa.length := by simp at hg; omega
    have hg' : i < wb.length := by omega
    refine AWP_skip ?_
    show AWP _ _ _ _ _ _
    refine AWP_seq ?_
    refine AWP_block ?_
    refine a_draw tok mixed (A := [[], [], [], [0], [0, 1, 2], [], [], [], [5], [5, 6, 7], [0, 1, 2, 3, 5, 6, 7, 8]]) (an := [{}, {}, {}, {}, {}, {}, {}, {}, {}, {}, {}]) rfl (by kernel_rfl) rfl fun K hK => ?_
    refine s_fieldAddr rfl rfl rfl ?_
    refine s_load rfl rfl rfl ?_
    refine s_move rfl rfl rfl ?_
    refine s_indexAddr rfl (x_w (i := i) rfl rfl rfl rfl rfl hg) rfl ?_
    refine s_load rfl rfl rfl ?_
    refine s_fieldAddr rfl rfl rfl ?_
    refine s_load rfl rfl rfl ?_
    refine s_move rfl rfl rfl ?_
    refine s_indexAddr rfl (x_w (i := i) rfl rfl rfl rfl rfl hg') rfl ?_
    refine s_load rfl rfl rfl ?_
    refine s_bin rfl rfl rfl ?_
    refine s_end (hK _ ?_); clear hK K
    refine a_cond rfl (fun hd => ?_) (fun hd => ?_)
    · have hd : wa[i] ≠ wb[i] := by simp at hd; omega
      refine AWP_reg_seq tok fun K hK => ?_
      refine s_assign rfl rfl rfl ?_
      refine s_end (hK _ ?_); clear hK K
      refine AWP_ret ?_
      repeat (with_reducible refine tq_ret ?_)
      exact post_ret (fin_mk (by rfl) (by rfl) (by rw [decide_eq_false (fun h' => ne_of_get hg hg' hd h'.2)]; rfl))
    · have hd : wa[i] = wb[i] := by simp at hd; omega
      refine AWP_skip ?_
      show AWP _ _ _ _ _ _
      refine AWP_reg tok fun K hK => ?_
      refine s_move rfl rfl rfl ?_
      refine s_bin rfl (e_add (c := ((i + 1 : Nat) : Int)) (by omega) (by omega)) rfl ?_
      refine s_assign rfl rfl rfl ?_
      refine s_end (hK _ ?_); clear hK K
      exact ⟨i + 1, by omega, ⟨hg, take_eq_succ hg hg' ht hd⟩, Wk.mk' ⟨rfl, rfl, rfl, trivial⟩ ⟨rfl, rfl, trivial⟩⟩
  · have hg : i = wa.length := by simp at hg; omega
    subst hg
    refine AWP_exit ?_
    show AWP _ _ _ _ _ _
    refine AWP_reg_seq tok fun K hK => ?_
    refine s_assign rfl rfl rfl ?_
    refine s_end (hK _ ?_); clear hK K
    refine AWP_ret ?_
    repeat (with_reducible refine tq_ret ?_)
    exact post_ret (fin_mk (by rfl) (by rfl) (by rw [decide_eq_true ⟨hn, take_eq_all hl ht⟩]; rfl))

theorem RW.eq_iff (a b : RW) : decide (a = b) = (decide (a.np = b.np ∧ a.wp = b.wp) && decide (a.nq = b.nq ∧ a.wq = b.wq)) := by
  obtain ⟨a1, a2, a3, a4⟩ := a
  obtain ⟨b1, b2, b3, b4⟩ := b
  rw [Bool.eq_iff_iff]
  simp [RW.mk.injEq, and_assoc]
theorem bRat_c (a b : RW) (la : a.wp.length ≤ 9223372036854775806) (lb : a.wq.length ≤ 9223372036854775806) : Con Tryz.prog 17 [AG a.cs, AG b.cs] { v := dB (decide (a = b)) } := by
  rw [RW.eq_iff]
  refine con_intro (fn := Tryz.f17) tok Tryz.func17 (by kernel_rfl) rfl ?_
  intro w0 X
  rw [entry_mkE _ _ [(0, AG a.cs), (1, AG b.cs)] rfl rfl]
  refine AWP_reg_seq tok fun K hK => ?_
  refine s_box rfl rfl rfl rfl rfl rfl ?_
  refine s_box rfl rfl rfl rfl rfl rfl ?_
  refine s_assign rfl rfl rfl ?_
  refine s_end (hK _ ?_); clear hK K
  refine AWP_reg_seq tok fun K hK => ?_
  refine s_fieldAddr rfl rfl rfl ?_
  refine s_load rfl rfl rfl ?_
  refine s_fieldAddr rfl rfl rfl ?_
  refine s_load rfl rfl rfl ?_
  refine s_call rfl rfl (bInt_c a.np b.np a.wp b.wp la) rfl rfl rfl rfl ?_
  refine s_move rfl rfl rfl ?_
  refine s_split (fun h => ?_) (fun h => ?_)
  · refine s_fieldAddr rfl rfl rfl ?_
    refine s_load rfl rfl rfl ?_
    refine s_fieldAddr rfl rfl rfl ?_
    refine s_load rfl rfl rfl ?_
    refine s_call rfl rfl (bInt_c a.nq b.nq a.wq b.wq lb) rfl rfl rfl rfl ?_
    refine s_pick rfl rfl rfl ?_
    refine s_assign rfl rfl rfl ?_
    refine s_end (hK _ ?_); clear hK K
    refine AWP_ret ?_
    repeat (with_reducible refine tq_ret ?_)
    exact post_ret (fin_mk (by rfl) (by rfl) (by rw [h, Bool.true_and]; rfl))
  · refine s_skip rfl ?_
    refine s_skip rfl ?_
    refine s_skip rfl ?_
    refine s_skip rfl ?_
    refine s_skip rfl ?_
    refine s_pick rfl rfl rfl ?_
    refine s_assign rfl rfl rfl ?_
    refine s_end (hK _ ?_); clear hK K
    refine AWP_ret ?_
    repeat (with_reducible refine tq_ret ?_)
    exact post_ret (fin_mk (by rfl) (by rfl) (by rw [h, Bool.false_and]; rfl))

theorem bRot_c (a b : RW) (la : a.wp.length ≤ 9223372036854775806) (lb : a.wq.length ≤ 9223372036854775806) : Con Tryz.prog 8 [AG a.cs, AG b.cs] { v := dB (decide (a = b)) } := by
  rw [RW.eq_iff]
  refine con_intro (fn := Tryz.f8) tok Tryz.func8 (by kernel_rfl) rfl ?_
  intro w0 X
  rw [entry_mkE _ _ [(0, AG a.cs), (1, AG b.cs)] rfl rfl]
  refine AWP_reg_seq tok fun K hK => ?_
  refine s_box rfl rfl rfl rfl rfl rfl ?_
  refine s_box rfl rfl rfl rfl rfl rfl ?_
  refine s_assign rfl rfl rfl ?_
  refine s_end (hK _ ?_); clear hK K
  refine AWP_reg_seq tok fun K hK => ?_
  refine s_fieldAddr rfl rfl rfl ?_
  refine s_load rfl rfl rfl ?_
  refine s_fieldAddr rfl rfl rfl ?_
  refine s_load rfl rfl rfl ?_
  refine s_call rfl rfl (bInt_c a.np b.np a.wp b.wp la) rfl rfl rfl rfl ?_
  refine s_move rfl rfl rfl ?_
  refine s_split (fun h => ?_) (fun h => ?_)
  · refine s_fieldAddr rfl rfl rfl ?_
    refine s_load rfl rfl rfl ?_
    refine s_fieldAddr rfl rfl rfl ?_
    refine s_load rfl rfl rfl ?_
    refine s_call rfl rfl (bInt_c a.nq b.nq a.wq b.wq lb) rfl rfl rfl rfl ?_
    refine s_pick rfl rfl rfl ?_
    refine s_assign rfl rfl rfl ?_
    refine s_end (hK _ ?_); clear hK K
    refine AWP_ret ?_
    repeat (with_reducible refine tq_ret ?_)
    exact post_ret (fin_mk (by rfl) (by rfl) (by rw [h, Bool.true_and]; rfl))
  · refine s_skip rfl ?_
    refine s_skip rfl ?_
    refine s_skip rfl ?_
    refine s_skip rfl ?_
    refine s_skip rfl ?_
    refine s_pick rfl rfl rfl ?_
    refine s_assign rfl rfl rfl ?_
    refine s_end (hK _ ?_); clear hK K
    refine AWP_ret ?_
    repeat (with_reducible refine tq_ret ?_)
    exact post_ret (fin_mk (by rfl) (by rfl) (by rw [h, Bool.false_and]; rfl))

/-- Few words. -/
def SP.small (s : SP) : Prop := (s.x.wp.length ≤ 9223372036854775806 ∧ s.x.wq.length ≤ 9223372036854775806) ∧ (s.y.wp.length ≤ 9223372036854775806 ∧ s.y.wq.length ≤ 9223372036854775806)
theorem SP.eq_iff (a b : SP) : a = b ↔ a.x = b.x ∧ a.y = b.y := by
  obtain ⟨a1, a2⟩ := a
  obtain ⟨b1, b2⟩ := b
  simp [SP.mk.injEq]

theorem bSize_c (n m : Int) (hm : -9223372036854775808 < m ∧ m ≤ 9223372036854775807) : Con Tryz.prog 74 [dI n, dI m] { v := dB (decide (-m ≤ n ∧ n ≤ m)) } := by
  have hw : IntKind.i64.wrap (0 - m) = -m := by rw [IntWalk.i64_in _ (by omega)]; omega
  refine con_intro (fn := Tryz.f74) tok Tryz.func74 (by kernel_rfl) rfl ?_
  intro w0 X
  rw [entry_mkE _ _ [(0, dI n), (1, dI m)] rfl rfl]
  refine AWP_reg_seq tok fun K hK => ?_
  refine s_assign rfl rfl rfl ?_
  refine s_end (hK _ ?_); clear hK K
  refine AWP_reg_seq tok fun K hK => ?_
  refine s_move rfl rfl rfl ?_
  refine s_move rfl rfl rfl ?_
  refine s_un rfl rfl rfl ?_
  refine s_bin rfl rfl rfl ?_
  refine s_move rfl rfl rfl ?_
  refine s_split (fun h => ?_) (fun h => ?_)
  · have h : -m ≤ n := by have := of_decide_eq_true h; rw [hw] at this; exact this
    refine s_move rfl rfl rfl ?_
    refine s_move rfl rfl rfl ?_
    refine s_bin rfl rfl rfl ?_
    refine s_pick rfl rfl rfl ?_
    refine s_assign rfl rfl rfl ?_
    refine s_end (hK _ ?_); clear hK K
    refine AWP_ret ?_
    repeat (with_reducible refine tq_ret ?_)
    exact post_ret (fin_mk (by rfl) (by rfl) (by rw [show decide (-m ≤ n ∧ n ≤ m) = decide (n ≤ m) from decide_eq_decide.2 ⟨fun k => k.2, fun k => ⟨h, k⟩⟩]; rfl))
  · have h : ¬ -m ≤ n := by have := of_decide_eq_false h; rw [hw] at this; exact this
    refine s_skip rfl ?_
    refine s_skip rfl ?_
    refine s_skip rfl ?_
    refine s_pick rfl rfl rfl ?_
    refine s_assign rfl rfl rfl ?_
    refine s_end (hK _ ?_); clear hK K
    refine AWP_ret ?_
    repeat (with_reducible refine tq_ret ?_)
    exact post_ret (fin_mk (by rfl) (by rfl) (by rw [decide_eq_false (fun k => h k.1)]; rfl))
end Go.Proofs.YtipenembpidoiaaGreatDoor

/- Rotations and transforms over what stands in the cells. No condition. -/
namespace Go.Proofs.YtipenembpidoiaaGreatDoor
attribute [local irreducible] lexA

def pz2 (a : Int × Int) : RW := pzW a.1 a.2
/-- The canonical pair. -/
def RW.cn (r : RW) : Int × Int := gc (r.p, r.q)
theorem RW.cn_nz (r : RW) : nz r.cn := gc_nz _
theorem RW.cn_Cn (r : RW) : Cn2 r.cn := gc_Cn _
theorem RW.cn_gc (r : RW) : gc r.cn = r.cn := gc_idem _
theorem pz2_cn (a : Int × Int) : (pz2 a).cn = gc a := by unfold RW.cn pz2; rw [pzW_p, pzW_q]
theorem gc_zl {a : Int × Int} {k : Nat} (hk : 1 ≤ k) (h : zl a.1 ≤ k ∧ zl a.2 ≤ k) : zl (gc a).1 ≤ k ∧ zl (gc a).2 ≤ k :=
  ⟨zl_rP_le (Nat.ble_eq_true_of_le hk) h.1, zl_rQ_le (Nat.ble_eq_true_of_le hk) h.2⟩
theorem RW.OK.cn {r : RW} {k : Nat} (ok : r.OK k) (hk : 1 ≤ k) : zl r.cn.1 ≤ k ∧ zl r.cn.2 ≤ k := gc_zl hk ⟨zl_zv ok.op ok.lp, zl_zv ok.oq ok.lq⟩
theorem pz2_ok {a : Int × Int} {k : Nat} (h : zl a.1 ≤ k ∧ zl a.2 ≤ k) : (pz2 a).OK k := pzW_ok h.1 h.2
theorem zl_gm {a b : Int × Int} {k l m : Nat} (ha : zl a.1 ≤ k ∧ zl a.2 ≤ k) (hb : zl b.1 ≤ l ∧ zl b.2 ≤ l) (hm : k + l + 1 ≤ m) : zl (gc (gm a b)).1 ≤ m ∧ zl (gc (gm a b)).2 ≤ m :=
  gc_zl (by omega) ⟨Nat.le_trans (zl_add_le (zl_mul_le ha.2 hb.1) (zl_mul_le ha.1 hb.2)) hm, Nat.le_trans (zl_sub_le (zl_mul_le ha.2 hb.2) (zl_mul_le ha.1 hb.1)) hm⟩
theorem zl_inv2 {a : Int × Int} {k : Nat} (hk : 1 ≤ k) (ha : zl a.1 ≤ k ∧ zl a.2 ≤ k) : zl (inv2 a).1 ≤ k ∧ zl (inv2 a).2 ≤ k :=
  gc_zl hk ⟨by show zl (-a.1) ≤ k; rw [zl_neg]; exact ha.1, ha.2⟩
theorem zl_pw {a : Int × Int} {k : Nat} (ha : zl a.1 ≤ k ∧ zl a.2 ≤ k) : ∀ n, zl (pw a n).1 ≤ n * (k + 1) + 1 ∧ zl (pw a n).2 ≤ n * (k + 1) + 1
  | 0 => ⟨by show zl 0 ≤ _; exact Nat.le_trans (by decide : zl 0 ≤ 1) (Nat.le_add_left 1 _), by show zl 1 ≤ _; exact Nat.le_trans (by decide : zl 1 ≤ 1) (Nat.le_add_left 1 _)⟩
  | n + 1 => zl_gm (zl_pw ha n) ha (by rw [Nat.succ_mul]; omega)
theorem zl_pwZ {a : Int × Int} {k n : Nat} {z : Int} (hk : 1 ≤ k) (ha : zl a.1 ≤ k ∧ zl a.2 ≤ k) (hz : z.natAbs ≤ n) : zl (pwZ a z).1 ≤ n * (k + 1) + 1 ∧ zl (pwZ a z).2 ≤ n * (k + 1) + 1 := by
  have hm : z.natAbs * (k + 1) ≤ n * (k + 1) := Nat.mul_le_mul_right _ hz
  unfold pwZ
  split
  · have := zl_pw (zl_inv2 hk ha) z.natAbs
    omega
  · have := zl_pw ha z.natAbs
    omega
theorem cosR_cn (r : RW) : cosR r.p r.q = cs2 r.cn ∧ sinR r.p r.q = sn2 r.cn := by
  unfold cosR sinR cs2 sn2 RW.cn gc
  rw [Rat.divInt_eq_div, Rat.divInt_eq_div]
  exact ⟨rfl, rfl⟩
theorem cs_ql {r : RW} {k : Nat} (ok : r.OK k) (hk : 1 ≤ k) : ql (cs2 r.cn) ≤ 2 * k + 1 ∧ ql (sn2 r.cn) ≤ 2 * k + 1 := by
  rw [← (cosR_cn r).1, ← (cosR_cn r).2]
  exact ⟨ql_cos _ _ (zl_zv ok.op ok.lp) (zl_zv ok.oq ok.lq) hk, ql_sin _ _ (zl_zv ok.op ok.lp) (zl_zv ok.oq ok.lq) hk⟩
theorem tn_ql {r : RW} {x y : Rat} {k l m : Nat} (ok : r.OK k) (hk : 1 ≤ k) (hx : ql x ≤ l) (hy : ql y ≤ l) (hm : 4 * k + 2 * l + 3 ≤ m) : ql (tnX r.cn x y) ≤ m ∧ ql (tnY r.cn x y) ≤ m := by
  obtain ⟨h1, h2⟩ := cs_ql ok hk
  exact ⟨Nat.le_trans (ql_sub_le (ql_mul_le h1 hx) (ql_mul_le h2 hy)) (by omega), Nat.le_trans (ql_add_le (ql_mul_le h2 hx) (ql_mul_le h1 hy)) (by omega)⟩

/-! ### Rationals -/
theorem qMul_t (a b : RW) (z : Rat) (ha : a.OK 16777216) (hb : b.OK 16777216) (h : a.v * b.v = z) : Con Tryz.prog 80 [AG a.cs, AG b.cs] { v := AG (qzW z).cs } := by
  subst h
  exact qMul_q a.v b.v _ _ _ _ _ _ _ _ ha.op ha.oq hb.op hb.oq ha.lp ha.lq hb.lp hb.lq rfl rfl
theorem qAdd_t (a b : RW) (z : Rat) (ha : a.OK 16777216) (hb : b.OK 16777216) (h : a.v + b.v = z) : Con Tryz.prog 65 [AG a.cs, AG b.cs] { v := AG (qzW z).cs } := by
  subst h
  exact qAdd_q a.v b.v _ _ _ _ _ _ _ _ ha.op ha.oq hb.op hb.oq ha.lp ha.lq hb.lp hb.lq rfl rfl
theorem qSub_t (a b : RW) (z : Rat) (ha : a.OK 16777215) (hb : b.OK 16777215) (h : a.v - b.v = z) : Con Tryz.prog 79 [AG a.cs, AG b.cs] { v := AG (qzW z).cs } := by
  subst h
  exact qSub_q a.v b.v _ _ _ _ _ _ _ _ ha.op ha.oq hb.op hb.oq ha.lp ha.lq hb.lp hb.lq rfl rfl
theorem qNeg_t (a : RW) (ha : a.OK 16777216) : Con Tryz.prog 68 [AG a.cs] { v := AG (qzW (-a.v)).cs } :=
  qNeg_c _ _ _ _ ha.op ha.oq (le_d ha.lp rfl) (le_d ha.lq rfl)
theorem qNorm_t (a : RW) (ha : a.OK 16777216) : Con Tryz.prog 70 [AG a.cs] { v := AG (qzW a.v).cs } :=
  qNorm_c _ _ _ _ ha.op ha.oq (le_d ha.lp rfl) (le_d ha.lq rfl)

theorem r2Norm_t (a : RW) (ha : a.OK 16777216) : Con Tryz.prog 71 [AG a.cs] { v := AG (qzW a.v).cs } :=
  r2Norm_c _ _ _ _ ha.op ha.oq (le_d ha.lp rfl) (le_d ha.lq rfl)

theorem r2Add_t (a b : RW) (z : Rat) (ha : a.OK 16777216) (hb : b.OK 16777216) (h : a.v + b.v = z) : Con Tryz.prog 67 [AG a.cs, AG b.cs] { v := AG (qzW z).cs } := by
  subst h
  exact r2Add_q a.v b.v _ _ _ _ _ _ _ _ ha.op ha.oq hb.op hb.oq ha.lp ha.lq hb.lp hb.lq rfl rfl

theorem r2Sub_t (a b : RW) (z : Rat) (ha : a.OK 16777215) (hb : b.OK 16777215) (h : a.v - b.v = z) : Con Tryz.prog 101 [AG a.cs, AG b.cs] { v := AG (qzW z).cs } := by
  subst h
  exact r2Sub_q a.v b.v _ _ _ _ _ _ _ _ ha.op ha.oq hb.op hb.oq ha.lp ha.lq hb.lp hb.lq rfl rfl

theorem r2Neg_t (a : RW) (ha : a.OK 16777216) : Con Tryz.prog 69 [AG a.cs] { v := AG (qzW (-a.v)).cs } :=
  r2Neg_c _ _ _ _ ha.op ha.oq (le_d ha.lp rfl) (le_d ha.lq rfl)

/-! ### Rotations -/
theorem tNorm_t (r : RW) (ok : r.OK 268435456) : Con Tryz.prog 9 [AG r.cs] { v := AG (pz2 r.cn).cs } :=
  tNorm_c _ _ _ _ ok.op ok.oq ok.lp ok.lq
theorem tThen_t (a b : RW) (ha : a.OK 67108864) (hb : b.OK 67108864) : Con Tryz.prog 13 [AG a.cs, AG b.cs] { v := AG (pz2 (gc (gm a.cn b.cn))).cs } :=
  tThen_c _ _ _ _ _ _ _ _ ha.op ha.oq hb.op hb.oq ha.lp ha.lq hb.lp hb.lq

theorem tCos_t (r : RW) (ok : r.OK 67108864) : Con Tryz.prog 18 [AG r.cs] { v := AG (qzW (cs2 r.cn)).cs } := by
  rw [← (cosR_cn r).1]
  exact tCos_c _ _ _ _ ok.op ok.oq ok.lp ok.lq

theorem tSin_t (r : RW) (ok : r.OK 67108864) : Con Tryz.prog 20 [AG r.cs] { v := AG (qzW (sn2 r.cn)).cs } := by
  rw [← (cosR_cn r).2]
  exact tSin_c _ _ _ _ ok.op ok.oq ok.lp ok.lq

theorem tTurn_t (r x y : RW) (ok : r.OK 1048576) (ox : x.OK 1048576) (oy : y.OK 1048576) : Con Tryz.prog 43 [AG r.cs, AG x.cs, AG y.cs]
    { v := .tup [.agg (qzW (tnX r.cn x.v y.v)).cs, .agg (qzW (tnY r.cn x.v y.v)).cs] } := by
  unfold tnX tnY
  rw [← (cosR_cn r).1, ← (cosR_cn r).2]
  exact tTurn_c _ _ _ _ _ _ _ _ _ _ _ _ ok.op ok.oq ox.op ox.oq oy.op oy.oq ok.lp ok.lq ox.lp ox.lq oy.lp oy.lq

theorem r3Norm_t (r : RW) (ok : r.OK 268435456) : Con Tryz.prog 10 [AG r.cs] { v := AG (pz2 r.cn).cs } :=
  r3Norm_c _ _ _ _ ok.op ok.oq ok.lp ok.lq

theorem r3Then_t (a b : RW) (ha : a.OK 67108864) (hb : b.OK 67108864) : Con Tryz.prog 14 [AG a.cs, AG b.cs] { v := AG (pz2 (gc (gm a.cn b.cn))).cs } :=
  r3Then_c _ _ _ _ _ _ _ _ ha.op ha.oq hb.op hb.oq ha.lp ha.lq hb.lp hb.lq

theorem r3Cos_t (r : RW) (ok : r.OK 67108864) : Con Tryz.prog 19 [AG r.cs] { v := AG (qzW (cs2 r.cn)).cs } := by
  rw [← (cosR_cn r).1]
  exact r3Cos_c _ _ _ _ ok.op ok.oq ok.lp ok.lq

theorem r3Sin_t (r : RW) (ok : r.OK 67108864) : Con Tryz.prog 21 [AG r.cs] { v := AG (qzW (sn2 r.cn)).cs } := by
  rw [← (cosR_cn r).2]
  exact r3Sin_c _ _ _ _ ok.op ok.oq ok.lp ok.lq

theorem r3Turn_t (r x y : RW) (ok : r.OK 1048576) (ox : x.OK 1048576) (oy : y.OK 1048576) : Con Tryz.prog 66 [AG r.cs, AG x.cs, AG y.cs]
    { v := .tup [.agg (qzW (tnX r.cn x.v y.v)).cs, .agg (qzW (tnY r.cn x.v y.v)).cs] } := by
  unfold tnX tnY
  rw [← (cosR_cn r).1, ← (cosR_cn r).2]
  exact r3Turn_c _ _ _ _ _ _ _ _ _ _ _ _ ok.op ok.oq ox.op ox.oq oy.op oy.oq ok.lp ok.lq ox.lp ox.lq oy.lp oy.lq

theorem r3Inv_t (r : RW) (ok : r.OK 67108864) : Con Tryz.prog 16 [AG r.cs] { v := AG (pz2 (inv2 r.cn)).cs } := by
  have h := ok.cn (by decide)
  have hn := h
  have c1 := r3Norm_t r (ok.mono rfl)
  generalize r.cn = a at *
  refine con_intro (fn := Tryz.f16) tok Tryz.func16 (by kernel_rfl) rfl ?_
  intro w0 X
  rw [entry_mkE _ _ [(0, AG r.cs)] rfl rfl]
  refine AWP_reg_seq tok fun K hK => ?_
  refine s_box rfl rfl rfl rfl rfl rfl ?_
  refine s_alloc rfl rfl rfl rfl rfl rfl ?_
  refine s_end (hK _ ?_); clear hK K
  refine AWP_reg_seq tok fun K hK => ?_
  refine s_load rfl rfl rfl ?_
  refine s_call rfl rfl (c1) rfl rfl rfl rfl ?_
  refine s_store rfl rfl rfl rfl rfl ?_
  refine s_end (hK _ ?_); clear hK K
  refine a_draw tok mixed (A := [[], [], [0], [], [], [0, 1, 3], [0, 1, 3, 4], []]) (an := [{}, {}, {}, { c := [7] }, { c := [7] }, {}, {}, {}]) rfl (by kernel_rfl) rfl fun K hK => ?_
  refine s_fieldAddr rfl rfl rfl ?_
  refine s_load rfl rfl rfl ?_
  refine s_call rfl rfl (r1NegZ_c a.1 (le_d h.1 rfl)) rfl rfl rfl rfl ?_
  refine s_fieldAddr rfl rfl rfl ?_
  refine s_load rfl rfl rfl ?_
  refine s_build rfl rfl rfl ?_
  refine s_call rfl rfl (r3NormZ_q (-a.1) a.2 (inv2 a).1 (inv2 a).2 (by rw [zl_neg]; exact le_d h.1 rfl) (le_d h.2 rfl) rfl rfl) rfl rfl rfl rfl ?_
  refine s_store rfl rfl rfl rfl rfl ?_
  refine s_end (hK _ ?_); clear hK K
  refine AWP_ret ?_
  repeat (with_reducible refine tq_ret ?_)
  exact post_ret (fin_mk (by rfl) (by rfl) (by rfl))
end Go.Proofs.YtipenembpidoiaaGreatDoor

/- Comparisons of numbers; powers, orders, marks of rotations. No condition. -/
namespace Go.Proofs.YtipenembpidoiaaGreatDoor
attribute [local irreducible] lexA

section
variable {T : Tab} {t : TypeId}
theorem e_remI' {a b : Int} (h : b ≠ 0) : effBin T .rem t (dI a) (dI b) = .set (dI (a.tmod b)) := by
  have hb : binA .rem (.int .i64 a) (.int .i64 b) = some (.int .i64 (a.tmod b)) := by
    simp only [binA, if_true]
    rw [if_neg h]
  simp only [effBin, litOf, hb]; rfl
theorem e_quoI' {a b c : Int} (h : b ≠ 0) (hc : a.tdiv b = c) (hr : I64 c) : effBin T .quo t (dI a) (dI b) = .set (dI c) := by
  subst hc
  have hb : binA .quo (.int .i64 a) (.int .i64 b) = some (.int .i64 (a.tdiv b)) := by
    simp only [binA, if_true]
    rw [if_neg h, IntWalk.i64_in _ hr]
  simp only [effBin, litOf, hb]; rfl
theorem e_negI {a c : Int} (h : -a = c) (hr : I64 c) : effUn .neg (dI a) = .set (dI c) := by
  subst h
  show setLit (.int .i64 (IntKind.i64.wrap (0 - a))) = _
  rw [Int.zero_sub, IntWalk.i64_in _ hr]; rfl
theorem e_and255 (a : Int) : effBin T .and t (dI a) (dI 255) = .set (dI (a % 256)) := by
  show setLit (.int .i64 (IntKind.i64.wrap ((BitVec.ofInt 64 a &&& BitVec.ofInt 64 255).toNat : Int))) = _
  have e : ((BitVec.ofInt 64 a &&& BitVec.ofInt 64 255).toNat : Int) = a % 256 := by
    have e2 : (BitVec.ofInt 64 255).toNat = 2 ^ 8 - 1 := by decide
    rw [BitVec.toNat_and, e2, Nat.and_two_pow_sub_one_eq_mod, BitVec.toNat_ofInt]
    omega
  rw [e, IntWalk.i64_in _ (by omega)]; rfl
end

def zcmp (x y : Int) : Int := if x < y then -1 else if y < x then 1 else 0
theorem zcmp_eq (x y : Int) : (zcmp x y == 0) = decide (x = y) := by
  unfold zcmp
  by_cases h : x < y
  · rw [if_pos h, decide_eq_false (by omega)]; rfl
  · rw [if_neg h]
    by_cases h' : y < x
    · rw [if_pos h', decide_eq_false (by omega)]; rfl
    · rw [if_neg h', decide_eq_true (by omega)]; rfl
theorem zcmp_sgn {x y : Int} (h : x.sign = y.sign) : x.sign * ncmp x.natAbs y.natAbs = zcmp x y := by
  unfold zcmp ncmp
  rcases Int.lt_trichotomy x 0 with hx | hx | hx
  · have e1 : x.sign = -1 := Int.sign_eq_neg_one_iff_neg.2 hx
    have hy : y < 0 := Int.sign_eq_neg_one_iff_neg.1 (h ▸ e1)
    rw [e1]
    repeat' split
    all_goals omega
  · have e1 : x.sign = 0 := by rw [hx]; rfl
    have hy : y = 0 := Int.sign_eq_zero_iff_zero.1 (h ▸ e1)
    rw [hx, hy]; rfl
  · have e1 : x.sign = 1 := Int.sign_eq_one_iff_pos.2 hx
    have hy : 0 < y := Int.sign_eq_one_iff_pos.1 (h ▸ e1)
    rw [e1]
    repeat' split
    all_goals omega
theorem sgn_cases (x : Int) : (x < 0 ∧ x.sign = -1) ∨ (x = 0 ∧ x.sign = 0) ∨ (0 < x ∧ x.sign = 1) := by
  rcases Int.lt_trichotomy x 0 with hx | hx | hx
  · exact Or.inl ⟨hx, Int.sign_eq_neg_one_iff_neg.2 hx⟩
  · exact Or.inr (Or.inl ⟨hx, by rw [hx]; rfl⟩)
  · exact Or.inr (Or.inr ⟨hx, Int.sign_eq_one_iff_pos.2 hx⟩)
theorem zcmp_lt {x y : Int} (h : x.sign < y.sign) : zcmp x y = -1 := by
  have := sgn_cases x
  have := sgn_cases y
  unfold zcmp; rw [if_pos (by omega)]
theorem zcmp_gt {x y : Int} (h : x.sign > y.sign) : zcmp x y = 1 := by
  have := sgn_cases x
  have := sgn_cases y
  unfold zcmp; rw [if_neg (by omega), if_pos (by omega)]

theorem dec_sgn (x : Int) : (x.sign == 0) = decide (x = 0) := by
  rw [Bool.eq_iff_iff]; simp [Int.sign_eq_zero_iff_zero]

theorem iCmp_z (na nb : Bool) (wa wb : List Nat) (x y : Int) (ha : wOK wa) (hb : wOK wb) (la : wa.length ≤ 536870912) (lb : wb.length ≤ 536870912) (hx : zv na wa = x) (hy : zv nb wb = y) :
    Con Tryz.prog 56 [AG (IC na wa), AG (IC nb wb)] { v := dI (zcmp x y) } := by
  have c1 := iSign_c na wa ha (by omega)
  have c2 := iSign_c nb wb hb (by omega)
  have hwa := wl_len ha
  have hwb := wl_len hb
  have ea : (zv na wa).natAbs = wv wa := zv_abs ..
  have eb : (zv nb wb).natAbs = wv wb := zv_abs ..
  rw [hx] at c1 ea
  rw [hy] at c2 eb
  refine con_intro (fn := Tryz.f56) tok Tryz.func56 (by kernel_rfl) rfl ?_
  intro w0 X
  rw [entry_mkE _ _ [(0, AG (IC na wa)), (1, AG (IC nb wb))] rfl rfl]
  refine AWP_reg_seq tok fun K hK => ?_
  refine s_box rfl rfl rfl rfl rfl rfl ?_
  refine s_box rfl rfl rfl rfl rfl rfl ?_
  refine s_assign rfl rfl rfl ?_
  refine s_end (hK _ ?_); clear hK K
  refine a_draw tok mixed (A := [[], [], [], [0], [2], []]) (an := [{}, {}, { c := [8] }, {}, {}, {}]) rfl (by kernel_rfl) rfl fun K hK => ?_
  refine s_load rfl rfl rfl ?_
  refine s_call rfl rfl (c1) rfl rfl rfl rfl ?_
  refine s_load rfl rfl rfl ?_
  refine s_call rfl rfl (c2) rfl rfl rfl rfl ?_
  refine s_assign rfl rfl rfl ?_
  refine s_assign rfl rfl rfl ?_
  refine s_end (hK _ ?_); clear hK K
  refine AWP_seq ?_
  refine AWP_block ?_
  refine AWP_reg_seq tok fun K hK => ?_
  refine s_move rfl rfl rfl ?_
  refine s_move rfl rfl rfl ?_
  refine s_bin rfl rfl rfl ?_
  refine s_assign rfl rfl rfl ?_
  refine s_end (hK _ ?_); clear hK K
  refine a_cond rfl (fun hc => ?_) (fun hc => ?_)
  · refine AWP_reg_seq tok fun K hK => ?_
    refine s_assign rfl rfl rfl ?_
    refine s_end (hK _ ?_); clear hK K
    refine AWP_ret ?_
    repeat (with_reducible refine tq_ret ?_)
    exact post_ret (fin_mk (by rfl) (by rfl) (by rw [zcmp_lt (of_decide_eq_true hc)]; rfl))
  · refine AWP_reg_seq tok fun K hK => ?_
    refine s_move rfl rfl rfl ?_
    refine s_move rfl rfl rfl ?_
    refine s_bin rfl rfl rfl ?_
    refine s_assign rfl rfl rfl ?_
    refine s_end (hK _ ?_); clear hK K
    refine a_cond rfl (fun hd => ?_) (fun hd => ?_)
    · refine AWP_reg_seq tok fun K hK => ?_
      refine s_assign rfl rfl rfl ?_
      refine s_end (hK _ ?_); clear hK K
      refine AWP_ret ?_
      repeat (with_reducible refine tq_ret ?_)
      exact post_ret (fin_mk (by rfl) (by rfl) (by rw [zcmp_gt (of_decide_eq_true hd)]; rfl))
    · have hs : x.sign = y.sign := by
        have h1 := of_decide_eq_false hc
        have h2 := of_decide_eq_false hd
        omega
      refine AWP_skip ?_
      show AWP _ _ _ _ _ _
      have e : effBin tab .mul 3 (dI x.sign) (dI (ncmp (wv (wof (wv wa))) (wv (wof (wv wb))))) = .set (dI (zcmp x y)) := by
        rw [wv_wof, wv_wof]
        refine e_mul (by rw [← ea, ← eb]; exact zcmp_sgn hs) ?_
        unfold zcmp; repeat' split
        all_goals omega
      refine a_draw tok mixed (A := [[], [], [], [1], [], [], [1, 2, 4], [1, 2, 4, 5], [1, 2, 3, 4, 5, 6], []]) (an := [{}, {}, {}, {}, { c := [22] }, { c := [22] }, {}, {}, {}, {}]) rfl (by kernel_rfl) rfl fun K hK => ?_
      refine s_move rfl rfl rfl ?_
      refine s_fieldAddr rfl rfl rfl ?_
      refine s_load rfl rfl rfl ?_
      refine s_call rfl rfl (trimZ_c wa ha (by omega)) rfl rfl rfl rfl ?_
      refine s_fieldAddr rfl rfl rfl ?_
      refine s_load rfl rfl rfl ?_
      refine s_call rfl rfl (trimZ_c wb hb (by omega)) rfl rfl rfl rfl ?_
      refine s_call rfl rfl (compare_c _ _ (wof_ok _) (wof_ok _) (wof_top _) (wof_top _) (by omega) (by omega)) rfl rfl rfl rfl ?_
      refine s_bin rfl e rfl ?_
      refine s_assign rfl rfl rfl ?_
      refine s_end (hK _ ?_); clear hK K
      refine AWP_ret ?_
      repeat (with_reducible refine tq_ret ?_)
      exact post_ret (fin_mk (by rfl) (by rfl) (by rfl))
theorem iCmpZ_c (x y : Int) (hx : zl x ≤ 536870912) (hy : zl y ≤ 536870912) : Con Tryz.prog 56 [AG (ZC x), AG (ZC y)] { v := dI (zcmp x y) } :=
  iCmp_z _ _ _ _ x y (wof_ok _) (wof_ok _) hx hy (zv_ZC x) (zv_ZC y)
def qcmp (x y : Rat) : Int := zcmp (x.num * y.den) (y.num * x.den)
theorem qcmp_eq (x y : Rat) : (qcmp x y == 0) = decide (x = y) := by
  unfold qcmp
  rw [zcmp_eq]
  refine decide_eq_decide.2 ⟨fun h => ?_, fun h => by rw [h]⟩
  have hx := Rat.num_divInt_den x
  have hy := Rat.num_divInt_den y
  rw [← hx, ← hy]
  exact (Rat.divInt_eq_divInt_iff (by have := x.den_nz; omega) (by have := y.den_nz; omega)).2 h

theorem qCmp_t (a b : RW) (ha : a.OK 16777216) (hb : b.OK 16777216) : Con Tryz.prog 72 [AG a.cs, AG b.cs] { v := dI (qcmp a.v b.v) } := by
  have c1 := qNorm_t a ha
  have c2 := qNorm_t b hb
  have h1 := ha.ql rfl
  have h2 := hb.ql rfl
  generalize a.v = x at *
  generalize b.v = y at *
  have n1 := ql_num_le h1
  have n2 := ql_num_le h2
  have d1 := ql_den_le h1
  have d2 := ql_den_le h2
  have c3 := iMulZ_c x.num y.den (le_d n1 rfl) (le_d d2 rfl)
  have c4 := iMulZ_c y.num x.den (le_d n2 rfl) (le_d d1 rfl)
  have c5 := iCmpZ_c (x.num * y.den) (y.num * x.den) (le_d (zl_mul_le n1 d2) rfl) (le_d (zl_mul_le n2 d1) rfl)
  refine con_intro (fn := Tryz.f72) tok Tryz.func72 (by kernel_rfl) rfl ?_
  intro w0 X
  rw [entry_mkE _ _ [(0, AG a.cs), (1, AG b.cs)] rfl rfl]
  refine AWP_reg_seq tok fun K hK => ?_
  refine s_box rfl rfl rfl rfl rfl rfl ?_
  refine s_box rfl rfl rfl rfl rfl rfl ?_
  refine s_assign rfl rfl rfl ?_
  refine s_end (hK _ ?_); clear hK K
  refine a_draw tok mixed (A := [[], [], [], [0], [2], []]) (an := [{}, {}, { c := [6] }, {}, {}, {}]) rfl (by kernel_rfl) rfl fun K hK => ?_
  refine s_load rfl rfl rfl ?_
  refine s_call rfl rfl (c1) rfl rfl rfl rfl ?_
  refine s_load rfl rfl rfl ?_
  refine s_call rfl rfl (c2) rfl rfl rfl rfl ?_
  refine s_store rfl rfl rfl rfl rfl ?_
  refine s_store rfl rfl rfl rfl rfl ?_
  refine s_end (hK _ ?_); clear hK K
  refine a_draw tok mixed (A := [[], [], [], [], [0, 2], [], [], [], [], [0, 1, 2, 3, 5, 7], [0, 1, 2, 3, 5, 6, 7, 8], []]) (an := [{}, {}, {}, {}, {}, { c := [13] }, { c := [13] }, { c := [13] }, { c := [13] }, {}, {}, {}]) rfl (by kernel_rfl) rfl fun K hK => ?_
  refine s_fieldAddr rfl rfl rfl ?_
  refine s_load rfl rfl rfl ?_
  refine s_fieldAddr rfl rfl rfl ?_
  refine s_load rfl rfl rfl ?_
  refine s_call rfl rfl (c3) rfl rfl rfl rfl ?_
  refine s_fieldAddr rfl rfl rfl ?_
  refine s_load rfl rfl rfl ?_
  refine s_fieldAddr rfl rfl rfl ?_
  refine s_load rfl rfl rfl ?_
  refine s_call rfl rfl (c4) rfl rfl rfl rfl ?_
  refine s_call rfl rfl (c5) rfl rfl rfl rfl ?_
  refine s_assign rfl rfl rfl ?_
  refine s_end (hK _ ?_); clear hK K
  refine AWP_ret ?_
  repeat (with_reducible refine tq_ret ?_)
  exact post_ret (fin_mk (by rfl) (by rfl) (by rfl))

theorem tSame_t (a b : RW) (ha : a.OK 67108864) (hb : b.OK 67108864) : Con Tryz.prog 11 [AG a.cs, AG b.cs] { v := dB (decide (a.cn = b.cn)) } := by
  have c1 := tNorm_t a (ha.mono rfl)
  have c2 := tNorm_t b (hb.mono rfl)
  have h1 := ha.cn (by decide)
  have h2 := hb.cn (by decide)
  generalize a.cn = x at *
  generalize b.cn = y at *
  have e : decide (x = y) = (decide (x.1 = y.1) && decide (x.2 = y.2)) := by
    rw [← Bool.decide_and]
    exact decide_eq_decide.2 ⟨fun h => by rw [h]; exact ⟨rfl, rfl⟩, fun h => Prod.ext h.1 h.2⟩
  have c3 := iCmpZ_c x.1 y.1 (le_d h1.1 rfl) (le_d h2.1 rfl)
  have c4 := iCmpZ_c x.2 y.2 (le_d h1.2 rfl) (le_d h2.2 rfl)
  refine con_intro (fn := Tryz.f11) tok Tryz.func11 (by kernel_rfl) rfl ?_
  intro w0 X
  rw [entry_mkE _ _ [(0, AG a.cs), (1, AG b.cs)] rfl rfl]
  refine AWP_reg_seq tok fun K hK => ?_
  refine s_box rfl rfl rfl rfl rfl rfl ?_
  refine s_box rfl rfl rfl rfl rfl rfl ?_
  refine s_assign rfl rfl rfl ?_
  refine s_end (hK _ ?_); clear hK K
  refine a_draw tok mixed (A := [[], [], [], [0], [], [], [2], []]) (an := [{}, {}, { c := [8] }, {}, { c := [8, 10] }, { c := [8, 10, 5] }, {}, {}]) rfl (by kernel_rfl) rfl fun K hK => ?_
  refine s_load rfl rfl rfl ?_
  refine s_call rfl rfl (c1) rfl rfl rfl rfl ?_
  refine s_load rfl rfl rfl ?_
  refine s_call rfl rfl (c2) rfl rfl rfl rfl ?_
  refine s_alloc rfl rfl rfl rfl rfl rfl ?_
  refine s_alloc rfl rfl rfl rfl rfl rfl ?_
  refine s_store rfl rfl rfl rfl rfl ?_
  refine s_store rfl rfl rfl rfl rfl ?_
  refine s_end (hK _ ?_); clear hK K
  refine AWP_reg_seq tok fun K hK => ?_
  refine s_fieldAddr rfl rfl rfl ?_
  refine s_load rfl rfl rfl ?_
  refine s_fieldAddr rfl rfl rfl ?_
  refine s_load rfl rfl rfl ?_
  refine s_call rfl rfl (c3) rfl rfl rfl rfl ?_
  refine s_bin rfl rfl rfl ?_
  refine s_move rfl rfl rfl ?_
  refine s_split (fun h => ?_) (fun h => ?_)
  · rw [zcmp_eq] at h
    refine s_fieldAddr rfl rfl rfl ?_
    refine s_load rfl rfl rfl ?_
    refine s_fieldAddr rfl rfl rfl ?_
    refine s_load rfl rfl rfl ?_
    refine s_call rfl rfl (c4) rfl rfl rfl rfl ?_
    refine s_bin rfl rfl rfl ?_
    refine s_pick rfl rfl rfl ?_
    refine s_assign rfl rfl rfl ?_
    refine s_end (hK _ ?_); clear hK K
    refine AWP_ret ?_
    repeat (with_reducible refine tq_ret ?_)
    exact post_ret (fin_mk (by rfl) (by rfl) (by rw [e, h, Bool.true_and, ← zcmp_eq]; rfl))
  · rw [zcmp_eq] at h
    refine s_skip rfl ?_
    refine s_skip rfl ?_
    refine s_skip rfl ?_
    refine s_skip rfl ?_
    refine s_skip rfl ?_
    refine s_skip rfl ?_
    refine s_pick rfl rfl rfl ?_
    refine s_assign rfl rfl rfl ?_
    refine s_end (hK _ ?_); clear hK K
    refine AWP_ret ?_
    repeat (with_reducible refine tq_ret ?_)
    exact post_ret (fin_mk (by rfl) (by rfl) (by rw [e, h, Bool.false_and]; rfl))

theorem tOf_t (p q : Int) (hp : I64 p) (hq : I64 q) : Con Tryz.prog 39 [dI p, dI q] { v := AG (pz2 (gc (p, q))).cs } := by
  have c1 := tNorm_q (decide (p < 0)) (decide (q < 0)) (wof p.natAbs) (wof q.natAbs) (gc (p, q)).1 (gc (p, q)).2 (wof_ok _) (wof_ok _) (le_d (zl_i64 hp) rfl) (le_d (zl_i64 hq) rfl) (by rw [zv_ZC, zv_ZC]; rfl) (by rw [zv_ZC, zv_ZC]; rfl)
  refine con_intro (fn := Tryz.f39) tok Tryz.func39 (by kernel_rfl) rfl ?_
  intro w0 X
  rw [entry_mkE _ _ [(0, dI p), (1, dI q)] rfl rfl]
  refine AWP_reg_seq tok fun K hK => ?_
  refine s_alloc rfl rfl rfl rfl rfl rfl ?_
  refine s_end (hK _ ?_); clear hK K
  refine AWP_reg_seq tok fun K hK => ?_
  refine s_move rfl rfl rfl ?_
  refine s_call rfl rfl (iOf_c p hp) rfl rfl rfl rfl ?_
  refine s_move rfl rfl rfl ?_
  refine s_call rfl rfl (iOf_c q hq) rfl rfl rfl rfl ?_
  refine s_build rfl rfl rfl ?_
  refine s_call rfl rfl (c1) rfl rfl rfl rfl ?_
  refine s_store rfl rfl rfl rfl rfl ?_
  refine s_end (hK _ ?_); clear hK K
  refine AWP_ret ?_
  repeat (with_reducible refine tq_ret ?_)
  exact post_ret (fin_mk (by rfl) (by rfl) (by rfl))

theorem tInv_t (r : RW) (ok : r.OK 67108864) : Con Tryz.prog 15 [AG r.cs] { v := AG (pz2 (inv2 r.cn)).cs } := by
  by_cases h : r.p = 0 ∧ r.q = 0
  · have e : inv2 r.cn = one2 := by unfold RW.cn; rw [h.1, h.2]; rfl
    rw [e]
    have c1 := tof0_c r.np r.nq r.wp r.wq ok.op ok.oq (le_d ok.lp rfl) (le_d ok.lq rfl) h.1 h.2
    have c2 := iNegZ_c 0 (by decide)
    have c3 : Con Tryz.prog 49 [AG (PZ 1 (-0))] { v := AG (pz2 one2).cs } := trotZ_c 1 0 (by decide) (by decide) (by decide)
    refine con_intro (fn := Tryz.f15) tok Tryz.func15 (by kernel_rfl) rfl ?_
    intro w0 X
    rw [entry_mkE _ _ [(0, AG r.cs)] rfl rfl]
    refine AWP_reg_seq tok fun K hK => ?_
    refine s_box rfl rfl rfl rfl rfl rfl ?_
    refine s_alloc rfl rfl rfl rfl rfl rfl ?_
    refine s_end (hK _ ?_); clear hK K
    refine AWP_reg_seq tok fun K hK => ?_
    refine s_load rfl rfl rfl ?_
    refine s_call rfl rfl (c1) rfl rfl rfl rfl ?_
    refine s_alloc rfl rfl rfl rfl rfl rfl ?_
    refine s_store rfl rfl rfl rfl rfl ?_
    refine s_end (hK _ ?_); clear hK K
    refine AWP_reg_seq tok fun K hK => ?_
    refine s_fieldAddr rfl rfl rfl ?_
    refine s_load rfl rfl rfl ?_
    refine s_call rfl rfl (c2) rfl rfl rfl rfl ?_
    refine s_fieldAddr rfl rfl rfl ?_
    refine s_store rfl rfl rfl rfl rfl ?_
    refine s_end (hK _ ?_); clear hK K
    refine AWP_reg_seq tok fun K hK => ?_
    refine s_load rfl rfl rfl ?_
    refine s_call rfl rfl (c3) rfl rfl rfl rfl ?_
    refine s_store rfl rfl rfl rfl rfl ?_
    refine s_end (hK _ ?_); clear hK K
    refine AWP_ret ?_
    repeat (with_reducible refine tq_ret ?_)
    exact post_ret (fin_mk (by rfl) (by rfl) (by rfl))
  · have e : inv2 r.cn = gc (-r.p, r.q) := by unfold RW.cn; rw [inv2_gc (a := (r.p, r.q)) h]; rfl
    rw [e]
    have hp : zl r.p ≤ 67108864 := zl_zv ok.op ok.lp
    have hq : zl r.q ≤ 67108864 := zl_zv ok.oq ok.lq
    have c1 := tof1_c r.np r.nq r.wp r.wq ok.op ok.oq (le_d ok.lp rfl) (le_d ok.lq rfl) h
    have c2 := iNeg_c r.np r.wp ok.op (le_d ok.lp rfl)
    have c3 := trot_c r.nq (decide (-r.p < 0)) r.wq (wof (-r.p).natAbs) ok.oq (wof_ok _) (le_d ok.lq rfl) (by show zl (-r.p) ≤ _; rw [zl_neg]; exact le_d hp rfl) (by rw [zv_ZC]; exact fun h' => h ⟨by have := h'.1; omega, h'.2⟩)
    rw [zv_ZC] at c3
    show Con _ _ _ _
    refine con_intro (fn := Tryz.f15) tok Tryz.func15 (by kernel_rfl) rfl ?_
    intro w0 X
    rw [entry_mkE _ _ [(0, AG r.cs)] rfl rfl]
    refine AWP_reg_seq tok fun K hK => ?_
    refine s_box rfl rfl rfl rfl rfl rfl ?_
    refine s_alloc rfl rfl rfl rfl rfl rfl ?_
    refine s_end (hK _ ?_); clear hK K
    refine AWP_reg_seq tok fun K hK => ?_
    refine s_load rfl rfl rfl ?_
    refine s_call rfl rfl (c1) rfl rfl rfl rfl ?_
    refine s_alloc rfl rfl rfl rfl rfl rfl ?_
    refine s_store rfl rfl rfl rfl rfl ?_
    refine s_end (hK _ ?_); clear hK K
    refine AWP_reg_seq tok fun K hK => ?_
    refine s_fieldAddr rfl rfl rfl ?_
    refine s_load rfl rfl rfl ?_
    refine s_call rfl rfl (c2) rfl rfl rfl rfl ?_
    refine s_fieldAddr rfl rfl rfl ?_
    refine s_store rfl rfl rfl rfl rfl ?_
    refine s_end (hK _ ?_); clear hK K
    refine AWP_reg_seq tok fun K hK => ?_
    refine s_load rfl rfl rfl ?_
    refine s_call rfl rfl (c3) rfl rfl rfl rfl ?_
    refine s_store rfl rfl rfl rfl rfl ?_
    refine s_end (hK _ ?_); clear hK K
    refine AWP_ret ?_
    repeat (with_reducible refine tq_ret ?_)
    exact post_ret (fin_mk (by rfl) (by rfl) (by rfl))

theorem bMod_c (a b : Int) (ha : I64 a) (hb : 0 < b) (hb' : b ≤ 9223372036854775807) : Con Tryz.prog 78 [dI a, dI b] { v := dI (a % b) } := by
  have hm := Int.tmod_lt_of_pos a hb
  have hm0 : -b < a.tmod b := by
    have h1 : (-a).tmod b < b := Int.tmod_lt_of_pos _ hb
    rw [Int.neg_tmod] at h1; omega
  have e1 : effBin tab .rem 3 (dI a) (dI b) = .set (dI (a.tmod b)) := e_remI' (by omega)
  have h4 : (a.tmod b) % b = a % b := by
    have h0 := Int.mul_tdiv_add_tmod a b
    conv => rhs; rw [← h0]
    rw [Int.mul_add_emod_self_left]
  have e2 : a.tmod b < 0 → a.tmod b + b = a % b := fun h => by
    have := Int.emod_nonneg a (show b ≠ 0 by omega)
    have h3 := Int.emod_lt_of_pos a hb
    rw [← h4]
    rw [← Int.add_emod_right, Int.emod_eq_of_lt (by omega) (by omega)]
  have e3 : ¬ a.tmod b < 0 → a.tmod b = a % b := fun h => by
    rw [← h4, Int.emod_eq_of_lt (by omega) (by omega)]
  refine con_intro (fn := Tryz.f78) tok Tryz.func78 (by kernel_rfl) rfl ?_
  intro w0 X
  rw [entry_mkE _ _ [(0, dI a), (1, dI b)] rfl rfl]
  refine AWP_reg_seq tok fun K hK => ?_
  refine s_assign rfl rfl rfl ?_
  refine s_end (hK _ ?_); clear hK K
  refine AWP_reg_seq tok fun K hK => ?_
  refine s_move rfl rfl rfl ?_
  refine s_move rfl rfl rfl ?_
  refine s_bin rfl e1 rfl ?_
  refine s_assign rfl rfl rfl ?_
  refine s_end (hK _ ?_); clear hK K
  refine a_join (α := Unit) (fun _ => mk 15 [(1, dI b), (5, dI (a % b))] [] []) (fun _ => True) ?_ ?_
  · refine AWP_reg_seq tok fun K hK => ?_
    refine s_move rfl rfl rfl ?_
    refine s_bin rfl rfl rfl ?_
    refine s_end (hK _ ?_); clear hK K
    refine a_cond rfl (fun hc => ?_) (fun hc => ?_)
    · have hc := of_decide_eq_true hc
      refine AWP_reg tok fun K hK => ?_
      refine s_move rfl rfl rfl ?_
      refine s_move rfl rfl rfl ?_
      refine s_bin rfl (e_add (e2 hc) (by have := e2 hc; have := Int.emod_nonneg a (show b ≠ 0 by omega); have := Int.emod_lt_of_pos a hb; omega)) rfl ?_
      refine s_assign rfl rfl rfl ?_
      refine s_end (hK _ ?_); clear hK K
      exact ⟨(), trivial, Wk.mk' ⟨rfl, rfl, trivial⟩ trivial⟩
    · have hc := of_decide_eq_false hc
      refine AWP_skip ?_
      exact ⟨(), trivial, Wk.mk' ⟨rfl, by rw [← e3 hc]; rfl, trivial⟩ trivial⟩
  rintro - -
  refine AWP_reg_seq tok fun K hK => ?_
  refine s_move rfl rfl rfl ?_
  refine s_assign rfl rfl rfl ?_
  refine s_end (hK _ ?_); clear hK K
  refine AWP_ret ?_
  repeat (with_reducible refine tq_ret ?_)
  exact post_ret (fin_mk (by rfl) (by rfl) (by rfl))
end Go.Proofs.YtipenembpidoiaaGreatDoor

/- Powers, orders and marks of rotations; transforms. No condition. -/
namespace Go.Proofs.YtipenembpidoiaaGreatDoor
attribute [local irreducible] lexA

def rwZ : RW := ⟨false, [], false, []⟩
def powV (r : RW) (n : Int) : RW × Int := if -64 ≤ n ∧ n ≤ 64 then (pz2 (pwZ r.cn n), 0) else (rwZ, 2)
def stpV (r : RW) (n : Int) : RW := if n < 0 then pz2 (inv2 r.cn) else r
theorem stpV_pw (r : RW) (n : Int) : pw (stpV r n).cn n.natAbs = pwZ r.cn n := by
  unfold stpV pwZ
  split
  · rw [pz2_cn]; unfold inv2; rw [gc_idem]
  · rfl
theorem stpV_ok {r : RW} {k : Nat} (ok : r.OK k) (hk : 1 ≤ k) (n : Int) : (stpV r n).OK k := by
  unfold stpV
  split
  · exact pz2_ok (zl_inv2 hk (ok.cn hk))
  · exact ok
theorem e_flagP (n : Int) : (!decide (-64 ≤ n ∧ n ≤ 64)) = (decide (n < -64) || decide (n > 64)) := by
  rw [Bool.eq_iff_iff]
  simp only [Bool.not_eq_true', decide_eq_false_iff_not, Bool.or_eq_true, decide_eq_true_eq]
  omega

theorem tPower_t (r : RW) (n : Int) (ok : r.OK 65536) (hn : I64 n) : Con Tryz.prog 35 [AG r.cs, dI n] { v := .tup [.agg (powV r n).1.cs, .one (.d (lI (powV r n).2))] } := by
  refine con_intro (fn := Tryz.f35) tok Tryz.func35 (by kernel_rfl) rfl ?_
  intro w0 X
  rw [entry_mkE _ _ [(0, AG r.cs), (1, dI n)] rfl rfl]
  refine AWP_reg_seq tok fun K hK => ?_
  refine s_box rfl rfl rfl rfl rfl rfl ?_
  refine s_alloc rfl rfl rfl rfl rfl rfl ?_
  refine s_assign rfl rfl rfl ?_
  refine s_end (hK _ ?_); clear hK K
  refine AWP_seq ?_
  refine a_join (α := Bool) (fun c => mk 31 [(1, dI n), (2, .ptr 2 0), (4, .ptr 4 0), (13, dB c)] [(2, some (.box r.cs)), (4, some (.box [.d (.lit (.bool false)), .nil, .d (.lit (.bool false)), .nil]))] []) (fun c => c = !decide (-64 ≤ n ∧ n ≤ 64)) ?_ ?_
  · refine AWP_regW fun K hK => ?_
    refine w_step tok rfl ?_
    refine s_move rfl rfl rfl ?_
    refine s_end ?_
    refine w_step tok rfl ?_
    refine s_bin rfl rfl rfl ?_
    refine s_end ?_
    refine w_step tok rfl ?_
    refine s_move rfl rfl rfl ?_
    refine s_end ?_
    refine w_split (fun h0 => ?_) (fun h0 => ?_)
    · refine w_skip rfl rfl ?_
      refine w_skip rfl rfl ?_
      refine w_step tok rfl ?_
      refine s_pick rfl rfl rfl ?_
      refine s_end ?_
      refine w_end rfl (hK _ ?_); clear hK K
      exact ⟨_, (by rw [e_flagP]; simp [h0]), Wk.mk' ⟨rfl, rfl, rfl, rfl, trivial⟩ ⟨rfl, rfl, trivial⟩⟩
    · refine w_step tok rfl ?_
      refine s_move rfl rfl rfl ?_
      refine s_end ?_
      refine w_step tok rfl ?_
      refine s_bin rfl rfl rfl ?_
      refine s_end ?_
      refine w_step tok rfl ?_
      refine s_pick rfl rfl rfl ?_
      refine s_end ?_
      refine w_end rfl (hK _ ?_); clear hK K
      exact ⟨_, (by rw [e_flagP]; simp [h0]), Wk.mk' ⟨rfl, rfl, rfl, rfl, trivial⟩ ⟨rfl, rfl, trivial⟩⟩
  rintro c rfl
  refine a_cond rfl (fun hc => ?_) (fun hc => ?_)
  · rw [Bool.not_eq_true', decide_eq_false_iff_not] at hc
    have e : powV r n = (rwZ, 2) := by unfold powV; rw [if_neg hc]
    rw [e]
    refine AWP_reg_seq tok fun K hK => ?_
    refine s_build rfl rfl rfl ?_
    refine s_store rfl rfl rfl rfl rfl ?_
    refine s_assign rfl rfl rfl ?_
    refine s_end (hK _ ?_); clear hK K
    refine AWP_ret ?_
    repeat (with_reducible refine tq_ret ?_)
    exact post_ret (fin_mk (by rfl) (by rfl) (by rfl))
  rw [Bool.not_eq_false', decide_eq_true_eq] at hc
  have e : powV r n = (pz2 (pw (stpV r n).cn n.natAbs), 0) := by unfold powV; rw [if_pos hc, stpV_pw]
  have oks := stpV_ok ok (by decide) n
  rw [e]
  refine AWP_skip ?_
  show AWP _ _ _ _ _ _
  refine AWP_reg_seq tok fun K hK => ?_
  refine s_load rfl rfl rfl ?_
  refine s_alloc rfl rfl rfl rfl rfl rfl ?_
  refine s_store rfl rfl rfl rfl rfl ?_
  refine s_end (hK _ ?_); clear hK K
  refine a_join (α := Unit) (fun _ => mk 31 [(1, dI n.natAbs), (4, .ptr 4 0), (6, .ptr 6 0)] [(4, some (.box [.d (.lit (.bool false)), .nil, .d (.lit (.bool false)), .nil])), (6, some (.box (stpV r n).cs))] []) (fun _ => True) ?_ ?_
  · refine AWP_reg_seq tok fun K hK => ?_
    refine s_move rfl rfl rfl ?_
    refine s_bin rfl rfl rfl ?_
    refine s_end (hK _ ?_); clear hK K
    refine a_cond rfl (fun hd => ?_) (fun hd => ?_)
    · have hd : n < 0 := of_decide_eq_true hd
      refine AWP_reg tok fun K hK => ?_
      refine s_load rfl rfl rfl ?_
      refine s_call rfl rfl (tInv_t r (ok.mono rfl)) rfl rfl rfl rfl ?_
      refine s_move rfl rfl rfl ?_
      refine s_un rfl (e_negI (c := (n.natAbs : Int)) (by omega) (by unfold I64; omega)) rfl ?_
      refine s_store rfl rfl rfl rfl rfl ?_
      refine s_assign rfl rfl rfl ?_
      refine s_end (hK _ ?_); clear hK K
      exact ⟨(), trivial, Wk.mk' ⟨rfl, rfl, rfl, trivial⟩ ⟨rfl, by unfold stpV; rw [if_pos hd]; rfl, trivial⟩⟩
    · have hd : ¬ n < 0 := of_decide_eq_false hd
      refine AWP_skip ?_
      exact ⟨(), trivial, Wk.mk' ⟨dI_eq (by omega), rfl, rfl, trivial⟩ ⟨rfl, by unfold stpV; rw [if_neg hd]; rfl, trivial⟩⟩
  rintro - -
  generalize stpV r n = s at *
  have hN : n.natAbs ≤ 64 := by omega
  generalize n.natAbs = N at *
  have hz := zl_pw (oks.cn (by decide))
  refine AWP_reg_seq tok fun K hK => ?_
  refine s_call rfl rfl (tOf_t 0 1 (by unfold I64; omega) (by unfold I64; omega)) rfl rfl rfl rfl ?_
  refine s_alloc rfl rfl rfl rfl rfl rfl ?_
  refine s_store rfl rfl rfl rfl rfl ?_
  refine s_end (hK _ ?_); clear hK K
  refine AWP_seq ?_
  refine AWP_reg_seq tok fun K hK => ?_
  refine s_move rfl rfl rfl ?_
  refine s_move rfl rfl rfl ?_
  refine s_end (hK _ ?_); clear hK K
  refine AWP_block (a_loop (α := Nat) (fun i => mk 31 [(4, .ptr 4 0), (6, .ptr 6 0), (7, .ptr 7 0), (23, dI N), (24, dI i)] [(4, some (.box [.d (.lit (.bool false)), .nil, .d (.lit (.bool false)), .nil])), (6, some (.box s.cs)), (7, some (.box (pz2 (pw s.cn i)).cs))] []) (fun i => i ≤ N) (fun i => N - i) 0 ?_ (Nat.zero_le _) ?_)
  · exact Wk.mk' ⟨rfl, rfl, rfl, rfl, rfl, trivial⟩ ⟨rfl, rfl, rfl, trivial⟩
  intro i hi
  refine AWP_reg_seq tok fun K hK => ?_
  refine s_bin rfl rfl rfl ?_
  refine s_end (hK _ ?_); clear hK K
  refine AWP_seq ?_
  refine a_cond rfl (fun hg => ?_) (fun hg => ?_)
  · have hg : i < N := by simp at hg; omega
    have o1 : (pz2 (pw s.cn i)).OK 67108864 := by
      have h1 := hz i
      have h2 : i * (65536 + 1) ≤ 64 * 65537 := Nat.mul_le_mul (by omega) (Nat.le_refl _)
      exact pz2_ok ⟨by omega, by omega⟩
    have c1 := tThen_t (pz2 (pw s.cn i)) s o1 (oks.mono rfl)
    rw [pz2_cn, pw_gc s.cn_nz] at c1
    refine AWP_skip ?_
    show AWP _ _ _ _ _ _
    refine AWP_seq ?_
    refine AWP_block ?_
    refine AWP_reg tok fun K hK => ?_
    refine s_load rfl rfl rfl ?_
    refine s_load rfl rfl rfl ?_
    refine s_call rfl rfl (c1) rfl rfl rfl rfl ?_
    refine s_store rfl rfl rfl rfl rfl ?_
    refine s_end (hK _ ?_); clear hK K
    show AWP _ _ _ _ _ _
    refine AWP_reg tok fun K hK => ?_
    refine s_bin rfl (e_add (c := ((i + 1 : Nat) : Int)) (by omega) (by omega)) rfl ?_
    refine s_move rfl rfl rfl ?_
    refine s_end (hK _ ?_); clear hK K
    exact ⟨i + 1, by omega, hg, Wk.mk' ⟨rfl, rfl, rfl, rfl, rfl, trivial⟩ ⟨rfl, rfl, rfl, trivial⟩⟩
  · have hg : i = N := by simp at hg; omega
    subst hg
    refine AWP_exit ?_
    show AWP _ _ _ _ _ _
    refine AWP_reg_seq tok fun K hK => ?_
    refine s_load rfl rfl rfl ?_
    refine s_store rfl rfl rfl rfl rfl ?_
    refine s_assign rfl rfl rfl ?_
    refine s_end (hK _ ?_); clear hK K
    refine AWP_ret ?_
    repeat (with_reducible refine tq_ret ?_)
    exact post_ret (fin_mk (by rfl) (by rfl) (by rfl))

theorem tOrder_t (r : RW) (ok : r.OK 67108864) : Con Tryz.prog 37 [AG r.cs] { v := dI (ordN r.cn) } := by
  have c1 := tNorm_t r (ok.mono rfl)
  have h1 := ok.cn (by decide)
  generalize r.cn = a at *
  have c2 := iSignZ_c a.1 (le_d h1.1 rfl)
  have c3 := iSignZ_c a.2 (le_d h1.2 rfl)
  have c4 := iAbs_c (decide (a.1 < 0)) (wof a.1.natAbs) (wof_ok _) (le_d h1.1 rfl)
  rw [zv_ZC] at c4
  have c5 := iCmpZ_c (a.1.natAbs : Int) a.2 (by unfold zl at *; rw [Int.natAbs_natCast]; exact le_d h1.1 rfl) (le_d h1.2 rfl)
  have s1 := dec_sgn a.1
  have s2 := dec_sgn a.2
  refine con_intro (fn := Tryz.f37) tok Tryz.func37 (by kernel_rfl) rfl ?_
  intro w0 X
  rw [entry_mkE _ _ [(0, AG r.cs)] rfl rfl]
  refine AWP_reg_seq tok fun K hK => ?_
  refine s_box rfl rfl rfl rfl rfl rfl ?_
  refine s_assign rfl rfl rfl ?_
  refine s_end (hK _ ?_); clear hK K
  refine AWP_reg_seq tok fun K hK => ?_
  refine s_load rfl rfl rfl ?_
  refine s_call rfl rfl (c1) rfl rfl rfl rfl ?_
  refine s_alloc rfl rfl rfl rfl rfl rfl ?_
  refine s_store rfl rfl rfl rfl rfl ?_
  refine s_end (hK _ ?_); clear hK K
  refine AWP_seq ?_
  refine AWP_block ?_
  refine AWP_reg_seq tok fun K hK => ?_
  refine s_fieldAddr rfl rfl rfl ?_
  refine s_load rfl rfl rfl ?_
  refine s_call rfl rfl (c2) rfl rfl rfl rfl ?_
  refine s_bin rfl rfl rfl ?_
  refine s_assign rfl rfl rfl ?_
  refine s_end (hK _ ?_); clear hK K
  refine a_cond rfl (fun hc => ?_) (fun hc => ?_)
  · have hc : a.1 = 0 := of_decide_eq_true (s1 ▸ hc)
    refine AWP_reg_seq tok fun K hK => ?_
    refine s_assign rfl rfl rfl ?_
    refine s_end (hK _ ?_); clear hK K
    refine AWP_ret ?_
    repeat (with_reducible refine tq_ret ?_)
    exact post_ret (fin_mk (by rfl) (by rfl) (by unfold ordN; rw [if_pos hc]; rfl))
  have hc : a.1 ≠ 0 := of_decide_eq_false (s1 ▸ hc)
  refine AWP_reg_seq tok fun K hK => ?_
  refine s_fieldAddr rfl rfl rfl ?_
  refine s_load rfl rfl rfl ?_
  refine s_call rfl rfl (c3) rfl rfl rfl rfl ?_
  refine s_bin rfl rfl rfl ?_
  refine s_assign rfl rfl rfl ?_
  refine s_end (hK _ ?_); clear hK K
  refine a_cond rfl (fun hd => ?_) (fun hd => ?_)
  · have hd : a.2 = 0 := of_decide_eq_true (s2 ▸ hd)
    refine AWP_reg_seq tok fun K hK => ?_
    refine s_assign rfl rfl rfl ?_
    refine s_end (hK _ ?_); clear hK K
    refine AWP_ret ?_
    repeat (with_reducible refine tq_ret ?_)
    exact post_ret (fin_mk (by rfl) (by rfl) (by unfold ordN; rw [if_neg hc, if_pos hd]; rfl))
  have hd : a.2 ≠ 0 := of_decide_eq_false (s2 ▸ hd)
  refine a_draw tok mixed (A := [[], [], [0], [], [], [0, 1, 3], [0, 1, 2, 3, 4], [0, 1, 2, 3, 4]]) (an := [{}, {}, {}, { c := [19] }, { c := [19] }, {}, {}, {}]) rfl (by kernel_rfl) rfl fun K hK => ?_
  refine s_fieldAddr rfl rfl rfl ?_
  refine s_load rfl rfl rfl ?_
  refine s_call rfl rfl (c4) rfl rfl rfl rfl ?_
  refine s_fieldAddr rfl rfl rfl ?_
  refine s_load rfl rfl rfl ?_
  refine s_call rfl rfl (c5) rfl rfl rfl rfl ?_
  refine s_bin rfl rfl rfl ?_
  refine s_assign rfl rfl rfl ?_
  refine s_end (hK _ ?_); clear hK K
  refine a_cond rfl (fun he => ?_) (fun he => ?_)
  · have he : (a.1.natAbs : Int) = a.2 := of_decide_eq_true (zcmp_eq (a.1.natAbs : Int) a.2 ▸ he)
    refine AWP_reg_seq tok fun K hK => ?_
    refine s_assign rfl rfl rfl ?_
    refine s_end (hK _ ?_); clear hK K
    refine AWP_ret ?_
    repeat (with_reducible refine tq_ret ?_)
    exact post_ret (fin_mk (by rfl) (by rfl) (by unfold ordN; rw [if_neg hc, if_neg hd, if_pos he]; rfl))
  have he : (a.1.natAbs : Int) ≠ a.2 := of_decide_eq_false (zcmp_eq (a.1.natAbs : Int) a.2 ▸ he)
  refine AWP_skip ?_
  show AWP _ _ _ _ _ _
  refine AWP_reg_seq tok fun K hK => ?_
  refine s_assign rfl rfl rfl ?_
  refine s_end (hK _ ?_); clear hK K
  refine AWP_ret ?_
  repeat (with_reducible refine tq_ret ?_)
  exact post_ret (fin_mk (by rfl) (by rfl) (by unfold ordN; rw [if_neg hc, if_neg hd, if_neg he]; rfl))

theorem tMark_t (h : Int) : Con Tryz.prog 41 [dI h] { v := AG (pz2 (mk2 (h % 256).toNat)).cs } := by
  have hM0 : ((h % 256).toNat : Int) = h % 256 := by omega
  obtain ⟨H, hH⟩ : ∃ H, (h % 256).toNat = H := ⟨_, rfl⟩
  rw [hH] at hM0
  rw [hH]
  have hH2 : H < 256 := by omega
  have e1 : effBin tab .and 3 (dI h) (dI 255) = .set (dI H) := by rw [hM0]; exact e_and255 h
  have e2 : effBin tab .rem 3 (dI H) (dI 64) = .set (dI ((H % 64 : Nat) : Int)) := e_remI' (by decide)
  have e3 : effBin tab .quo 3 (dI H) (dI 64) = .set (dI ((H / 64 : Nat) : Int)) := e_quoI' (by decide) rfl (by unfold I64; omega)
  have c1 := tOf_t ((H % 64 : Nat) : Int) 64 (by unfold I64; omega) (by unfold I64; omega)
  have c2 := tOf_t 1 1 (by unfold I64; omega) (by unfold I64; omega)
  have hz : ∀ n, zl (mkN H n).1 ≤ n * 3 + 2 ∧ zl (mkN H n).2 ≤ n * 3 + 2 := by
    intro n
    induction n with
    | zero => exact gc_zl (by decide) ⟨zl_i64 ⟨by simp only; omega, by simp only; omega⟩, zl_i64 ⟨by simp only; omega, by simp only; omega⟩⟩
    | succ n ih => exact zl_gm (l := 1) ih ⟨by decide, by decide⟩ (by omega)
  have g11 : gc ((1 : Int), (1 : Int)) = (1, 1) := (show Cn2 ((1 : Int), (1 : Int)) from ⟨by decide, by decide⟩).gc
  rw [g11] at c2
  refine con_intro (fn := Tryz.f41) tok Tryz.func41 (by kernel_rfl) rfl ?_
  intro w0 X
  rw [entry_mkE _ _ [(0, dI h)] rfl rfl]
  refine AWP_reg_seq tok fun K hK => ?_
  refine s_alloc rfl rfl rfl rfl rfl rfl ?_
  refine s_end (hK _ ?_); clear hK K
  refine AWP_reg_seq tok fun K hK => ?_
  refine s_move rfl rfl rfl ?_
  refine s_bin rfl e1 rfl ?_
  refine s_assign rfl rfl rfl ?_
  refine s_end (hK _ ?_); clear hK K
  refine AWP_reg_seq tok fun K hK => ?_
  refine s_move rfl rfl rfl ?_
  refine s_bin rfl e2 rfl ?_
  refine s_call rfl rfl (c1) rfl rfl rfl rfl ?_
  refine s_alloc rfl rfl rfl rfl rfl rfl ?_
  refine s_store rfl rfl rfl rfl rfl ?_
  refine s_end (hK _ ?_); clear hK K
  refine AWP_seq ?_
  refine AWP_reg_seq tok fun K hK => ?_
  refine s_move rfl rfl rfl ?_
  refine s_bin rfl e3 rfl ?_
  refine s_move rfl rfl rfl ?_
  refine s_end (hK _ ?_); clear hK K
  refine AWP_block (a_loop (α := Nat) (fun i => mk 18 [(2, .ptr 2 0), (3, .ptr 3 0), (10, dI ((H / 64 : Nat) : Int)), (11, dI i)] [(2, some (.box [.d (.lit (.bool false)), .nil, .d (.lit (.bool false)), .nil])), (3, some (.box (pz2 (mkN H i)).cs))] []) (fun i => i ≤ H / 64) (fun i => H / 64 - i) 0 ?_ (Nat.zero_le _) ?_)
  · exact Wk.mk' ⟨rfl, rfl, rfl, rfl, trivial⟩ ⟨rfl, rfl, trivial⟩
  intro i hi
  refine AWP_reg_seq tok fun K hK => ?_
  refine s_bin rfl rfl rfl ?_
  refine s_end (hK _ ?_); clear hK K
  refine AWP_seq ?_
  refine a_cond rfl (fun hg => ?_) (fun hg => ?_)
  · have hg : i < H / 64 := by have := of_decide_eq_true hg; omega
    have h1 := hz i
    have c3 := tThen_t (pz2 (mkN H i)) (pz2 (1, 1)) (pz2_ok ⟨by omega, by omega⟩) (pz2_ok ⟨by decide, by decide⟩)
    rw [pz2_cn, pz2_cn, mkN_gc, g11] at c3
    refine AWP_skip ?_
    show AWP _ _ _ _ _ _
    refine AWP_seq ?_
    refine AWP_block ?_
    refine a_draw1 tok mixed (A := [[], [], [], []]) (an := [{}, {}, {}, {}]) rfl (by kernel_rfl) rfl fun K hK => ?_
    refine s_load rfl rfl rfl ?_
    refine s_call rfl rfl (c2) rfl rfl rfl rfl ?_
    refine s_call rfl rfl (c3) rfl rfl rfl rfl ?_
    refine s_store rfl rfl rfl rfl rfl ?_
    refine s_end (hK _ ?_); clear hK K
    show AWP _ _ _ _ _ _
    refine AWP_reg tok fun K hK => ?_
    refine s_bin rfl (e_add (c := ((i + 1 : Nat) : Int)) (by omega) (by omega)) rfl ?_
    refine s_move rfl rfl rfl ?_
    refine s_end (hK _ ?_); clear hK K
    exact ⟨i + 1, by omega, hg, Wk.mk' ⟨rfl, rfl, rfl, rfl, trivial⟩ ⟨rfl, rfl, trivial⟩⟩
  · have hg : i = H / 64 := by have := of_decide_eq_false hg; omega
    subst hg
    refine AWP_exit ?_
    show AWP _ _ _ _ _ _
    refine AWP_reg_seq tok fun K hK => ?_
    refine s_load rfl rfl rfl ?_
    refine s_store rfl rfl rfl rfl rfl ?_
    refine s_end (hK _ ?_); clear hK K
    refine AWP_ret ?_
    repeat (with_reducible refine tq_ret ?_)
    exact post_ret (fin_mk (by rfl) (by rfl) (by rfl))
end Go.Proofs.YtipenembpidoiaaGreatDoor

/- Rigid transforms. No condition. -/
namespace Go.Proofs.YtipenembpidoiaaGreatDoor
attribute [local irreducible] lexA

structure TR.OK (k : Nat) (t : TR) : Prop where
  r : t.r.OK k
  x : t.x.OK k
  y : t.y.OK k
theorem TR.OK.mono {t : TR} {k m : Nat} (h : t.OK k) (hk : Nat.ble k m = true) : t.OK m := ⟨h.r.mono hk, h.x.mono hk, h.y.mono hk⟩
def acX (t : TR) (x y : Rat) : Rat := tnX t.r.cn x y + t.x.v
def acY (t : TR) (x y : Rat) : Rat := tnY t.r.cn x y + t.y.v
def cmV (t u : TR) : TR := ⟨pz2 (gc (gm t.r.cn u.r.cn)), qzW (acX t u.x.v u.y.v), qzW (acY t u.x.v u.y.v)⟩
def bkV (t : TR) : TR := ⟨pz2 (inv2 t.r.cn), qzW (tnX (inv2 t.r.cn) (-t.x.v) (-t.y.v)), qzW (tnY (inv2 t.r.cn) (-t.x.v) (-t.y.v))⟩
def shV (x y : RW) : TR := ⟨pz2 one2, qzW x.v, qzW y.v⟩
theorem inv2_can (a : Int × Int) : gc (inv2 a) = inv2 a := gc_idem _
theorem ac_ql {t : TR} {x y : Rat} {k l m : Nat} (ok : t.OK k) (hk : Nat.ble 1 k = true) (hx : ql x ≤ l) (hy : ql y ≤ l) (hm : 5 * k + 2 * l + 4 ≤ m) : ql (acX t x y) ≤ m ∧ ql (acY t x y) ≤ m := by
  obtain ⟨h1, h2⟩ := tn_ql (m := 4 * k + 2 * l + 3) ok.r (Nat.le_of_ble_eq_true hk) hx hy (Nat.le_refl _)
  exact ⟨Nat.le_trans (ql_add_le h1 (ok.x.ql hk)) (by omega), Nat.le_trans (ql_add_le h2 (ok.y.ql hk)) (by omega)⟩
theorem cm_ok {t u : TR} {k l m : Nat} (ok : t.OK k) (hk : Nat.ble 1 k = true) (ou : u.OK l) (hl : Nat.ble 1 l = true) (hm : 5 * k + 2 * l + 4 ≤ m) : (cmV t u).OK m := by
  have h1 := ac_ql ok hk (ou.x.ql hl) (ou.y.ql hl) hm
  have k1 := Nat.le_of_ble_eq_true hk
  have l1 := Nat.le_of_ble_eq_true hl
  exact ⟨pz2_ok (zl_gm (ok.r.cn k1) (ou.r.cn l1) (by omega)), qzW_ok h1.1, qzW_ok h1.2⟩
theorem bk_ok {t : TR} {k m : Nat} (ok : t.OK k) (hk : Nat.ble 1 k = true) (hm : 6 * k + 3 ≤ m) : (bkV t).OK m := by
  have k1 := Nat.le_of_ble_eq_true hk
  have o1 : (pz2 (inv2 t.r.cn)).OK k := pz2_ok (zl_inv2 k1 (ok.r.cn k1))
  have h1 := tn_ql (m := m) o1 k1 (x := -t.x.v) (y := -t.y.v) (l := k) (by rw [ql_neg]; exact ok.x.ql hk) (by rw [ql_neg]; exact ok.y.ql hk) (by omega)
  rw [pz2_cn, inv2_can] at h1
  have h2 := zl_inv2 k1 (ok.r.cn k1)
  exact ⟨pz2_ok ⟨by omega, by omega⟩, qzW_ok h1.1, qzW_ok h1.2⟩
theorem sh_ok {x y : RW} {k : Nat} (hk : Nat.ble 1 k = true) (ox : x.OK k) (oy : y.OK k) : (shV x y).OK k := by
  have k1 := Nat.le_of_ble_eq_true hk
  exact ⟨pz2_ok ⟨Nat.le_trans (by decide : zl 0 ≤ 1) k1, Nat.le_trans (by decide : zl 1 ≤ 1) k1⟩, qzW_ok (ox.ql hk), qzW_ok (oy.ql hk)⟩

theorem tShift_t (x y : RW) (ox : x.OK 16777216) (oy : y.OK 16777216) : Con Tryz.prog 30 [AG x.cs, AG y.cs] { v := AG (shV x y).cs } := by
  have c0 : Con Tryz.prog 39 [dI 0, dI 1] { v := AG (pz2 one2).cs } := tOf_t 0 1 (by unfold I64; omega) (by unfold I64; omega)
  refine con_intro (fn := Tryz.f30) tok Tryz.func30 (by kernel_rfl) rfl ?_
  intro w0 X
  rw [entry_mkE _ _ [(0, AG x.cs), (1, AG y.cs)] rfl rfl]
  refine AWP_reg_seq tok fun K hK => ?_
  refine s_box rfl rfl rfl rfl rfl rfl ?_
  refine s_box rfl rfl rfl rfl rfl rfl ?_
  refine s_alloc rfl rfl rfl rfl rfl rfl ?_
  refine s_end (hK _ ?_); clear hK K
  refine a_draw tok mixed (A := [[], [], [], [], [0, 1], [1, 3], []]) (an := [{}, { c := [5] }, {}, { c := [5, 7] }, {}, {}, {}]) rfl (by kernel_rfl) rfl fun K hK => ?_
  refine s_call rfl rfl (c0) rfl rfl rfl rfl ?_
  refine s_load rfl rfl rfl ?_
  refine s_call rfl rfl (qNorm_t x ox) rfl rfl rfl rfl ?_
  refine s_load rfl rfl rfl ?_
  refine s_call rfl rfl (qNorm_t y oy) rfl rfl rfl rfl ?_
  refine s_build rfl rfl rfl ?_
  refine s_store rfl rfl rfl rfl rfl ?_
  refine s_end (hK _ ?_); clear hK K
  refine AWP_ret ?_
  repeat (with_reducible refine tq_ret ?_)
  exact post_ret (fin_mk (by rfl) (by rfl) (by rfl))

theorem tAct_t (t : TR) (x y : RW) (ok : t.OK 1048576) (ox : x.OK 1048576) (oy : y.OK 1048576) : Con Tryz.prog 24 [AG t.cs, AG x.cs, AG y.cs]
    { v := .tup [.agg (qzW (acX t x.v y.v)).cs, .agg (qzW (acY t x.v y.v)).cs] } := by
  have c1 := tTurn_t t.r x y ok.r ox oy
  have h1 := tn_ql (m := 16777216) ok.r (by decide) (ox.ql rfl) (oy.ql rfl) (by decide)
  unfold acX acY
  generalize tnX t.r.cn x.v y.v = u at *
  generalize tnY t.r.cn x.v y.v = v at *
  have c2 := qAdd_t (qzW u) t.x (u + t.x.v) (qzW_ok h1.1) (ok.x.mono rfl) (by rw [qzW_v])
  have c3 := qAdd_t (qzW v) t.y (v + t.y.v) (qzW_ok h1.2) (ok.y.mono rfl) (by rw [qzW_v])
  refine con_intro (fn := Tryz.f24) tok Tryz.func24 (by kernel_rfl) rfl ?_
  intro w0 X
  rw [entry_mkE _ _ [(0, AG t.cs), (1, AG x.cs), (2, AG y.cs)] rfl rfl]
  refine AWP_reg_seq tok fun K hK => ?_
  refine s_box rfl rfl rfl rfl rfl rfl ?_
  refine s_box rfl rfl rfl rfl rfl rfl ?_
  refine s_box rfl rfl rfl rfl rfl rfl ?_
  refine s_alloc rfl rfl rfl rfl rfl rfl ?_
  refine s_alloc rfl rfl rfl rfl rfl rfl ?_
  refine s_end (hK _ ?_); clear hK K
  refine AWP_reg_seq tok fun K hK => ?_
  refine s_fieldAddr rfl rfl rfl ?_
  refine s_load rfl rfl rfl ?_
  refine s_load rfl rfl rfl ?_
  refine s_load rfl rfl rfl ?_
  refine s_call rfl rfl (c1) rfl rfl rfl rfl ?_
  refine s_move rfl rfl rfl ?_
  refine s_extract rfl rfl rfl ?_
  refine s_extract rfl rfl rfl ?_
  refine s_alloc rfl rfl rfl rfl rfl rfl ?_
  refine s_alloc rfl rfl rfl rfl rfl rfl ?_
  refine s_store rfl rfl rfl rfl rfl ?_
  refine s_store rfl rfl rfl rfl rfl ?_
  refine s_end (hK _ ?_); clear hK K
  refine a_draw tok mixed (A := [[], [], [], [1], [], [], [], [0, 1, 2, 5], [4, 5, 6], []]) (an := [{}, {}, {}, {}, { c := [21] }, { c := [21] }, { c := [21] }, {}, {}, {}]) rfl (by kernel_rfl) rfl fun K hK => ?_
  refine s_load rfl rfl rfl ?_
  refine s_fieldAddr rfl rfl rfl ?_
  refine s_load rfl rfl rfl ?_
  refine s_call rfl rfl (c2) rfl rfl rfl rfl ?_
  refine s_load rfl rfl rfl ?_
  refine s_fieldAddr rfl rfl rfl ?_
  refine s_load rfl rfl rfl ?_
  refine s_call rfl rfl (c3) rfl rfl rfl rfl ?_
  refine s_store rfl rfl rfl rfl rfl ?_
  refine s_store rfl rfl rfl rfl rfl ?_
  refine s_end (hK _ ?_); clear hK K
  refine AWP_ret ?_
  repeat (with_reducible refine tq_ret ?_)
  exact post_ret (fin_mk (by rfl) (by rfl) (by rfl))

theorem tCompose_t (t u : TR) (ok : t.OK 1048576) (ou : u.OK 1048576) : Con Tryz.prog 26 [AG t.cs, AG u.cs] { v := AG (cmV t u).cs } := by
  have c1 := tAct_t t u.x u.y ok ou.x ou.y
  have c2 := tThen_t t.r u.r (ok.r.mono rfl) (ou.r.mono rfl)
  unfold cmV
  generalize qzW (acX t u.x.v u.y.v) = p at *
  generalize qzW (acY t u.x.v u.y.v) = q at *
  generalize pz2 (gc (gm t.r.cn u.r.cn)) = s at *
  refine con_intro (fn := Tryz.f26) tok Tryz.func26 (by kernel_rfl) rfl ?_
  intro w0 X
  rw [entry_mkE _ _ [(0, AG t.cs), (1, AG u.cs)] rfl rfl]
  refine AWP_reg_seq tok fun K hK => ?_
  refine s_box rfl rfl rfl rfl rfl rfl ?_
  refine s_box rfl rfl rfl rfl rfl rfl ?_
  refine s_alloc rfl rfl rfl rfl rfl rfl ?_
  refine s_end (hK _ ?_); clear hK K
  refine AWP_reg_seq tok fun K hK => ?_
  refine s_load rfl rfl rfl ?_
  refine s_fieldAddr rfl rfl rfl ?_
  refine s_load rfl rfl rfl ?_
  refine s_fieldAddr rfl rfl rfl ?_
  refine s_load rfl rfl rfl ?_
  refine s_call rfl rfl (c1) rfl rfl rfl rfl ?_
  refine s_move rfl rfl rfl ?_
  refine s_extract rfl rfl rfl ?_
  refine s_extract rfl rfl rfl ?_
  refine s_alloc rfl rfl rfl rfl rfl rfl ?_
  refine s_alloc rfl rfl rfl rfl rfl rfl ?_
  refine s_store rfl rfl rfl rfl rfl ?_
  refine s_store rfl rfl rfl rfl rfl ?_
  refine s_end (hK _ ?_); clear hK K
  refine a_draw tok mixed (A := [[], [], [], [], [0, 2], [], [], [0, 1, 2, 3], []]) (an := [{}, {}, {}, {}, {}, { c := [20] }, { c := [20] }, {}, {}]) rfl (by kernel_rfl) rfl fun K hK => ?_
  refine s_fieldAddr rfl rfl rfl ?_
  refine s_load rfl rfl rfl ?_
  refine s_fieldAddr rfl rfl rfl ?_
  refine s_load rfl rfl rfl ?_
  refine s_call rfl rfl (c2) rfl rfl rfl rfl ?_
  refine s_load rfl rfl rfl ?_
  refine s_load rfl rfl rfl ?_
  refine s_build rfl rfl rfl ?_
  refine s_store rfl rfl rfl rfl rfl ?_
  refine s_end (hK _ ?_); clear hK K
  refine AWP_ret ?_
  repeat (with_reducible refine tq_ret ?_)
  exact post_ret (fin_mk (by rfl) (by rfl) (by rfl))

set_option maxHeartbeats 4000000 in
theorem tBack_t (t : TR) (ok : t.OK 1048576) : Con Tryz.prog 28 [AG t.cs] { v := AG (bkV t).cs } := by
  have c1 := tInv_t t.r (ok.r.mono rfl)
  have c2 := qNeg_t t.x (ok.x.mono rfl)
  have c3 := qNeg_t t.y (ok.y.mono rfl)
  have c4 := tTurn_t (pz2 (inv2 t.r.cn)) (qzW (-t.x.v)) (qzW (-t.y.v)) (pz2_ok (zl_inv2 (by decide) (ok.r.cn (by decide)))) (qzW_ok (by rw [ql_neg]; exact ok.x.ql rfl)) (qzW_ok (by rw [ql_neg]; exact ok.y.ql rfl))
  rw [pz2_cn, inv2_can, qzW_v, qzW_v] at c4
  unfold bkV
  generalize qzW (tnX (inv2 t.r.cn) (-t.x.v) (-t.y.v)) = p at *
  generalize qzW (tnY (inv2 t.r.cn) (-t.x.v) (-t.y.v)) = q at *
  generalize pz2 (inv2 t.r.cn) = s at *
  generalize qzW (-t.x.v) = x at *
  generalize qzW (-t.y.v) = y at *
  refine con_intro (fn := Tryz.f28) tok Tryz.func28 (by kernel_rfl) rfl ?_
  intro w0 X
  rw [entry_mkE _ _ [(0, AG t.cs)] rfl rfl]
  refine AWP_reg_seq tok fun K hK => ?_
  refine s_box rfl rfl rfl rfl rfl rfl ?_
  refine s_alloc rfl rfl rfl rfl rfl rfl ?_
  refine s_end (hK _ ?_); clear hK K
  refine AWP_reg_seq tok fun K hK => ?_
  refine s_fieldAddr rfl rfl rfl ?_
  refine s_load rfl rfl rfl ?_
  refine s_call rfl rfl (c1) rfl rfl rfl rfl ?_
  refine s_alloc rfl rfl rfl rfl rfl rfl ?_
  refine s_store rfl rfl rfl rfl rfl ?_
  refine s_end (hK _ ?_); clear hK K
  refine a_draw tok mixed (A := [[], [], [], [1], [], [], [1, 2, 4], [1, 2, 4, 5], [0, 1, 2, 3, 4, 5, 6], [0, 1, 2, 3, 4, 5, 6, 7], [0, 1, 2, 3, 4, 5, 6, 7], [], [], [], []]) (an := [{}, {}, {}, {}, { c := [13] }, { c := [13] }, {}, {}, {}, {}, {}, { c := [13, 16, 17] }, { c := [13, 16, 17, 4] }, {}, {}]) rfl (by kernel_rfl) rfl fun K hK => ?_
  refine s_load rfl rfl rfl ?_
  refine s_fieldAddr rfl rfl rfl ?_
  refine s_load rfl rfl rfl ?_
  refine s_call rfl rfl (c2) rfl rfl rfl rfl ?_
  refine s_fieldAddr rfl rfl rfl ?_
  refine s_load rfl rfl rfl ?_
  refine s_call rfl rfl (c3) rfl rfl rfl rfl ?_
  refine s_call rfl rfl (c4) rfl rfl rfl rfl ?_
  refine s_move rfl rfl rfl ?_
  refine s_extract rfl rfl rfl ?_
  refine s_extract rfl rfl rfl ?_
  refine s_alloc rfl rfl rfl rfl rfl rfl ?_
  refine s_alloc rfl rfl rfl rfl rfl rfl ?_
  refine s_store rfl rfl rfl rfl rfl ?_
  refine s_store rfl rfl rfl rfl rfl ?_
  refine s_end (hK _ ?_); clear hK K
  refine AWP_reg_seq tok fun K hK => ?_
  refine s_load rfl rfl rfl ?_
  refine s_load rfl rfl rfl ?_
  refine s_load rfl rfl rfl ?_
  refine s_build rfl rfl rfl ?_
  refine s_store rfl rfl rfl rfl rfl ?_
  refine s_end (hK _ ?_); clear hK K
  refine AWP_ret ?_
  repeat (with_reducible refine tq_ret ?_)
  exact post_ret (fin_mk (by rfl) (by rfl) (by rfl))

def eqT (t u : TR) : Bool := decide (t.r.cn = u.r.cn) && (decide (t.x.v = u.x.v) && decide (t.y.v = u.y.v))

theorem tEqual_t (t u : TR) (ok : t.OK 1048576) (ou : u.OK 1048576) : Con Tryz.prog 33 [AG t.cs, AG u.cs] { v := dB (eqT t u) } := by
  have c1 := tSame_t t.r u.r (ok.r.mono rfl) (ou.r.mono rfl)
  have c2 := qCmp_t t.x u.x (ok.x.mono rfl) (ou.x.mono rfl)
  have c3 := qCmp_t t.y u.y (ok.y.mono rfl) (ou.y.mono rfl)
  refine con_intro (fn := Tryz.f33) tok Tryz.func33 (by kernel_rfl) rfl ?_
  intro w0 X
  rw [entry_mkE _ _ [(0, AG t.cs), (1, AG u.cs)] rfl rfl]
  refine AWP_reg_seq tok fun K hK => ?_
  refine s_box rfl rfl rfl rfl rfl rfl ?_
  refine s_box rfl rfl rfl rfl rfl rfl ?_
  refine s_assign rfl rfl rfl ?_
  refine s_end (hK _ ?_); clear hK K
  refine AWP_reg_seq tok fun K hK => ?_
  refine s_fieldAddr rfl rfl rfl ?_
  refine s_load rfl rfl rfl ?_
  refine s_fieldAddr rfl rfl rfl ?_
  refine s_load rfl rfl rfl ?_
  refine s_call rfl rfl (c1) rfl rfl rfl rfl ?_
  refine s_move rfl rfl rfl ?_
  refine s_split (fun h => ?_) (fun h => ?_)
  · refine s_fieldAddr rfl rfl rfl ?_
    refine s_load rfl rfl rfl ?_
    refine s_fieldAddr rfl rfl rfl ?_
    refine s_load rfl rfl rfl ?_
    refine s_call rfl rfl (c2) rfl rfl rfl rfl ?_
    refine s_bin rfl rfl rfl ?_
    refine s_pick rfl rfl rfl ?_
    refine s_move rfl rfl rfl ?_
    refine s_split (fun h2 => ?_) (fun h2 => ?_)
    · rw [qcmp_eq] at h2
      refine s_fieldAddr rfl rfl rfl ?_
      refine s_load rfl rfl rfl ?_
      refine s_fieldAddr rfl rfl rfl ?_
      refine s_load rfl rfl rfl ?_
      refine s_call rfl rfl (c3) rfl rfl rfl rfl ?_
      refine s_bin rfl rfl rfl ?_
      refine s_pick rfl rfl rfl ?_
      refine s_assign rfl rfl rfl ?_
      refine s_end (hK _ ?_); clear hK K
      refine AWP_ret ?_
      repeat (with_reducible refine tq_ret ?_)
      exact post_ret (fin_mk (by rfl) (by rfl) (by rw [eqT, h, h2, Bool.true_and, Bool.true_and, ← qcmp_eq]; rfl))
    · rw [qcmp_eq] at h2
      refine s_skip rfl ?_
      refine s_skip rfl ?_
      refine s_skip rfl ?_
      refine s_skip rfl ?_
      refine s_skip rfl ?_
      refine s_skip rfl ?_
      refine s_pick rfl rfl rfl ?_
      refine s_assign rfl rfl rfl ?_
      refine s_end (hK _ ?_); clear hK K
      refine AWP_ret ?_
      repeat (with_reducible refine tq_ret ?_)
      exact post_ret (fin_mk (by rfl) (by rfl) (by rw [eqT, h, h2]; rfl))
  · refine s_skip rfl ?_
    refine s_skip rfl ?_
    refine s_skip rfl ?_
    refine s_skip rfl ?_
    refine s_skip rfl ?_
    refine s_skip rfl ?_
    refine s_pick rfl rfl rfl ?_
    refine s_move rfl rfl rfl ?_
    refine s_skip rfl ?_
    refine s_skip rfl ?_
    refine s_skip rfl ?_
    refine s_skip rfl ?_
    refine s_skip rfl ?_
    refine s_skip rfl ?_
    refine s_pick rfl rfl rfl ?_
    refine s_assign rfl rfl rfl ?_
    refine s_end (hK _ ?_); clear hK K
    refine AWP_ret ?_
    repeat (with_reducible refine tq_ret ?_)
    exact post_ret (fin_mk (by rfl) (by rfl) (by rw [eqT, h]; rfl))
end Go.Proofs.YtipenembpidoiaaGreatDoor

/- Small numbers as text. No condition. -/
namespace Go.Proofs.YtipenembpidoiaaGreatDoor
attribute [local irreducible] lexA

theorem trimW_one {d : Nat} (h : d ≠ 0) : trimW [d] = [d] := by
  unfold trimW; simp [h]
def digL : List UInt8 := [48, 49, 50, 51, 52, 53, 54, 55, 56, 57, 97, 98, 99, 100, 101, 102, 103, 104, 105, 106, 107, 108, 109, 110, 111, 112, 113, 114, 115, 116, 117, 118, 119, 120, 121, 122]
def smallL : List UInt8 := [48, 48, 48, 49, 48, 50, 48, 51, 48, 52, 48, 53, 48, 54, 48, 55, 48, 56, 48, 57, 49, 48, 49, 49, 49, 50, 49, 51, 49, 52, 49, 53, 49, 54, 49, 55, 49, 56, 49, 57, 50, 48, 50, 49, 50, 50, 50, 51, 50, 52] ++ [50, 53, 50, 54, 50, 55, 50, 56, 50, 57, 51, 48, 51, 49, 51, 50, 51, 51, 51, 52, 51, 53, 51, 54, 51, 55, 51, 56, 51, 57, 52, 48, 52, 49, 52, 50, 52, 51, 52, 52, 52, 53, 52, 54, 52, 55, 52, 56, 52, 57] ++ [53, 48, 53, 49, 53, 50, 53, 51, 53, 52, 53, 53, 53, 54, 53, 55, 53, 56, 53, 57, 54, 48, 54, 49, 54, 50, 54, 51, 54, 52, 54, 53, 54, 54, 54, 55, 54, 56, 54, 57, 55, 48, 55, 49, 55, 50, 55, 51, 55, 52] ++ [55, 53, 55, 54, 55, 55, 55, 56, 55, 57, 56, 48, 56, 49, 56, 50, 56, 51, 56, 52, 56, 53, 56, 54, 56, 55, 56, 56, 56, 57, 57, 48, 57, 49, 57, 50, 57, 51, 57, 52, 57, 53, 57, 54, 57, 55, 57, 56, 57, 57]
/-- The text of a number below a hundred. -/
def txL (d : Nat) : List UInt8 := if d < 10 then (digL.drop d).take 1 else (smallL.drop (2 * d)).take 2
abbrev sB (l : List UInt8) : DC := .lit (.string ⟨l.toArray⟩)
theorem e_subS {T : Tab} {t : TypeId} {ti : TI} {s : ByteArray} {l : List UInt8} {i j : Int} {a b : Nat} (h1 : T t = some ti) (h2 : ti.und = .string) (hs : s = ⟨l.toArray⟩) (hi : i = (a : Int)) (hj : j = (b : Int)) (hab : a ≤ b) (hb : b ≤ l.length) :
    effSliceN T t (V1 (.lit (.string s))) i j = .set (V1 (sB ((l.drop a).take (b - a)))) := by
  subst hs hi hj
  have e : (ByteArray.mk l.toArray).size = l.length := by simp [ByteArray.size]
  simp only [effSliceN, h1, h2, strOf]
  rw [if_pos ⟨by omega, by omega, by rw [e]; omega⟩]
  show setLit (.string ((ByteArray.mk l.toArray).extract ((a : Int)).toNat ((b : Int)).toNat)) = _
  rw [show ((a : Int)).toNat = a from rfl, show ((b : Int)).toNat = b from rfl, Go.ByteArray.extract_mk]
  rfl

theorem small_c (d : Nat) (hd : d < 100) : Con Tryz.prog 126 [dI d] { v := V1 (sB (txL d)) } := by
  have l1 : digL.length = 36 := rfl
  have l2 : smallL.length = 200 := rfl
  refine con_intro (fn := Tryz.f126) tok Tryz.func126 (by kernel_rfl) rfl ?_
  intro w0 X
  rw [entry_mkE _ _ [(0, dI d)] rfl rfl]
  refine AWP_reg_seq tok fun K hK => ?_
  refine s_assign rfl rfl rfl ?_
  refine s_end (hK _ ?_); clear hK K
  refine AWP_seq ?_
  refine AWP_reg_seq tok fun K hK => ?_
  refine s_move rfl rfl rfl ?_
  refine s_bin rfl rfl rfl ?_
  refine s_end (hK _ ?_); clear hK K
  refine a_cond rfl (fun hc => ?_) (fun hc => ?_)
  · have hc : d < 10 := by have := of_decide_eq_true hc; omega
    refine AWP_reg_seq tok fun K hK => ?_
    refine s_move rfl rfl rfl ?_
    refine s_move rfl rfl rfl ?_
    refine s_bin rfl (e_add (c := ((d + 1 : Nat) : Int)) (by omega) (by omega)) rfl ?_
    refine s_slice rfl rfl rfl (e_subS (l := digL) (a := d) (b := d + 1) rfl rfl rfl rfl rfl (by omega) (by omega)) rfl ?_
    refine s_assign rfl rfl rfl ?_
    refine s_end (hK _ ?_); clear hK K
    refine AWP_ret ?_
    repeat (with_reducible refine tq_ret ?_)
    exact post_ret (fin_mk (by rfl) (by rfl) (by unfold txL; rw [if_pos hc, Nat.add_sub_cancel_left]; rfl))
  · have hc : ¬ d < 10 := by have := of_decide_eq_false hc; omega
    refine AWP_skip ?_
    show AWP _ _ _ _ _ _
    refine AWP_reg_seq tok fun K hK => ?_
    refine s_move rfl rfl rfl ?_
    refine s_bin rfl (e_mul (c := ((2 * d : Nat) : Int)) (by omega) (by omega)) rfl ?_
    refine s_move rfl rfl rfl ?_
    refine s_bin rfl (e_mul (c := ((2 * d : Nat) : Int)) (by omega) (by omega)) rfl ?_
    refine s_bin rfl (e_add (c := ((2 * d + 2 : Nat) : Int)) (by omega) (by omega)) rfl ?_
    refine s_slice rfl rfl rfl (e_subS (l := smallL) (a := 2 * d) (b := 2 * d + 2) rfl rfl rfl rfl rfl (by omega) (by omega)) rfl ?_
    refine s_assign rfl rfl rfl ?_
    refine s_end (hK _ ?_); clear hK K
    refine AWP_ret ?_
    repeat (with_reducible refine tq_ret ?_)
    exact post_ret (fin_mk (by rfl) (by rfl) (by unfold txL; rw [if_neg hc, Nat.add_sub_cancel_left]; rfl))

theorem fmtI_c (d : Nat) (hd : d < 100) : Con Tryz.prog 115 [dL d, dI 10] { v := V1 (sB (txL d)) } := by
  refine con_intro (fn := Tryz.f115) tok Tryz.func115 (by kernel_rfl) rfl ?_
  intro w0 X
  rw [entry_mkE _ _ [(0, dL d), (1, dI 10)] rfl rfl]
  refine AWP_reg_seq tok fun K hK => ?_
  refine s_assign rfl rfl rfl ?_
  refine s_end (hK _ ?_); clear hK K
  refine AWP_seq ?_
  refine AWP_reg_seq tok fun K hK => ?_
  refine s_move rfl rfl rfl ?_
  refine s_bin rfl rfl rfl ?_
  refine s_end (hK _ ?_); clear hK K
  refine a_cond rfl (fun _ => ?_) (fun hc => by cases hc)
  refine AWP_seq ?_
  refine AWP_reg_seq tok fun K hK => ?_
  refine s_move rfl rfl rfl ?_
  refine s_bin rfl rfl rfl ?_
  refine s_end (hK _ ?_); clear hK K
  refine a_cond rfl (fun _ => ?_) (fun hc => by have := of_decide_eq_false hc; omega)
  refine AWP_reg_seq tok fun K hK => ?_
  refine s_move rfl rfl rfl ?_
  refine s_conv rfl (e_conv rfl rfl rfl (by show IntKind.i64.wrap (d : Int) = (d : Int); exact IntWalk.i64_in _ (by omega))) rfl ?_
  refine s_call rfl rfl (small_c d hd) rfl rfl rfl rfl ?_
  refine s_assign rfl rfl rfl ?_
  refine s_end (hK _ ?_); clear hK K
  refine AWP_ret ?_
  repeat (with_reducible refine tq_ret ?_)
  exact post_ret (fin_mk (by rfl) (by rfl) (by rfl))
theorem fmt_c (d : Nat) (hd : d < 100) : Con Tryz.prog 105 [dL d, dI 10] { v := V1 (sB (txL d)) } := by
  show Con _ _ _ _
  refine con_intro (fn := Tryz.f105) tok Tryz.func105 (by kernel_rfl) rfl ?_
  intro w0 X
  rw [entry_mkE _ _ [(0, dL d), (1, dI 10)] rfl rfl]
  refine AWP_reg_seq tok fun K hK => ?_
  refine s_assign rfl rfl rfl ?_
  refine s_end (hK _ ?_); clear hK K
  refine AWP_reg_seq tok fun K hK => ?_
  refine s_move rfl rfl rfl ?_
  refine s_move rfl rfl rfl ?_
  refine s_call rfl rfl (fmtI_c d hd) rfl rfl rfl rfl ?_
  refine s_assign rfl rfl rfl ?_
  refine s_end (hK _ ?_); clear hK K
  refine AWP_ret ?_
  repeat (with_reducible refine tq_ret ?_)
  exact post_ret (fin_mk (by rfl) (by rfl) (by rfl))

theorem rev1_c (s : DC) : Con Tryz.prog 107 [V1 (.sl [[s]])] { v := .tup [] } := by
  refine con_intro (fn := Tryz.f107) tok Tryz.func107 (by kernel_rfl) rfl ?_
  intro w0 X
  rw [entry_mkE _ _ [(0, V1 (.sl [[s]]))] rfl rfl]
  refine AWP_reg_seq tok fun K hK => ?_
  refine s_move rfl rfl rfl ?_
  refine s_blt rfl (len_d (n := 1) rfl rfl rfl) rfl ?_
  refine s_bin rfl rfl rfl ?_
  refine s_assign rfl rfl rfl ?_
  refine s_assign rfl rfl rfl ?_
  refine s_end (hK _ ?_); clear hK K
  refine AWP_block (a_loop (α := Unit) (fun _ => mk 28 [(2, dI 0), (3, dI 0)] [] []) (fun _ => True) (fun _ => 0) () ?_ trivial ?_)
  · exact Wk.mk' ⟨rfl, rfl, trivial⟩ trivial
  rintro - -
  refine AWP_seq ?_
  refine AWP_reg_seq tok fun K hK => ?_
  refine s_move rfl rfl rfl ?_
  refine s_move rfl rfl rfl ?_
  refine s_bin rfl rfl rfl ?_
  refine s_end (hK _ ?_); clear hK K
  refine a_cond rfl (fun hc => by cases hc) (fun _ => ?_)
  refine AWP_exit ?_
  exact (fin_mk (by rfl) (by rfl) (by rfl) : Fin tab Tryz.f107 _ _)
theorem join1_c (s sep : ByteArray) : Con Tryz.prog 108 [V1 (.sl [[.lit (.string s)]]), V1 (.lit (.string sep))] { v := V1 (.lit (.string s)) } := by
  refine con_intro (fn := Tryz.f108) tok Tryz.func108 (by kernel_rfl) rfl ?_
  intro w0 X
  rw [entry_mkE _ _ [(0, V1 (.sl [[.lit (.string s)]])), (1, V1 (.lit (.string sep)))] rfl rfl]
  refine AWP_reg_seq tok fun K hK => ?_
  refine s_assign rfl rfl rfl ?_
  refine s_end (hK _ ?_); clear hK K
  refine AWP_seq ?_
  refine AWP_reg_seq tok fun K hK => ?_
  refine s_move rfl rfl rfl ?_
  refine s_blt rfl (len_d (n := 1) rfl rfl rfl) rfl ?_
  refine s_end (hK _ ?_); clear hK K
  refine AWP_block ?_
  refine AWP_reg_seq tok fun K hK => ?_
  refine s_bin rfl rfl rfl ?_
  refine s_assign rfl rfl rfl ?_
  refine s_end (hK _ ?_); clear hK K
  refine a_cond rfl (fun hc => by cases hc) (fun _ => ?_)
  refine AWP_reg_seq tok fun K hK => ?_
  refine s_bin rfl rfl rfl ?_
  refine s_assign rfl rfl rfl ?_
  refine s_end (hK _ ?_); clear hK K
  refine a_cond rfl (fun _ => ?_) (fun hc => by cases hc)
  refine AWP_reg_seq tok fun K hK => ?_
  refine s_move rfl rfl rfl ?_
  refine s_indexAddr rfl (x_d (i := 0) rfl rfl rfl rfl rfl rfl) rfl ?_
  refine s_load rfl rfl rfl ?_
  refine s_assign rfl rfl rfl ?_
  refine s_end (hK _ ?_); clear hK K
  refine AWP_ret ?_
  repeat (with_reducible refine tq_ret ?_)
  exact post_ret (fin_mk (by rfl) (by rfl) (by rfl))

theorem qOne_t (x : Int) (hx : zl x ≤ 536870912) : Con Tryz.prog 81 [AG (ZC x)] { v := dB (decide (x = 1)) } := by
  have c1 := iCmpZ_c x 1 hx (by decide)
  refine con_intro (fn := Tryz.f81) tok Tryz.func81 (by kernel_rfl) rfl ?_
  intro w0 X
  rw [entry_mkE _ _ [(0, AG (ZC x))] rfl rfl]
  refine AWP_reg_seq tok fun K hK => ?_
  refine s_box rfl rfl rfl rfl rfl rfl ?_
  refine s_assign rfl rfl rfl ?_
  refine s_end (hK _ ?_); clear hK K
  refine a_draw tok mixed (A := [[], [], [], [0, 1], []]) (an := [{}, {}, {}, {}, {}]) rfl (by kernel_rfl) rfl fun K hK => ?_
  refine s_load rfl rfl rfl ?_
  refine s_call rfl rfl (iOf_c 1 (by unfold I64; omega)) rfl rfl rfl rfl ?_
  refine s_call rfl rfl (c1) rfl rfl rfl rfl ?_
  refine s_bin rfl rfl rfl ?_
  refine s_assign rfl rfl rfl ?_
  refine s_end (hK _ ?_); clear hK K
  refine AWP_ret ?_
  repeat (with_reducible refine tq_ret ?_)
  exact post_ret (fin_mk (by rfl) (by rfl) (by rw [← zcmp_eq]; rfl))

def tabD : Tab := { tab with dat := fun _ => true }
theorem tokD : TOK Tryz.prog tabD := ⟨tok.ty, tok.clo, tok.eqs⟩
/-- The text of an integer below a hundred. -/
theorem iText_c (d : Nat) (hd : d < 100) : Con Tryz.prog 82 [AG (ZC d)] { v := V1 (sB (txL d)) } := by
  refine con_intro (fn := Tryz.f82) tokD Tryz.func82 (by kernel_rfl) rfl ?_
  intro w0 X
  rw [entry_mkE _ _ [(0, AG (ZC d))] rfl rfl]
  rcases Nat.eq_zero_or_pos d with h0 | h0
  · subst h0
    refine AWP_reg_seq tokD fun K hK => ?_
    refine s_box rfl rfl rfl rfl rfl rfl ?_
    refine s_assign rfl rfl rfl ?_
    refine s_end (hK _ ?_); clear hK K
    refine AWP_reg_seq tokD fun K hK => ?_
    refine s_fieldAddr rfl rfl rfl ?_
    refine s_load rfl rfl rfl ?_
    refine s_call rfl rfl (trimZ_c [] wOK.nil (by decide)) rfl rfl rfl rfl ?_
    refine s_call rfl rfl (clone_c [] (by decide)) rfl rfl rfl rfl ?_
    refine s_assign rfl rfl rfl ?_
    refine s_end (hK _ ?_); clear hK K
    refine AWP_seq ?_
    refine AWP_reg_seq tokD fun K hK => ?_
    refine s_move rfl rfl rfl ?_
    refine s_blt rfl (len_w rfl rfl rfl) rfl ?_
    refine s_bin rfl rfl rfl ?_
    refine s_end (hK _ ?_); clear hK K
    refine a_cond rfl (fun _ => ?_) (fun hc => by cases hc)
    refine AWP_reg_seq tokD fun K hK => ?_
    refine s_assign rfl rfl rfl ?_
    refine s_end (hK _ ?_); clear hK K
    refine AWP_ret ?_
    repeat (with_reducible refine tq_ret ?_)
    exact post_ret (fin_mk (by rfl) (by rfl) (by rfl))
  have hw : wof d = [d] := by
    have e : wv [d] = d := by simp [wv]
    rw [← e, ← trimW_eq (wOK.one (by omega))]
    exact trimW_one (by omega)
  have hz : ZC (d : Int) = IC false [d] := by unfold ZC; rw [Int.natAbs_natCast, hw, decide_eq_false (by omega)]
  have hok : wOK [d] := wOK.one (by omega)
  have hv : wv [d] = d := by simp [wv]
  have cs := short_c [d] 1000000000 hok (by decide) (by decide) (by simp)
  rw [hv, Nat.div_eq_of_lt (show d < 1000000000 by omega), Nat.mod_eq_of_lt (show d < 1000000000 by omega)] at cs
  have ct := trimZ_c (wfix [d].length 0) (wfix_ok _ _) (by simp [wfix])
  rw [wv_wfix, Nat.zero_mod] at ct
  have c0 := trimZ_c [d] hok (by simp)
  rw [hv, hw] at c0
  rw [hz]
  refine AWP_reg_seq tokD fun K hK => ?_
  refine s_box rfl rfl rfl rfl rfl rfl ?_
  refine s_assign rfl rfl rfl ?_
  refine s_end (hK _ ?_); clear hK K
  refine AWP_reg_seq tokD fun K hK => ?_
  refine s_fieldAddr rfl rfl rfl ?_
  refine s_load rfl rfl rfl ?_
  refine s_call rfl rfl (c0) rfl rfl rfl rfl ?_
  refine s_call rfl rfl (clone_c [d] (by simp)) rfl rfl rfl rfl ?_
  refine s_assign rfl rfl rfl ?_
  refine s_end (hK _ ?_); clear hK K
  refine AWP_seq ?_
  refine AWP_reg_seq tokD fun K hK => ?_
  refine s_move rfl rfl rfl ?_
  refine s_blt rfl (len_w rfl rfl rfl) rfl ?_
  refine s_bin rfl rfl rfl ?_
  refine s_end (hK _ ?_); clear hK K
  refine a_cond rfl (fun hc => by cases hc) (fun _ => ?_)
  refine AWP_skip ?_
  show AWP _ _ _ _ _ _
  refine AWP_reg_seq tokD fun K hK => ?_
  refine s_assign rfl rfl rfl ?_
  refine s_end (hK _ ?_); clear hK K
  refine AWP_seq ?_
  refine AWP_block (a_loop (α := Nat) (fun i => mk 49 [(1, .ptr 1 0), (3, V1 (dW ([d].drop i))), (4, ownN 4 1 i)] [(1, some (.box (IC false [d]))), (4, arrN 1 [[sB (txL d)]] i)] []) (fun i => i ≤ 1) (fun i => 1 - i) 0 ?_ (Nat.zero_le _) ?_)
  · exact Wk.mk' ⟨rfl, rfl, rfl, trivial⟩ ⟨rfl, rfl, trivial⟩
  intro i hi
  refine AWP_seq ?_
  rcases i with _ | i
  · refine AWP_reg_seq tokD fun K hK => ?_
    refine s_move rfl rfl rfl ?_
    refine s_blt rfl (len_w rfl rfl rfl) rfl ?_
    refine s_bin rfl rfl rfl ?_
    refine s_end (hK _ ?_); clear hK K
    refine a_cond rfl (fun _ => ?_) (fun hc => by cases hc)
    refine AWP_skip ?_
    show AWP _ _ _ _ _ _
    refine AWP_block ?_
    refine AWP_reg_seq tokD fun K hK => ?_
    refine s_assign rfl rfl rfl ?_
    refine s_end (hK _ ?_); clear hK K
    refine AWP_reg_seq tokD fun K hK => ?_
    refine s_move rfl rfl rfl ?_
    refine s_call rfl rfl (cs) rfl rfl rfl rfl ?_
    refine s_move rfl rfl rfl ?_
    refine s_extract rfl rfl rfl ?_
    refine s_extract rfl rfl rfl ?_
    refine s_assign rfl rfl rfl ?_
    refine s_assign rfl rfl rfl ?_
    refine s_end (hK _ ?_); clear hK K
    refine AWP_reg_seq tokD fun K hK => ?_
    refine s_move rfl rfl rfl ?_
    refine s_call rfl rfl (ct) rfl rfl rfl rfl ?_
    refine s_assign rfl rfl rfl ?_
    refine s_end (hK _ ?_); clear hK K
    refine AWP_reg_seq tokD fun K hK => ?_
    refine s_move rfl rfl rfl ?_
    refine s_conv rfl (e_conv rfl rfl rfl (by show IntKind.u64.wrap (d : Int) = (d : Int); rw [w_u64]; omega)) rfl ?_
    refine s_call rfl rfl (fmt_c d hd) rfl rfl rfl rfl ?_
    refine s_assign rfl rfl rfl ?_
    refine s_end (hK _ ?_); clear hK K
    refine AWP_seq ?_
    refine AWP_reg_seq tokD fun K hK => ?_
    refine s_move rfl rfl rfl ?_
    refine s_blt rfl (len_w rfl rfl rfl) rfl ?_
    refine s_bin rfl rfl rfl ?_
    refine s_end (hK _ ?_); clear hK K
    refine a_cond rfl (fun hc => by cases hc) (fun _ => ?_)
    refine AWP_skip ?_
    show AWP _ _ _ _ _ _
    refine AWP_reg tokD fun K hK => ?_
    refine s_move rfl rfl rfl ?_
    refine s_move rfl rfl rfl ?_
    refine s_buildSliceD rfl rfl rfl rfl ?_
    refine s_append rfl (ap_nil rfl rfl rfl rfl rfl (by decide) (Nat.le_of_ble_eq_true rfl) rfl (by simp) rfl (by simp) (by simp)) rfl rfl ?_
    refine s_assign rfl rfl rfl ?_
    refine s_end (hK _ ?_); clear hK K
    refine ⟨1, by omega, by omega, Wk.rn [1, 3, 4] [1, 39] 39 4 rfl rfl rfl ⟨rfl, rfl, rfl, trivial⟩ ⟨rfl, rfl, trivial⟩⟩
  · obtain rfl : i = 0 := by omega
    refine AWP_reg_seq tokD fun K hK => ?_
    refine s_move rfl rfl rfl ?_
    refine s_blt rfl (len_w rfl rfl rfl) rfl ?_
    refine s_bin rfl rfl rfl ?_
    refine s_end (hK _ ?_); clear hK K
    refine a_cond rfl (fun hc => by cases hc) (fun _ => ?_)
    refine AWP_exit ?_
    show AWP _ _ _ _ _ _
    refine AWP_seq ?_
    refine AWP_reg_seq tokD fun K hK => ?_
    refine s_fieldAddr rfl rfl rfl ?_
    refine s_load rfl rfl rfl ?_
    refine s_end (hK _ ?_); clear hK K
    refine a_cond rfl (fun hc => by cases hc) (fun _ => ?_)
    refine AWP_skip ?_
    show AWP _ _ _ _ _ _
    refine a_fz [4] [4] 4 [(4, V1 (.sl [[sB (txL d)]]))] [] rfl ?_ trivial ?_
    · exact ⟨frz_own rfl rfl, trivial⟩
    refine AWP_reg_seq tokD fun K hK => ?_
    refine s_move rfl rfl rfl ?_
    refine s_call rfl rfl (rev1_c (sB (txL d))) rfl rfl rfl rfl ?_
    refine s_end (hK _ ?_); clear hK K
    refine AWP_reg_seq tokD fun K hK => ?_
    refine s_move rfl rfl rfl ?_
    refine s_call rfl rfl (join1_c _ _) rfl rfl rfl rfl ?_
    refine s_assign rfl rfl rfl ?_
    refine s_end (hK _ ?_); clear hK K
    refine AWP_ret ?_
    repeat (with_reducible refine tq_ret ?_)
    exact post_ret (fin_mk (by rfl) (by rfl) (by rfl))
end Go.Proofs.YtipenembpidoiaaGreatDoor

/- Numbers as text: negative ones, fractions. No condition. -/
namespace Go.Proofs.YtipenembpidoiaaGreatDoor
attribute [local irreducible] lexA
open Go.RowKit

theorem ba_list (y : ByteArray) : (⟨y.data.toList.toArray⟩ : ByteArray) = y := by cases y; simp
theorem cell_heap {w : World} {b : Nat} {cs : Array Value} {E : TypeId} {fr : Nat × Nat} (h : w.heap[b]? = some (.cells cs E fr)) (i : Nat) : w.cell? ⟨b, i, none⟩ = cs[i]? := by
  simp [World.cell?, h]
theorem rev2_c : RevC Tryz.prog 107 := by
  refine ⟨⟨Tryz.f107, Tryz.func107, by kernel_rfl, rfl⟩, fun w b cap x y cs E hh h0 h1 => ?_⟩
  refine (sh_slices_Reverse_string_cells b 0 2 cap (fun i => if i = 0 then x else y) w (by decide) (fun i hi => ?_) (fun j _ => frozen_of_heap hh _)).mono fun e w' ⟨he, q, hw⟩ => ⟨he, w.drewN q, ⟨rfl, rfl, rfl, Nat.le_refl _, fun _ _ => rfl⟩, rfl, ?_⟩
  · rw [cell_heap hh]
    match i, hi with
    | 0, _ => exact h0
    | 1, _ => exact h1
  · rw [hw]
    have hh' : (w.drewN q).heap[b]? = some (.cells cs E (0, 0)) := hh
    show ((w.drewN q).setCell ⟨b, 0, none⟩ (.string ⟨y.data.toList.toArray⟩)).setCell ⟨b, 1, none⟩ (.string ⟨x.data.toList.toArray⟩) = _
    rw [ba_list, ba_list, setCell_row hh', setCell_row (setRow_heap hh' _), setRow_setRow hh']
theorem join2_c (x y : List UInt8) (hx : x.length ≤ 1000) (hy : y.length ≤ 1000) : Con Tryz.prog 108 [V1 (.sl [[sB x], [sB y]]), V1 (sB [])] { v := V1 (sB (x ++ y)) } := by
  refine ⟨⟨Tryz.f108, Tryz.func108, by kernel_rfl, rfl⟩, fun w X μ vs hX hl ha => ?_⟩
  obtain ⟨v0, e0, r0⟩ := ha 0 _ rfl
  obtain ⟨v1, e1, r1⟩ := ha 1 _ rfl
  obtain ⟨u0, u1, rfl⟩ : ∃ u0 u1, vs = [u0, u1] := by
    match vs, hl with
    | [u0, u1], _ => exact ⟨u0, u1, rfl⟩
  have r0 : RdC w X u0 (.sl [[sB x], [sB y]]) := by cases e0; exact r0
  have r1 : RdC w X u1 (sB []) := by cases e1; exact r1
  obtain rfl : u1 = .string ⟨#[]⟩ := by cases r1; rfl
  cases r0 with
  | sl gs hh hxx hlen hcap hs hv hr =>
    rename_i b off len cap sz cs E fr
    subst hlen
    have hsz : 1 = sz := hs 0 [sB x] rfl
    subst hsz
    have key : ∀ v s, RdC w X v (.lit (.string s)) → v = .string s := fun v s h => by cases h; rfl
    have g0 : gs 0 0 = .string ⟨x.toArray⟩ := key _ _ (hr 0 0 (sB x) rfl)
    have g1 : gs 1 0 = .string ⟨y.toArray⟩ := key _ _ (hr 1 0 (sB y) rfl)
    have v0 := hv 0 0 (sB x) rfl
    have v1 := hv 1 0 (sB y) rfl
    rw [g0] at v0
    rw [g1] at v1
    have hj : Lib.join ([(⟨x.toArray⟩ : ByteArray), ⟨y.toArray⟩].map (·.data.toList)) (⟨#[]⟩ : ByteArray).data.toList = x ++ y := by
      simp [Lib.join, List.intercalate]
    have := sh_strings_Join b off cap [⟨x.toArray⟩, ⟨y.toArray⟩] ⟨#[]⟩ w (fun j z hz => by
      rw [cell_heap hh]
      match j, hz with
      | 0, hz => cases hz; simpa using v0
      | 1, hz => cases hz; simpa using v1
      | j + 2, hz => cases hz) (lt_of_heap hh) (by simp) hcap (by rw [hj, List.length_append]; omega)
    rw [hj] at this
    exact this.mono fun e w' ⟨he, hb⟩ => ⟨_, he, hb, 0, fun _ _ h => (by cases h), RdC.lit rfl⟩
/-- The text of a negative integer above minus a hundred. -/
theorem iTextN_c (d : Nat) (h0 : 0 < d) (hd : d < 100) : Con Tryz.prog 82 [AG (ZC (-(d : Int)))] { v := V1 (sB (45 :: txL d)) } := by
  have ltx : (txL d).length ≤ 2 := by unfold txL; split <;> simp <;> omega
  refine con_intro (fn := Tryz.f82) tokD Tryz.func82 (by kernel_rfl) rfl ?_
  intro w0 X
  rw [entry_mkE _ _ [(0, AG (ZC (-(d : Int))))] rfl rfl]
  have hw : wof d = [d] := by
    have e : wv [d] = d := by simp [wv]
    rw [← e, ← trimW_eq (wOK.one (by omega))]
    exact trimW_one (by omega)
  have hz : ZC (-(d : Int)) = IC true [d] := by unfold ZC; rw [Int.natAbs_neg, Int.natAbs_natCast, hw, decide_eq_true (by omega)]
  have hok : wOK [d] := wOK.one (by omega)
  have hv : wv [d] = d := by simp [wv]
  have cs := short_c [d] 1000000000 hok (by decide) (by decide) (by simp)
  rw [hv, Nat.div_eq_of_lt (show d < 1000000000 by omega), Nat.mod_eq_of_lt (show d < 1000000000 by omega)] at cs
  have ct := trimZ_c (wfix [d].length 0) (wfix_ok _ _) (by simp [wfix])
  rw [wv_wfix, Nat.zero_mod] at ct
  have c0 := trimZ_c [d] hok (by simp)
  rw [hv, hw] at c0
  have cj := join2_c [45] (txL d) (by simp) (by omega)
  rw [hz]
  refine AWP_reg_seq tokD fun K hK => ?_
  refine s_box rfl rfl rfl rfl rfl rfl ?_
  refine s_assign rfl rfl rfl ?_
  refine s_end (hK _ ?_); clear hK K
  refine AWP_reg_seq tokD fun K hK => ?_
  refine s_fieldAddr rfl rfl rfl ?_
  refine s_load rfl rfl rfl ?_
  refine s_call rfl rfl (c0) rfl rfl rfl rfl ?_
  refine s_call rfl rfl (clone_c [d] (by simp)) rfl rfl rfl rfl ?_
  refine s_assign rfl rfl rfl ?_
  refine s_end (hK _ ?_); clear hK K
  refine AWP_seq ?_
  refine AWP_reg_seq tokD fun K hK => ?_
  refine s_move rfl rfl rfl ?_
  refine s_blt rfl (len_w rfl rfl rfl) rfl ?_
  refine s_bin rfl rfl rfl ?_
  refine s_end (hK _ ?_); clear hK K
  refine a_cond rfl (fun hc => by cases hc) (fun _ => ?_)
  refine AWP_skip ?_
  show AWP _ _ _ _ _ _
  refine AWP_reg_seq tokD fun K hK => ?_
  refine s_assign rfl rfl rfl ?_
  refine s_end (hK _ ?_); clear hK K
  refine AWP_seq ?_
  refine AWP_block (a_loop (α := Nat) (fun i => mk 49 [(1, .ptr 1 0), (3, V1 (dW ([d].drop i))), (4, ownN 4 1 i)] [(1, some (.box (IC true [d]))), (4, arrN 1 [[sB (txL d)]] i)] []) (fun i => i ≤ 1) (fun i => 1 - i) 0 ?_ (Nat.zero_le _) ?_)
  · exact Wk.mk' ⟨rfl, rfl, rfl, trivial⟩ ⟨rfl, rfl, trivial⟩
  intro i hi
  refine AWP_seq ?_
  rcases i with _ | i
  · refine AWP_reg_seq tokD fun K hK => ?_
    refine s_move rfl rfl rfl ?_
    refine s_blt rfl (len_w rfl rfl rfl) rfl ?_
    refine s_bin rfl rfl rfl ?_
    refine s_end (hK _ ?_); clear hK K
    refine a_cond rfl (fun _ => ?_) (fun hc => by cases hc)
    refine AWP_skip ?_
    show AWP _ _ _ _ _ _
    refine AWP_block ?_
    refine AWP_reg_seq tokD fun K hK => ?_
    refine s_assign rfl rfl rfl ?_
    refine s_end (hK _ ?_); clear hK K
    refine AWP_reg_seq tokD fun K hK => ?_
    refine s_move rfl rfl rfl ?_
    refine s_call rfl rfl (cs) rfl rfl rfl rfl ?_
    refine s_move rfl rfl rfl ?_
    refine s_extract rfl rfl rfl ?_
    refine s_extract rfl rfl rfl ?_
    refine s_assign rfl rfl rfl ?_
    refine s_assign rfl rfl rfl ?_
    refine s_end (hK _ ?_); clear hK K
    refine AWP_reg_seq tokD fun K hK => ?_
    refine s_move rfl rfl rfl ?_
    refine s_call rfl rfl (ct) rfl rfl rfl rfl ?_
    refine s_assign rfl rfl rfl ?_
    refine s_end (hK _ ?_); clear hK K
    refine AWP_reg_seq tokD fun K hK => ?_
    refine s_move rfl rfl rfl ?_
    refine s_conv rfl (e_conv rfl rfl rfl (by show IntKind.u64.wrap (d : Int) = (d : Int); rw [w_u64]; omega)) rfl ?_
    refine s_call rfl rfl (fmt_c d hd) rfl rfl rfl rfl ?_
    refine s_assign rfl rfl rfl ?_
    refine s_end (hK _ ?_); clear hK K
    refine AWP_seq ?_
    refine AWP_reg_seq tokD fun K hK => ?_
    refine s_move rfl rfl rfl ?_
    refine s_blt rfl (len_w rfl rfl rfl) rfl ?_
    refine s_bin rfl rfl rfl ?_
    refine s_end (hK _ ?_); clear hK K
    refine a_cond rfl (fun hc => by cases hc) (fun _ => ?_)
    refine AWP_skip ?_
    show AWP _ _ _ _ _ _
    refine AWP_reg tokD fun K hK => ?_
    refine s_move rfl rfl rfl ?_
    refine s_move rfl rfl rfl ?_
    refine s_buildSliceD rfl rfl rfl rfl ?_
    refine s_append rfl (ap_nil rfl rfl rfl rfl rfl (by decide) (Nat.le_of_ble_eq_true rfl) rfl (by simp) rfl (by simp) (by simp)) rfl rfl ?_
    refine s_assign rfl rfl rfl ?_
    refine s_end (hK _ ?_); clear hK K
    refine ⟨1, by omega, by omega, Wk.rn [1, 3, 4] [1, 39] 39 4 rfl rfl rfl ⟨rfl, rfl, rfl, trivial⟩ ⟨rfl, rfl, trivial⟩⟩
  · obtain rfl : i = 0 := by omega
    refine AWP_reg_seq tokD fun K hK => ?_
    refine s_move rfl rfl rfl ?_
    refine s_blt rfl (len_w rfl rfl rfl) rfl ?_
    refine s_bin rfl rfl rfl ?_
    refine s_end (hK _ ?_); clear hK K
    refine a_cond rfl (fun hc => by cases hc) (fun _ => ?_)
    refine AWP_exit ?_
    show AWP _ _ _ _ _ _
    refine a_join (α := Unit) (fun _ => mk 49 [(4, .val (.one (.own 4 1 0 2)))] [(4, some (.arr 1 [[sB (txL d)], [sB [45]]]))] []) (fun _ => True) ?_ ?_
    · refine AWP_reg_seq tokD fun K hK => ?_
      refine s_fieldAddr rfl rfl rfl ?_
      refine s_load rfl rfl rfl ?_
      refine s_end (hK _ ?_); clear hK K
      refine a_cond rfl (fun _ => ?_) (fun hc => by cases hc)
      refine AWP_reg tokD fun K hK => ?_
      refine s_move rfl rfl rfl ?_
      refine s_buildSliceD rfl rfl rfl rfl ?_
      refine s_append rfl (ap_o rfl rfl rfl rfl rfl rfl (by decide) (Nat.le_of_ble_eq_true rfl) rfl (by simp) rfl rfl rfl (by simp)) rfl rfl ?_
      refine s_assign rfl rfl rfl ?_
      refine s_end (hK _ ?_); clear hK K
      exact ⟨(), trivial, Wk.rn [4] [44] 44 4 rfl rfl rfl ⟨rfl, trivial⟩ ⟨rfl, trivial⟩⟩
    rintro - -
    refine AWP_regW_seq fun K hK => ?_
    refine w_step tokD rfl ?_
    refine s_move rfl rfl rfl ?_
    refine s_end ?_
    refine w_rev (x := ⟨(txL d).toArray⟩) (y := ⟨[45].toArray⟩) rev2_c rfl rfl rfl ?_
    refine w_end rfl (hK _ ?_); clear hK K
    refine a_fz [4] [4] 4 [(4, V1 (.sl [[sB [45]], [sB (txL d)]]))] [] rfl ?_ trivial ?_
    · exact ⟨frz_own rfl rfl, trivial⟩
    refine AWP_reg_seq tokD fun K hK => ?_
    refine s_move rfl rfl rfl ?_
    refine s_call rfl rfl (cj) rfl rfl rfl rfl ?_
    refine s_assign rfl rfl rfl ?_
    refine s_end (hK _ ?_); clear hK K
    refine AWP_ret ?_
    repeat (with_reducible refine tq_ret ?_)
    exact post_ret (fin_mk (by rfl) (by rfl) (by rfl))

/-- The text of an integer of few digits. -/
def ztx (z : Int) : List UInt8 := if z < 0 then 45 :: txL z.natAbs else txL z.natAbs
theorem iTextZ_c (z : Int) (h : -100 < z ∧ z < 100) : Con Tryz.prog 82 [AG (ZC z)] { v := V1 (sB (ztx z)) } := by
  unfold ztx
  split
  · have e : z = -((z.natAbs : Nat) : Int) := by omega
    have := iTextN_c z.natAbs (by omega) (by omega)
    rw [← e] at this; exact this
  · have e : z = ((z.natAbs : Nat) : Int) := by omega
    have := iText_c z.natAbs (by omega)
    rw [← e] at this; exact this
def qtx (q : Rat) : List UInt8 := if q.den = 1 then ztx q.num else ztx q.num ++ [47] ++ ztx q.den
theorem ztx_len (z : Int) : (ztx z).length ≤ 3 := by
  have h : ∀ d, (txL d).length ≤ 2 := fun d => by unfold txL; split <;> simp <;> omega
  unfold ztx; split
  · have := h z.natAbs; simp; omega
  · have := h z.natAbs; omega
theorem e_addS {T : Tab} {t : TypeId} (a b : List UInt8) (h : a.length + b.length ≤ 1000) : effBin T .add t (V1 (sB a)) (V1 (sB b)) = .set (V1 (sB (a ++ b))) := by
  have hb : binA .add (.string ⟨a.toArray⟩) (.string ⟨b.toArray⟩) = some (.string ⟨(a ++ b).toArray⟩) := by
    have e1 : (ByteArray.mk a.toArray).size = a.length := by simp [ByteArray.size]
    have e2 : (ByteArray.mk b.toArray).size = b.length := by simp [ByteArray.size]
    simp only [binA]
    rw [if_pos (by rw [e1, e2]; omega)]
    congr 2
  simp only [effBin, litOf, hb]; rfl
theorem qText_t (a : RW) (ok : a.OK 16777216) (hn : -100 < a.v.num ∧ a.v.num < 100) (hd : (a.v.den : Int) < 100) : Con Tryz.prog 45 [AG a.cs] { v := V1 (sB (qtx a.v)) } := by
  have c1 := qNorm_t a ok
  have h1 := ok.ql rfl
  generalize a.v = x at *
  have c2 := qOne_t (x.den : Int) (le_d (ql_den_le h1) rfl)
  have c3 := iTextZ_c x.num hn
  have c4 := iTextZ_c (x.den : Int) (by omega)
  have l1 := ztx_len x.num
  have l2 := ztx_len (x.den : Int)
  refine con_intro (fn := Tryz.f45) tokD Tryz.func45 (by kernel_rfl) rfl ?_
  intro w0 X
  rw [entry_mkE _ _ [(0, AG a.cs)] rfl rfl]
  refine AWP_reg_seq tokD fun K hK => ?_
  refine s_box rfl rfl rfl rfl rfl rfl ?_
  refine s_assign rfl rfl rfl ?_
  refine s_end (hK _ ?_); clear hK K
  refine AWP_reg_seq tokD fun K hK => ?_
  refine s_load rfl rfl rfl ?_
  refine s_call rfl rfl (c1) rfl rfl rfl rfl ?_
  refine s_store rfl rfl rfl rfl rfl ?_
  refine s_end (hK _ ?_); clear hK K
  refine AWP_seq ?_
  refine AWP_reg_seq tokD fun K hK => ?_
  refine s_fieldAddr rfl rfl rfl ?_
  refine s_load rfl rfl rfl ?_
  refine s_call rfl rfl (c2) rfl rfl rfl rfl ?_
  refine s_end (hK _ ?_); clear hK K
  refine a_cond rfl (fun hc => ?_) (fun hc => ?_)
  · have hc : x.den = 1 := by have := of_decide_eq_true hc; omega
    refine AWP_reg_seq tokD fun K hK => ?_
    refine s_fieldAddr rfl rfl rfl ?_
    refine s_load rfl rfl rfl ?_
    refine s_call rfl rfl (c3) rfl rfl rfl rfl ?_
    refine s_assign rfl rfl rfl ?_
    refine s_end (hK _ ?_); clear hK K
    refine AWP_ret ?_
    repeat (with_reducible refine tq_ret ?_)
    exact post_ret (fin_mk (by rfl) (by rfl) (by unfold qtx; rw [if_pos hc]; rfl))
  · have hc : ¬ x.den = 1 := by have := of_decide_eq_false hc; omega
    refine AWP_skip ?_
    show AWP _ _ _ _ _ _
    refine a_draw tokD mixed (A := [[], [], [0], [0, 1], [], [], [0, 1, 4], [0, 1, 2, 4, 5], []]) (an := [{}, {}, {}, {}, { c := [13] }, { c := [13] }, {}, {}, {}]) rfl (by kernel_rfl) rfl fun K hK => ?_
    refine s_fieldAddr rfl rfl rfl ?_
    refine s_load rfl rfl rfl ?_
    refine s_call rfl rfl (c3) rfl rfl rfl rfl ?_
    refine s_bin rfl (e_addS _ [47] (by simp; omega)) rfl ?_
    refine s_fieldAddr rfl rfl rfl ?_
    refine s_load rfl rfl rfl ?_
    refine s_call rfl rfl (c4) rfl rfl rfl rfl ?_
    refine s_bin rfl (e_addS _ _ (by simp; omega)) rfl ?_
    refine s_assign rfl rfl rfl ?_
    refine s_end (hK _ ?_); clear hK K
    refine AWP_ret ?_
    repeat (with_reducible refine tq_ret ?_)
    exact post_ret (fin_mk (by rfl) (by rfl) (by unfold qtx; rw [if_neg hc]; rfl))
end Go.Proofs.YtipenembpidoiaaGreatDoor
