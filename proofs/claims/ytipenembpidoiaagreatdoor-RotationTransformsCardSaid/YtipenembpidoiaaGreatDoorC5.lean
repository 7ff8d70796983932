/- Part of a proof that a Go function answers true for every input. No condition. -/
import Derived.Test.YtipenembpidoiaaGreatDoorC4
set_option linter.unusedVariables false
set_option linter.unusedSimpArgs false
set_option linter.unusedSectionVars false
/- The reference's rotations and transforms. No condition. -/
namespace Go.Proofs.YtipenembpidoiaaGreatDoor
attribute [local irreducible] lexA

theorem r3Of_t (p q : Int) (hp : I64 p) (hq : I64 q) : Con Tryz.prog 40 [dI p, dI q] { v := AG (pz2 (gc (p, q))).cs } := r3Of_c p q hp hq
theorem cn_eq_iff {a b : RW} : pz2 a.cn = pz2 b.cn ↔ a.cn = b.cn := by
  constructor
  · intro h
    have h1 := pzW_p a.cn.1 a.cn.2
    have h2 := pzW_q a.cn.1 a.cn.2
    have h3 := pzW_p b.cn.1 b.cn.2
    have h4 := pzW_q b.cn.1 b.cn.2
    unfold pz2 at h
    rw [h] at h1 h2
    exact Prod.ext (h1.symm.trans h3) (h2.symm.trans h4)
  · intro h; rw [h]
theorem r3Same_t (a b : RW) (ha : a.OK 67108864) (hb : b.OK 67108864) : Con Tryz.prog 12 [AG a.cs, AG b.cs] { v := dB (decide (a.cn = b.cn)) } := by
  have c1 := r3Norm_t a (ha.mono rfl)
  have c2 := r3Norm_t b (hb.mono rfl)
  have oa : (pz2 a.cn).OK 67108864 := pz2_ok (ha.cn (by decide))
  have c3 := bRot_c (pz2 a.cn) (pz2 b.cn) (Nat.le_trans oa.lp (by decide)) (Nat.le_trans oa.lq (by decide))
  rw [decide_eq_decide.2 (cn_eq_iff (a := a) (b := b))] at c3
  generalize decide (a.cn = b.cn) = d at *
  generalize pz2 a.cn = x at *
  generalize pz2 b.cn = y at *
  refine con_intro (fn := Tryz.f12) tok Tryz.func12 (by kernel_rfl) rfl ?_
  intro w0 X
  rw [entry_mkE _ _ [(0, AG a.cs), (1, AG b.cs)] rfl rfl]
  refine AWP_reg_seq tok fun K hK => ?_
  refine s_box rfl rfl rfl rfl rfl rfl ?_
  refine s_box rfl rfl rfl rfl rfl rfl ?_
  refine s_assign rfl rfl rfl ?_
  refine s_end (hK _ ?_); clear hK K
  refine a_draw tok mixed (A := [[], [], [], [0], [0, 2], []]) (an := [{}, {}, { c := [6] }, {}, {}, {}]) rfl (by kernel_rfl) rfl fun K hK => ?_
  refine s_load rfl rfl rfl ?_
  refine s_call rfl rfl (c1) rfl rfl rfl rfl ?_
  refine s_load rfl rfl rfl ?_
  refine s_call rfl rfl (c2) rfl rfl rfl rfl ?_
  refine s_call rfl rfl (c3) rfl rfl rfl rfl ?_
  refine s_assign rfl rfl rfl ?_
  refine s_end (hK _ ?_); clear hK K
  refine AWP_ret ?_
  repeat (with_reducible refine tq_ret ?_)
  exact post_ret (fin_mk (by rfl) (by rfl) (by rfl))

theorem r3Mark_t (h : Int) (hh : I64 h) : Con Tryz.prog 42 [dI h] { v := AG (pz2 (mk2 (h % 256).toNat)).cs } := by
  have c0 := bMod_c h 256 hh (by decide) (by decide)
  have hM0 : ((h % 256).toNat : Int) = h % 256 := by omega
  obtain ⟨H, hH⟩ : ∃ H, (h % 256).toNat = H := ⟨_, rfl⟩
  rw [hH] at hM0
  rw [hH]
  rw [← hM0] at c0
  have hH2 : H < 256 := by omega
  have e2 : effBin tab .rem 3 (dI H) (dI 64) = .set (dI ((H % 64 : Nat) : Int)) := e_remI' (by decide)
  have e3 : effBin tab .quo 3 (dI H) (dI 64) = .set (dI ((H / 64 : Nat) : Int)) := e_quoI' (by decide) rfl (by unfold I64; omega)
  have c1 := r3Of_t ((H % 64 : Nat) : Int) 64 (by unfold I64; omega) (by unfold I64; omega)
  have c2 := r3Of_t 1 1 (by unfold I64; omega) (by unfold I64; omega)
  have hz : ∀ n, zl (mkN H n).1 ≤ n * 3 + 2 ∧ zl (mkN H n).2 ≤ n * 3 + 2 := by
    intro n
    induction n with
    | zero => exact gc_zl (by decide) ⟨zl_i64 ⟨by simp only; omega, by simp only; omega⟩, zl_i64 ⟨by simp only; omega, by simp only; omega⟩⟩
    | succ n ih => exact zl_gm (l := 1) ih ⟨by decide, by decide⟩ (by omega)
  have g11 : gc ((1 : Int), (1 : Int)) = (1, 1) := (show Cn2 ((1 : Int), (1 : Int)) from ⟨by decide, by decide⟩).gc
  rw [g11] at c2
  refine con_intro (fn := Tryz.f42) tok Tryz.func42 (by kernel_rfl) rfl ?_
  intro w0 X
  rw [entry_mkE _ _ [(0, dI h)] rfl rfl]
  refine AWP_reg_seq tok fun K hK => ?_
  refine s_alloc rfl rfl rfl rfl rfl rfl ?_
  refine s_end (hK _ ?_); clear hK K
  refine AWP_reg_seq tok fun K hK => ?_
  refine s_move rfl rfl rfl ?_
  refine s_call rfl rfl (c0) rfl rfl rfl rfl ?_
  refine s_assign rfl rfl rfl ?_
  refine s_end (hK _ ?_); clear hK K
  refine AWP_reg_seq tok fun K hK => ?_
  refine s_move rfl rfl rfl ?_
  refine s_bin rfl e2 rfl ?_
  refine s_call rfl rfl (c1) rfl rfl rfl rfl ?_
  refine s_alloc rfl rfl rfl rfl rfl rfl ?_
  refine s_store rfl rfl rfl rfl rfl ?_
  refine s_end (hK _ ?_); clear hK K
  refine AWP_seq ?_
  refine AWP_reg_seq tok fun K hK => ?_
  refine s_assign rfl rfl rfl ?_
  refine s_end (hK _ ?_); clear hK K
  refine AWP_block (a_loop (α := Nat) (fun i => mk 20 [(0, dI H), (2, .ptr 2 0), (3, .ptr 3 0), (4, dI i)] [(2, some (.box [.d (.lit (.bool false)), .nil, .d (.lit (.bool false)), .nil])), (3, some (.box (pz2 (mkN H i)).cs))] []) (fun i => i ≤ H / 64) (fun i => H / 64 - i) 0 ?_ (Nat.zero_le _) ?_)
  · exact Wk.mk' ⟨rfl, rfl, rfl, rfl, trivial⟩ ⟨rfl, rfl, trivial⟩
  intro i hi
  refine AWP_seq ?_
  refine AWP_reg_seq tok fun K hK => ?_
  refine s_move rfl rfl rfl ?_
  refine s_move rfl rfl rfl ?_
  refine s_bin rfl e3 rfl ?_
  refine s_bin rfl rfl rfl ?_
  refine s_end (hK _ ?_); clear hK K
  refine a_cond rfl (fun hg => ?_) (fun hg => ?_)
  · have hg : i < H / 64 := by have := of_decide_eq_true hg; omega
    have h1 := hz i
    have c3 := r3Then_t (pz2 (mkN H i)) (pz2 (1, 1)) (pz2_ok ⟨by omega, by omega⟩) (pz2_ok ⟨by decide, by decide⟩)
    rw [pz2_cn, pz2_cn, mkN_gc, g11] at c3
    refine AWP_skip ?_
    show AWP _ _ _ _ _ _
    refine AWP_seq ?_
    refine AWP_block ?_
    refine a_draw1 tok mixed (A := [[], [], [], []]) (an := [{}, {}, {}, {}]) rfl (by kernel_rfl) rfl fun K hK => ?_
    refine s_load rfl rfl rfl ?_
    refine s_call rfl rfl (c2) rfl rfl rfl rfl ?_
    refine s_call rfl rfl (c3) rfl rfl rfl rfl ?_
    refine s_store rfl rfl rfl rfl rfl ?_
    refine s_end (hK _ ?_); clear hK K
    show AWP _ _ _ _ _ _
    refine AWP_reg tok fun K hK => ?_
    refine s_move rfl rfl rfl ?_
    refine s_bin rfl (e_add (c := ((i + 1 : Nat) : Int)) (by omega) (by omega)) rfl ?_
    refine s_assign rfl rfl rfl ?_
    refine s_end (hK _ ?_); clear hK K
    exact ⟨i + 1, by omega, hg, Wk.mk' ⟨rfl, rfl, rfl, rfl, trivial⟩ ⟨rfl, rfl, trivial⟩⟩
  · have hg : i = H / 64 := by have := of_decide_eq_false hg; omega
    subst hg
    refine AWP_exit ?_
    show AWP _ _ _ _ _ _
    refine AWP_reg_seq tok fun K hK => ?_
    refine s_load rfl rfl rfl ?_
    refine s_store rfl rfl rfl rfl rfl ?_
    refine s_end (hK _ ?_); clear hK K
    refine AWP_ret ?_
    repeat (with_reducible refine tq_ret ?_)
    exact post_ret (fin_mk (by rfl) (by rfl) (by rfl))

theorem r3Power_t (r : RW) (n : Int) (ok : r.OK 65536) (hn : I64 n) : Con Tryz.prog 36 [AG r.cs, dI n] { v := .tup [.agg (powV r n).1.cs, .one (.d (lI (powV r n).2))] } := by
  have cz := bSize_c n 64 ⟨by decide, by decide⟩
  refine con_intro (fn := Tryz.f36) tok Tryz.func36 (by kernel_rfl) rfl ?_
  intro w0 X
  rw [entry_mkE _ _ [(0, AG r.cs), (1, dI n)] rfl rfl]
  refine AWP_reg_seq tok fun K hK => ?_
  refine s_box rfl rfl rfl rfl rfl rfl ?_
  refine s_alloc rfl rfl rfl rfl rfl rfl ?_
  refine s_assign rfl rfl rfl ?_
  refine s_end (hK _ ?_); clear hK K
  refine AWP_seq ?_
  refine AWP_reg_seq tok fun K hK => ?_
  refine s_move rfl rfl rfl ?_
  refine s_call rfl rfl (cz) rfl rfl rfl rfl ?_
  refine s_un rfl rfl rfl ?_
  refine s_end (hK _ ?_); clear hK K
  refine a_cond rfl (fun hc => ?_) (fun hc => ?_)
  · rw [Bool.not_eq_true', decide_eq_false_iff_not] at hc
    have e : powV r n = (rwZ, 2) := by unfold powV; rw [if_neg hc]
    rw [e]
    refine AWP_reg_seq tok fun K hK => ?_
    refine s_build rfl rfl rfl ?_
    refine s_store rfl rfl rfl rfl rfl ?_
    refine s_assign rfl rfl rfl ?_
    refine s_end (hK _ ?_); clear hK K
    refine AWP_ret ?_
    repeat (with_reducible refine tq_ret ?_)
    exact post_ret (fin_mk (by rfl) (by rfl) (by rfl))
  rw [Bool.not_eq_false', decide_eq_true_eq] at hc
  have e : powV r n = (pz2 (pw (stpV r n).cn n.natAbs), 0) := by unfold powV; rw [if_pos hc, stpV_pw]
  have oks := stpV_ok ok (by decide) n
  rw [e]
  refine AWP_skip ?_
  show AWP _ _ _ _ _ _
  have f1 : Con Tryz.prog 40 [dI 0, dI 1] { v := AG (pz2 one2).cs } := r3Of_t 0 1 (by unfold I64; omega) (by unfold I64; omega)
  refine AWP_reg_seq tok fun K hK => ?_
  refine s_call rfl rfl (f1) rfl rfl rfl rfl ?_
  refine s_alloc rfl rfl rfl rfl rfl rfl ?_
  refine s_store rfl rfl rfl rfl rfl ?_
  refine s_end (hK _ ?_); clear hK K
  refine AWP_reg_seq tok fun K hK => ?_
  refine s_load rfl rfl rfl ?_
  refine s_alloc rfl rfl rfl rfl rfl rfl ?_
  refine s_store rfl rfl rfl rfl rfl ?_
  refine s_end (hK _ ?_); clear hK K
  refine a_join (α := Unit) (fun _ => mk 30 [(1, dI n.natAbs), (4, .ptr 4 0), (6, .ptr 6 0), (7, .ptr 7 0)] [(4, some (.box [.d (.lit (.bool false)), .nil, .d (.lit (.bool false)), .nil])), (6, some (.box (pz2 one2).cs)), (7, some (.box (stpV r n).cs))] []) (fun _ => True) ?_ ?_
  · refine AWP_reg_seq tok fun K hK => ?_
    refine s_move rfl rfl rfl ?_
    refine s_bin rfl rfl rfl ?_
    refine s_end (hK _ ?_); clear hK K
    refine a_cond rfl (fun hd => ?_) (fun hd => ?_)
    · have hd : n < 0 := of_decide_eq_true hd
      refine AWP_reg_seq tok fun K hK => ?_
      refine s_move rfl rfl rfl ?_
      refine s_un rfl (e_negI (c := (n.natAbs : Int)) (by omega) (by unfold I64; omega)) rfl ?_
      refine s_assign rfl rfl rfl ?_
      refine s_end (hK _ ?_); clear hK K
      refine AWP_reg tok fun K hK => ?_
      refine s_load rfl rfl rfl ?_
      refine s_call rfl rfl (r3Inv_t r (ok.mono rfl)) rfl rfl rfl rfl ?_
      refine s_store rfl rfl rfl rfl rfl ?_
      refine s_end (hK _ ?_); clear hK K
      exact ⟨(), trivial, Wk.mk' ⟨rfl, rfl, rfl, rfl, trivial⟩ ⟨rfl, rfl, by unfold stpV; rw [if_pos hd]; rfl, trivial⟩⟩
    · have hd : ¬ n < 0 := of_decide_eq_false hd
      refine AWP_skip ?_
      exact ⟨(), trivial, Wk.mk' ⟨dI_eq (by omega), rfl, rfl, rfl, trivial⟩ ⟨rfl, rfl, by unfold stpV; rw [if_neg hd]; rfl, trivial⟩⟩
  rintro - -
  generalize stpV r n = s at *
  have hN : n.natAbs ≤ 64 := by omega
  generalize n.natAbs = N at *
  have hz := zl_pw (oks.cn (by decide))
  refine AWP_seq ?_
  refine AWP_reg_seq tok fun K hK => ?_
  refine s_assign rfl rfl rfl ?_
  refine s_end (hK _ ?_); clear hK K
  refine AWP_block (a_loop (α := Nat) (fun i => mk 30 [(1, dI N), (4, .ptr 4 0), (6, .ptr 6 0), (7, .ptr 7 0), (8, dI i)] [(4, some (.box [.d (.lit (.bool false)), .nil, .d (.lit (.bool false)), .nil])), (6, some (.box (pz2 (pw s.cn i)).cs)), (7, some (.box s.cs))] []) (fun i => i ≤ N) (fun i => N - i) 0 ?_ (Nat.zero_le _) ?_)
  · exact Wk.mk' ⟨rfl, rfl, rfl, rfl, rfl, trivial⟩ ⟨rfl, rfl, rfl, trivial⟩
  intro i hi
  refine AWP_seq ?_
  refine AWP_reg_seq tok fun K hK => ?_
  refine s_move rfl rfl rfl ?_
  refine s_move rfl rfl rfl ?_
  refine s_bin rfl rfl rfl ?_
  refine s_end (hK _ ?_); clear hK K
  refine a_cond rfl (fun hg => ?_) (fun hg => ?_)
  · have hg : i < N := by simp at hg; omega
    have o1 : (pz2 (pw s.cn i)).OK 67108864 := by
      have h1 := hz i
      have h2 : i * (65536 + 1) ≤ 64 * 65537 := Nat.mul_le_mul (by omega) (Nat.le_refl _)
      exact pz2_ok ⟨by omega, by omega⟩
    have c1 := r3Then_t (pz2 (pw s.cn i)) s o1 (oks.mono rfl)
    rw [pz2_cn, pw_gc s.cn_nz] at c1
    refine AWP_skip ?_
    show AWP _ _ _ _ _ _
    refine AWP_seq ?_
    refine AWP_block ?_
    refine AWP_reg tok fun K hK => ?_
    refine s_load rfl rfl rfl ?_
    refine s_load rfl rfl rfl ?_
    refine s_call rfl rfl (c1) rfl rfl rfl rfl ?_
    refine s_store rfl rfl rfl rfl rfl ?_
    refine s_end (hK _ ?_); clear hK K
    show AWP _ _ _ _ _ _
    refine AWP_reg tok fun K hK => ?_
    refine s_move rfl rfl rfl ?_
    refine s_bin rfl (e_add (c := ((i + 1 : Nat) : Int)) (by omega) (by omega)) rfl ?_
    refine s_assign rfl rfl rfl ?_
    refine s_end (hK _ ?_); clear hK K
    exact ⟨i + 1, by omega, hg, Wk.mk' ⟨rfl, rfl, rfl, rfl, rfl, trivial⟩ ⟨rfl, rfl, rfl, trivial⟩⟩
  · have hg : i = N := by simp at hg; omega
    subst hg
    refine AWP_exit ?_
    show AWP _ _ _ _ _ _
    refine AWP_reg_seq tok fun K hK => ?_
    refine s_load rfl rfl rfl ?_
    refine s_store rfl rfl rfl rfl rfl ?_
    refine s_assign rfl rfl rfl ?_
    refine s_end (hK _ ?_); clear hK K
    refine AWP_ret ?_
    repeat (with_reducible refine tq_ret ?_)
    exact post_ret (fin_mk (by rfl) (by rfl) (by rfl))

theorem ordF_at {a : Int × Int} {n : Nat} (h1 : 1 ≤ n ∧ n ≤ 4) (hb : ∀ j, 1 ≤ j → j < n → pw a j ≠ one2) (h : pw a n = one2) : ordF a = n := by
  unfold ordF
  match n, h1 with
  | 1, _ => rw [if_pos h]; rfl
  | 2, _ => rw [if_neg (hb 1 (by omega) (by omega)), if_pos h]; rfl
  | 3, _ => rw [if_neg (hb 1 (by omega) (by omega)), if_neg (hb 2 (by omega) (by omega)), if_pos h]; rfl
  | 4, _ => rw [if_neg (hb 1 (by omega) (by omega)), if_neg (hb 2 (by omega) (by omega)), if_neg (hb 3 (by omega) (by omega)), if_pos h]; rfl
theorem ordF_no {a : Int × Int} (hb : ∀ j, 1 ≤ j → j < 5 → pw a j ≠ one2) : ordF a = 0 := by
  unfold ordF
  rw [if_neg (hb 1 (by omega) (by omega)), if_neg (hb 2 (by omega) (by omega)), if_neg (hb 3 (by omega) (by omega)), if_neg (hb 4 (by omega) (by omega))]
theorem r3Order_t (r : RW) (ok : r.OK 65536) : Con Tryz.prog 38 [AG r.cs] { v := dI (ordN r.cn) } := by
  have f1 : Con Tryz.prog 40 [dI 0, dI 1] { v := AG (pz2 one2).cs } := r3Of_t 0 1 (by unfold I64; omega) (by unfold I64; omega)
  have o1 : (pz2 one2).OK 67108864 := pz2_ok ⟨by decide, by decide⟩
  have hz := zl_pw (ok.cn (by decide))
  rw [← ord_eq r.cn_Cn]
  refine con_intro (fn := Tryz.f38) tok Tryz.func38 (by kernel_rfl) rfl ?_
  intro w0 X
  rw [entry_mkE _ _ [(0, AG r.cs)] rfl rfl]
  refine AWP_reg_seq tok fun K hK => ?_
  refine s_box rfl rfl rfl rfl rfl rfl ?_
  refine s_assign rfl rfl rfl ?_
  refine s_end (hK _ ?_); clear hK K
  refine AWP_seq ?_
  refine AWP_reg_seq tok fun K hK => ?_
  refine s_assign rfl rfl rfl ?_
  refine s_end (hK _ ?_); clear hK K
  refine AWP_block (a_loop (α := Nat) (fun i => mk 20 [(1, .ptr 1 0), (2, dI 0), (3, dI i)] [(1, some (.box r.cs))] []) (fun i => (1 ≤ i ∧ i ≤ 5) ∧ ∀ j, 1 ≤ j → j < i → pw r.cn j ≠ one2) (fun i => 5 - i) 1 ?_ ⟨by omega, fun j h1 h2 => by omega⟩ ?_)
  · exact Wk.mk' ⟨rfl, rfl, rfl, trivial⟩ ⟨rfl, trivial⟩
  rintro i ⟨hi, hb⟩
  refine AWP_seq ?_
  refine AWP_reg_seq tok fun K hK => ?_
  refine s_move rfl rfl rfl ?_
  refine s_bin rfl rfl rfl ?_
  refine s_end (hK _ ?_); clear hK K
  refine a_cond rfl (fun hg => ?_) (fun hg => ?_)
  · have hg : i ≤ 4 := by have := of_decide_eq_true hg; omega
    have c1 := r3Power_t r i ok (by unfold I64; omega)
    have e1 : powV r i = (pz2 (pw r.cn i), 0) := by
      unfold powV; rw [if_pos (by omega)]
      unfold pwZ; rw [if_neg (by omega)]; rfl
    rw [e1] at c1
    have o2 : (pz2 (pw r.cn i)).OK 67108864 := by
      have h1 := hz i
      have h2 : i * (65536 + 1) ≤ 64 * 65537 := Nat.mul_le_mul (by omega) (Nat.le_refl _)
      exact pz2_ok ⟨by omega, by omega⟩
    have c2 := r3Same_t (pz2 (pw r.cn i)) (pz2 one2) o2 o1
    rw [pz2_cn, pz2_cn, pw_gc r.cn_nz, gc_one] at c2
    generalize pz2 (pw r.cn i) = x at *
    generalize pz2 one2 = y at *
    refine AWP_skip ?_
    show AWP _ _ _ _ _ _
    refine AWP_seq ?_
    refine AWP_block ?_
    refine AWP_reg_seq tok fun K hK => ?_
    refine s_load rfl rfl rfl ?_
    refine s_move rfl rfl rfl ?_
    refine s_call rfl rfl (c1) rfl rfl rfl rfl ?_
    refine s_move rfl rfl rfl ?_
    refine s_extract rfl rfl rfl ?_
    refine s_extract rfl rfl rfl ?_
    refine s_alloc rfl rfl rfl rfl rfl rfl ?_
    refine s_store rfl rfl rfl rfl rfl ?_
    refine s_assign rfl rfl rfl ?_
    refine s_end (hK _ ?_); clear hK K
    refine a_draw tok mixed (A := [[], [], []]) (an := [{}, {}, {}]) rfl (by kernel_rfl) rfl fun K hK => ?_
    refine s_load rfl rfl rfl ?_
    refine s_call rfl rfl (f1) rfl rfl rfl rfl ?_
    refine s_call rfl rfl (c2) rfl rfl rfl rfl ?_
    refine s_end (hK _ ?_); clear hK K
    refine a_cond rfl (fun hc => ?_) (fun hc => ?_)
    · refine AWP_reg_seq tok fun K hK => ?_
      refine s_move rfl rfl rfl ?_
      refine s_assign rfl rfl rfl ?_
      refine s_end (hK _ ?_); clear hK K
      refine AWP_ret ?_
      repeat (with_reducible refine tq_ret ?_)
      exact post_ret (fin_mk (by rfl) (by rfl) (by rw [ordF_at ⟨hi.1, hg⟩ hb (of_decide_eq_true hc)]; rfl))
    · refine AWP_skip ?_
      show AWP _ _ _ _ _ _
      refine AWP_reg tok fun K hK => ?_
      refine s_move rfl rfl rfl ?_
      refine s_bin rfl (e_add (c := ((i + 1 : Nat) : Int)) (by omega) (by omega)) rfl ?_
      refine s_assign rfl rfl rfl ?_
      refine s_end (hK _ ?_); clear hK K
      refine ⟨i + 1, by omega, ⟨by omega, fun j h1 h2 => ?_⟩, Wk.mk' ⟨rfl, rfl, rfl, trivial⟩ ⟨rfl, trivial⟩⟩
      rcases Nat.lt_or_ge j i with h | h
      · exact hb j h1 h
      · have : j = i := by omega
        subst this; exact of_decide_eq_false hc
  · have hg : i = 5 := by have := of_decide_eq_false hg; omega
    subst hg
    refine AWP_exit ?_
    show AWP _ _ _ _ _ _
    refine AWP_reg_seq tok fun K hK => ?_
    refine s_assign rfl rfl rfl ?_
    refine s_end (hK _ ?_); clear hK K
    refine AWP_ret ?_
    repeat (with_reducible refine tq_ret ?_)
    exact post_ret (fin_mk (by rfl) (by rfl) (by rw [ordF_no hb]; rfl))

theorem r3Shift_t (x y : RW) (ox : x.OK 16777216) (oy : y.OK 16777216) : Con Tryz.prog 31 [AG x.cs, AG y.cs] { v := AG (shV x y).cs } := by
  have c0 : Con Tryz.prog 40 [dI 0, dI 1] { v := AG (pz2 one2).cs } := r3Of_t 0 1 (by unfold I64; omega) (by unfold I64; omega)
  refine con_intro (fn := Tryz.f31) tok Tryz.func31 (by kernel_rfl) rfl ?_
  intro w0 X
  rw [entry_mkE _ _ [(0, AG x.cs), (1, AG y.cs)] rfl rfl]
  refine AWP_reg_seq tok fun K hK => ?_
  refine s_box rfl rfl rfl rfl rfl rfl ?_
  refine s_box rfl rfl rfl rfl rfl rfl ?_
  refine s_alloc rfl rfl rfl rfl rfl rfl ?_
  refine s_end (hK _ ?_); clear hK K
  refine a_draw tok mixed (A := [[], [], [], [], [0, 1], [1, 3], []]) (an := [{}, { c := [5] }, {}, { c := [5, 7] }, {}, {}, {}]) rfl (by kernel_rfl) rfl fun K hK => ?_
  refine s_call rfl rfl (c0) rfl rfl rfl rfl ?_
  refine s_load rfl rfl rfl ?_
  refine s_call rfl rfl (r2Norm_t x ox) rfl rfl rfl rfl ?_
  refine s_load rfl rfl rfl ?_
  refine s_call rfl rfl (r2Norm_t y oy) rfl rfl rfl rfl ?_
  refine s_build rfl rfl rfl ?_
  refine s_store rfl rfl rfl rfl rfl ?_
  refine s_end (hK _ ?_); clear hK K
  refine AWP_ret ?_
  repeat (with_reducible refine tq_ret ?_)
  exact post_ret (fin_mk (by rfl) (by rfl) (by rfl))

theorem r3Act_t (t : TR) (x y : RW) (ok : t.OK 1048576) (ox : x.OK 1048576) (oy : y.OK 1048576) : Con Tryz.prog 25 [AG t.cs, AG x.cs, AG y.cs]
    { v := .tup [.agg (qzW (acX t x.v y.v)).cs, .agg (qzW (acY t x.v y.v)).cs] } := by
  have c1 := r3Turn_t t.r x y ok.r ox oy
  have h1 := tn_ql (m := 16777216) ok.r (by decide) (ox.ql rfl) (oy.ql rfl) (by decide)
  unfold acX acY
  generalize tnX t.r.cn x.v y.v = u at *
  generalize tnY t.r.cn x.v y.v = v at *
  have c2 := r2Add_t (qzW u) t.x (u + t.x.v) (qzW_ok h1.1) (ok.x.mono rfl) (by rw [qzW_v])
  have c3 := r2Add_t (qzW v) t.y (v + t.y.v) (qzW_ok h1.2) (ok.y.mono rfl) (by rw [qzW_v])
  refine con_intro (fn := Tryz.f25) tok Tryz.func25 (by kernel_rfl) rfl ?_
  intro w0 X
  rw [entry_mkE _ _ [(0, AG t.cs), (1, AG x.cs), (2, AG y.cs)] rfl rfl]
  refine AWP_reg_seq tok fun K hK => ?_
  refine s_box rfl rfl rfl rfl rfl rfl ?_
  refine s_box rfl rfl rfl rfl rfl rfl ?_
  refine s_box rfl rfl rfl rfl rfl rfl ?_
  refine s_alloc rfl rfl rfl rfl rfl rfl ?_
  refine s_alloc rfl rfl rfl rfl rfl rfl ?_
  refine s_end (hK _ ?_); clear hK K
  refine AWP_reg_seq tok fun K hK => ?_
  refine s_fieldAddr rfl rfl rfl ?_
  refine s_load rfl rfl rfl ?_
  refine s_load rfl rfl rfl ?_
  refine s_load rfl rfl rfl ?_
  refine s_call rfl rfl (c1) rfl rfl rfl rfl ?_
  refine s_move rfl rfl rfl ?_
  refine s_extract rfl rfl rfl ?_
  refine s_extract rfl rfl rfl ?_
  refine s_alloc rfl rfl rfl rfl rfl rfl ?_
  refine s_alloc rfl rfl rfl rfl rfl rfl ?_
  refine s_store rfl rfl rfl rfl rfl ?_
  refine s_store rfl rfl rfl rfl rfl ?_
  refine s_end (hK _ ?_); clear hK K
  refine a_draw tok mixed (A := [[], [], [], [1], [], [], [], [0, 1, 2, 5], [4, 5, 6], []]) (an := [{}, {}, {}, {}, { c := [21] }, { c := [21] }, { c := [21] }, {}, {}, {}]) rfl (by kernel_rfl) rfl fun K hK => ?_
  refine s_load rfl rfl rfl ?_
  refine s_fieldAddr rfl rfl rfl ?_
  refine s_load rfl rfl rfl ?_
  refine s_call rfl rfl (c2) rfl rfl rfl rfl ?_
  refine s_load rfl rfl rfl ?_
  refine s_fieldAddr rfl rfl rfl ?_
  refine s_load rfl rfl rfl ?_
  refine s_call rfl rfl (c3) rfl rfl rfl rfl ?_
  refine s_store rfl rfl rfl rfl rfl ?_
  refine s_store rfl rfl rfl rfl rfl ?_
  refine s_end (hK _ ?_); clear hK K
  refine AWP_ret ?_
  repeat (with_reducible refine tq_ret ?_)
  exact post_ret (fin_mk (by rfl) (by rfl) (by rfl))

theorem r3Compose_t (t u : TR) (ok : t.OK 1048576) (ou : u.OK 1048576) : Con Tryz.prog 27 [AG t.cs, AG u.cs] { v := AG (cmV t u).cs } := by
  have c1 := r3Act_t t u.x u.y ok ou.x ou.y
  have c2 := r3Then_t t.r u.r (ok.r.mono rfl) (ou.r.mono rfl)
  unfold cmV
  generalize qzW (acX t u.x.v u.y.v) = p at *
  generalize qzW (acY t u.x.v u.y.v) = q at *
  generalize pz2 (gc (gm t.r.cn u.r.cn)) = s at *
  refine con_intro (fn := Tryz.f27) tok Tryz.func27 (by kernel_rfl) rfl ?_
  intro w0 X
  rw [entry_mkE _ _ [(0, AG t.cs), (1, AG u.cs)] rfl rfl]
  refine AWP_reg_seq tok fun K hK => ?_
  refine s_box rfl rfl rfl rfl rfl rfl ?_
  refine s_box rfl rfl rfl rfl rfl rfl ?_
  refine s_alloc rfl rfl rfl rfl rfl rfl ?_
  refine s_end (hK _ ?_); clear hK K
  refine AWP_reg_seq tok fun K hK => ?_
  refine s_load rfl rfl rfl ?_
  refine s_fieldAddr rfl rfl rfl ?_
  refine s_load rfl rfl rfl ?_
  refine s_fieldAddr rfl rfl rfl ?_
  refine s_load rfl rfl rfl ?_
  refine s_call rfl rfl (c1) rfl rfl rfl rfl ?_
  refine s_move rfl rfl rfl ?_
  refine s_extract rfl rfl rfl ?_
  refine s_extract rfl rfl rfl ?_
  refine s_alloc rfl rfl rfl rfl rfl rfl ?_
  refine s_alloc rfl rfl rfl rfl rfl rfl ?_
  refine s_store rfl rfl rfl rfl rfl ?_
  refine s_store rfl rfl rfl rfl rfl ?_
  refine s_end (hK _ ?_); clear hK K
  refine a_draw tok mixed (A := [[], [], [], [], [0, 2], [], [], [0, 1, 2, 3], []]) (an := [{}, {}, {}, {}, {}, { c := [20] }, { c := [20] }, {}, {}]) rfl (by kernel_rfl) rfl fun K hK => ?_
  refine s_fieldAddr rfl rfl rfl ?_
  refine s_load rfl rfl rfl ?_
  refine s_fieldAddr rfl rfl rfl ?_
  refine s_load rfl rfl rfl ?_
  refine s_call rfl rfl (c2) rfl rfl rfl rfl ?_
  refine s_load rfl rfl rfl ?_
  refine s_load rfl rfl rfl ?_
  refine s_build rfl rfl rfl ?_
  refine s_store rfl rfl rfl rfl rfl ?_
  refine s_end (hK _ ?_); clear hK K
  refine AWP_ret ?_
  repeat (with_reducible refine tq_ret ?_)
  exact post_ret (fin_mk (by rfl) (by rfl) (by rfl))

set_option maxHeartbeats 4000000 in
theorem r3Back_t (t : TR) (ok : t.OK 1048576) : Con Tryz.prog 29 [AG t.cs] { v := AG (bkV t).cs } := by
  have c1 := r3Inv_t t.r (ok.r.mono rfl)
  have c2 := r2Neg_t t.x (ok.x.mono rfl)
  have c3 := r2Neg_t t.y (ok.y.mono rfl)
  have c4 := r3Turn_t (pz2 (inv2 t.r.cn)) (qzW (-t.x.v)) (qzW (-t.y.v)) (pz2_ok (zl_inv2 (by decide) (ok.r.cn (by decide)))) (qzW_ok (by rw [ql_neg]; exact ok.x.ql rfl)) (qzW_ok (by rw [ql_neg]; exact ok.y.ql rfl))
  rw [pz2_cn, inv2_can, qzW_v, qzW_v] at c4
  unfold bkV
  generalize qzW (tnX (inv2 t.r.cn) (-t.x.v) (-t.y.v)) = p at *
  generalize qzW (tnY (inv2 t.r.cn) (-t.x.v) (-t.y.v)) = q at *
  generalize pz2 (inv2 t.r.cn) = s at *
  generalize qzW (-t.x.v) = x at *
  generalize qzW (-t.y.v) = y at *
  refine con_intro (fn := Tryz.f29) tok Tryz.func29 (by kernel_rfl) rfl ?_
  intro w0 X
  rw [entry_mkE _ _ [(0, AG t.cs)] rfl rfl]
  refine AWP_reg_seq tok fun K hK => ?_
  refine s_box rfl rfl rfl rfl rfl rfl ?_
  refine s_alloc rfl rfl rfl rfl rfl rfl ?_
  refine s_end (hK _ ?_); clear hK K
  refine AWP_reg_seq tok fun K hK => ?_
  refine s_fieldAddr rfl rfl rfl ?_
  refine s_load rfl rfl rfl ?_
  refine s_call rfl rfl (c1) rfl rfl rfl rfl ?_
  refine s_alloc rfl rfl rfl rfl rfl rfl ?_
  refine s_store rfl rfl rfl rfl rfl ?_
  refine s_end (hK _ ?_); clear hK K
  refine a_draw tok mixed (A := [[], [], [], [1], [], [], [1, 2, 4], [1, 2, 4, 5], [0, 1, 2, 3, 4, 5, 6], [0, 1, 2, 3, 4, 5, 6, 7], [0, 1, 2, 3, 4, 5, 6, 7], [], [], [], []]) (an := [{}, {}, {}, {}, { c := [13] }, { c := [13] }, {}, {}, {}, {}, {}, { c := [13, 16, 17] }, { c := [13, 16, 17, 4] }, {}, {}]) rfl (by kernel_rfl) rfl fun K hK => ?_
  refine s_load rfl rfl rfl ?_
  refine s_fieldAddr rfl rfl rfl ?_
  refine s_load rfl rfl rfl ?_
  refine s_call rfl rfl (c2) rfl rfl rfl rfl ?_
  refine s_fieldAddr rfl rfl rfl ?_
  refine s_load rfl rfl rfl ?_
  refine s_call rfl rfl (c3) rfl rfl rfl rfl ?_
  refine s_call rfl rfl (c4) rfl rfl rfl rfl ?_
  refine s_move rfl rfl rfl ?_
  refine s_extract rfl rfl rfl ?_
  refine s_extract rfl rfl rfl ?_
  refine s_alloc rfl rfl rfl rfl rfl rfl ?_
  refine s_alloc rfl rfl rfl rfl rfl rfl ?_
  refine s_store rfl rfl rfl rfl rfl ?_
  refine s_store rfl rfl rfl rfl rfl ?_
  refine s_end (hK _ ?_); clear hK K
  refine AWP_reg_seq tok fun K hK => ?_
  refine s_load rfl rfl rfl ?_
  refine s_load rfl rfl rfl ?_
  refine s_load rfl rfl rfl ?_
  refine s_build rfl rfl rfl ?_
  refine s_store rfl rfl rfl rfl rfl ?_
  refine s_end (hK _ ?_); clear hK K
  refine AWP_ret ?_
  repeat (with_reducible refine tq_ret ?_)
  exact post_ret (fin_mk (by rfl) (by rfl) (by rfl))

theorem sub_sgn (x y : Rat) : ((x - y).num.sign == 0) = decide (x = y) := by
  rw [Bool.eq_iff_iff, beq_iff_eq, decide_eq_true_eq, Int.sign_eq_zero_iff_zero, Rat.num_eq_zero]
  constructor
  · intro h; grind
  · intro h; rw [h]; grind
theorem r2Cmp_t (a b : RW) (ha : a.OK 1048576) (hb : b.OK 1048576) : Con Tryz.prog 73 [AG a.cs, AG b.cs] { v := dI (a.v - b.v).num.sign } := by
  have c1 := r2Sub_t a b _ (ha.mono rfl) (hb.mono rfl) rfl
  have h1 := ql_sub_le (ha.ql rfl) (hb.ql rfl)
  have c2 := r2SignZ_c (a.v - b.v) (le_d h1 rfl)
  refine con_intro (fn := Tryz.f73) tok Tryz.func73 (by kernel_rfl) rfl ?_
  intro w0 X
  rw [entry_mkE _ _ [(0, AG a.cs), (1, AG b.cs)] rfl rfl]
  refine AWP_reg_seq tok fun K hK => ?_
  refine s_box rfl rfl rfl rfl rfl rfl ?_
  refine s_box rfl rfl rfl rfl rfl rfl ?_
  refine s_assign rfl rfl rfl ?_
  refine s_end (hK _ ?_); clear hK K
  refine AWP_reg_seq tok fun K hK => ?_
  refine s_load rfl rfl rfl ?_
  refine s_load rfl rfl rfl ?_
  refine s_call rfl rfl (c1) rfl rfl rfl rfl ?_
  refine s_call rfl rfl (c2) rfl rfl rfl rfl ?_
  refine s_assign rfl rfl rfl ?_
  refine s_end (hK _ ?_); clear hK K
  refine AWP_ret ?_
  repeat (with_reducible refine tq_ret ?_)
  exact post_ret (fin_mk (by rfl) (by rfl) (by rfl))
theorem r3Equal_t (t u : TR) (ok : t.OK 1048576) (ou : u.OK 1048576) : Con Tryz.prog 34 [AG t.cs, AG u.cs] { v := dB (eqT t u) } := by
  have c1 := r3Same_t t.r u.r (ok.r.mono rfl) (ou.r.mono rfl)
  have c2 := r2Cmp_t t.x u.x ok.x ou.x
  have c3 := r2Cmp_t t.y u.y ok.y ou.y
  refine con_intro (fn := Tryz.f34) tok Tryz.func34 (by kernel_rfl) rfl ?_
  intro w0 X
  rw [entry_mkE _ _ [(0, AG t.cs), (1, AG u.cs)] rfl rfl]
  refine AWP_reg_seq tok fun K hK => ?_
  refine s_box rfl rfl rfl rfl rfl rfl ?_
  refine s_box rfl rfl rfl rfl rfl rfl ?_
  refine s_assign rfl rfl rfl ?_
  refine s_end (hK _ ?_); clear hK K
  refine AWP_reg_seq tok fun K hK => ?_
  refine s_fieldAddr rfl rfl rfl ?_
  refine s_load rfl rfl rfl ?_
  refine s_fieldAddr rfl rfl rfl ?_
  refine s_load rfl rfl rfl ?_
  refine s_call rfl rfl (c1) rfl rfl rfl rfl ?_
  refine s_move rfl rfl rfl ?_
  refine s_split (fun h => ?_) (fun h => ?_)
  · refine s_fieldAddr rfl rfl rfl ?_
    refine s_load rfl rfl rfl ?_
    refine s_fieldAddr rfl rfl rfl ?_
    refine s_load rfl rfl rfl ?_
    refine s_call rfl rfl (c2) rfl rfl rfl rfl ?_
    refine s_bin rfl rfl rfl ?_
    refine s_pick rfl rfl rfl ?_
    refine s_move rfl rfl rfl ?_
    refine s_split (fun h2 => ?_) (fun h2 => ?_)
    · rw [sub_sgn] at h2
      refine s_fieldAddr rfl rfl rfl ?_
      refine s_load rfl rfl rfl ?_
      refine s_fieldAddr rfl rfl rfl ?_
      refine s_load rfl rfl rfl ?_
      refine s_call rfl rfl (c3) rfl rfl rfl rfl ?_
      refine s_bin rfl rfl rfl ?_
      refine s_pick rfl rfl rfl ?_
      refine s_assign rfl rfl rfl ?_
      refine s_end (hK _ ?_); clear hK K
      refine AWP_ret ?_
      repeat (with_reducible refine tq_ret ?_)
      exact post_ret (fin_mk (by rfl) (by rfl) (by rw [eqT, h, h2, Bool.true_and, Bool.true_and, ← sub_sgn]; rfl))
    · rw [sub_sgn] at h2
      refine s_skip rfl ?_
      refine s_skip rfl ?_
      refine s_skip rfl ?_
      refine s_skip rfl ?_
      refine s_skip rfl ?_
      refine s_skip rfl ?_
      refine s_pick rfl rfl rfl ?_
      refine s_assign rfl rfl rfl ?_
      refine s_end (hK _ ?_); clear hK K
      refine AWP_ret ?_
      repeat (with_reducible refine tq_ret ?_)
      exact post_ret (fin_mk (by rfl) (by rfl) (by rw [eqT, h, h2]; rfl))
  · refine s_skip rfl ?_
    refine s_skip rfl ?_
    refine s_skip rfl ?_
    refine s_skip rfl ?_
    refine s_skip rfl ?_
    refine s_skip rfl ?_
    refine s_pick rfl rfl rfl ?_
    refine s_move rfl rfl rfl ?_
    refine s_skip rfl ?_
    refine s_skip rfl ?_
    refine s_skip rfl ?_
    refine s_skip rfl ?_
    refine s_skip rfl ?_
    refine s_skip rfl ?_
    refine s_pick rfl rfl rfl ?_
    refine s_assign rfl rfl rfl ?_
    refine s_end (hK _ ?_); clear hK K
    refine AWP_ret ?_
    repeat (with_reducible refine tq_ret ?_)
    exact post_ret (fin_mk (by rfl) (by rfl) (by rw [eqT, h]; rfl))
end Go.Proofs.YtipenembpidoiaaGreatDoor

/- Law 3: guards; fixed calls. No condition. -/
namespace Go.Proofs.YtipenembpidoiaaGreatDoor
attribute [local irreducible] lexA

def few3 (w : List Nat) : Bool := decide (w.length ≤ 12)
def small3 (r : RW) : Bool := few3 r.wp && few3 r.wq
theorem small3_ok {r : RW} (h : small3 r = true) (hw : r.W) : r.OK 12 := by
  rw [small3, Bool.and_eq_true, few3, few3, decide_eq_true_eq, decide_eq_true_eq] at h
  exact ⟨hw.1, hw.2, h.1, h.2⟩
def light3 (t : TR) : Bool := small3 t.r && (small3 t.x && small3 t.y)
theorem light3_ok {t : TR} (h : light3 t = true) (hw : t.W) : t.OK 12 := by
  rw [light3, Bool.and_eq_true, Bool.and_eq_true] at h
  exact ⟨small3_ok h.1 hw.1, small3_ok h.2.1 hw.2.1, small3_ok h.2.2 hw.2.2⟩
theorem e_leL {n : Nat} {T : Tab} {t : TypeId} {m : Int} {k : Nat} (hm : m = (k : Int)) : effBin T .leq t (dI n) (dI m) = .set (dB (decide (n ≤ k))) := by
  subst hm
  show Eff.set (dB (decide ((n : Int) ≤ (k : Int)))) = _
  rw [show decide ((n : Int) ≤ (k : Int)) = decide (n ≤ k) from decide_eq_decide.2 (by omega)]
theorem e_eqS {T : Tab} {t : TypeId} (a : ByteArray) : effBin T .eql t (V1 (.lit (.string a))) (V1 (.lit (.string a))) = .set (dB true) := by
  show Eff.set (dB (a.toList == a.toList)) = _
  rw [beq_self_eq_true]
theorem few3_c (n : Bool) (w : List Nat) : Con Tryz.prog 46 [AG (IC n w)] { v := dB (few3 w) } := by
  refine con_intro (fn := Tryz.f46) tok Tryz.func46 (by kernel_rfl) rfl ?_
  intro w0 X
  rw [entry_mkE _ _ [(0, AG (IC n w))] rfl rfl]
  refine AWP_reg_seq tok fun K hK => ?_
  refine s_box rfl rfl rfl rfl rfl rfl ?_
  refine s_assign rfl rfl rfl ?_
  refine s_end (hK _ ?_); clear hK K
  refine AWP_reg_seq tok fun K hK => ?_
  refine s_fieldAddr rfl rfl rfl ?_
  refine s_load rfl rfl rfl ?_
  refine s_blt rfl (len_w rfl rfl rfl) rfl ?_
  refine s_bin rfl (e_leL (k := 12) rfl) rfl ?_
  refine s_assign rfl rfl rfl ?_
  refine s_end (hK _ ?_); clear hK K
  refine AWP_ret ?_
  repeat (with_reducible refine tq_ret ?_)
  exact post_ret (fin_mk (by rfl) (by rfl) (by rfl))
theorem small3_c (r : RW) : Con Tryz.prog 7 [AG r.cs] { v := dB (small3 r) } := by
  refine con_intro (fn := Tryz.f7) tok Tryz.func7 (by kernel_rfl) rfl ?_
  intro w0 X
  rw [entry_mkE _ _ [(0, AG r.cs)] rfl rfl]
  refine AWP_reg_seq tok fun K hK => ?_
  refine s_box rfl rfl rfl rfl rfl rfl ?_
  refine s_assign rfl rfl rfl ?_
  refine s_end (hK _ ?_); clear hK K
  refine AWP_reg_seq tok fun K hK => ?_
  refine s_fieldAddr rfl rfl rfl ?_
  refine s_load rfl rfl rfl ?_
  refine s_call rfl rfl (few3_c r.np r.wp) rfl rfl rfl rfl ?_
  refine s_move rfl rfl rfl ?_
  refine s_split (fun h => ?_) (fun h => ?_)
  · refine s_fieldAddr rfl rfl rfl ?_
    refine s_load rfl rfl rfl ?_
    refine s_call rfl rfl (few3_c r.nq r.wq) rfl rfl rfl rfl ?_
    refine s_pick rfl rfl rfl ?_
    refine s_assign rfl rfl rfl ?_
    refine s_end (hK _ ?_); clear hK K
    refine AWP_ret ?_
    repeat (with_reducible refine tq_ret ?_)
    exact post_ret (fin_mk (by rfl) (by rfl) (by rw [small3, h, Bool.true_and]; rfl))
  · refine s_skip rfl ?_
    refine s_skip rfl ?_
    refine s_skip rfl ?_
    refine s_pick rfl rfl rfl ?_
    refine s_assign rfl rfl rfl ?_
    refine s_end (hK _ ?_); clear hK K
    refine AWP_ret ?_
    repeat (with_reducible refine tq_ret ?_)
    exact post_ret (fin_mk (by rfl) (by rfl) (by rw [small3, h, Bool.false_and]; rfl))

theorem short3_c (r : RW) : Con Tryz.prog 23 [AG r.cs] { v := dB (small3 r) } := by
  refine con_intro (fn := Tryz.f23) tok Tryz.func23 (by kernel_rfl) rfl ?_
  intro w0 X
  rw [entry_mkE _ _ [(0, AG r.cs)] rfl rfl]
  refine AWP_reg_seq tok fun K hK => ?_
  refine s_box rfl rfl rfl rfl rfl rfl ?_
  refine s_assign rfl rfl rfl ?_
  refine s_end (hK _ ?_); clear hK K
  refine AWP_reg_seq tok fun K hK => ?_
  refine s_fieldAddr rfl rfl rfl ?_
  refine s_load rfl rfl rfl ?_
  refine s_call rfl rfl (few3_c r.np r.wp) rfl rfl rfl rfl ?_
  refine s_move rfl rfl rfl ?_
  refine s_split (fun h => ?_) (fun h => ?_)
  · refine s_fieldAddr rfl rfl rfl ?_
    refine s_load rfl rfl rfl ?_
    refine s_call rfl rfl (few3_c r.nq r.wq) rfl rfl rfl rfl ?_
    refine s_pick rfl rfl rfl ?_
    refine s_assign rfl rfl rfl ?_
    refine s_end (hK _ ?_); clear hK K
    refine AWP_ret ?_
    repeat (with_reducible refine tq_ret ?_)
    exact post_ret (fin_mk (by rfl) (by rfl) (by rw [small3, h, Bool.true_and]; rfl))
  · refine s_skip rfl ?_
    refine s_skip rfl ?_
    refine s_skip rfl ?_
    refine s_pick rfl rfl rfl ?_
    refine s_assign rfl rfl rfl ?_
    refine s_end (hK _ ?_); clear hK K
    refine AWP_ret ?_
    repeat (with_reducible refine tq_ret ?_)
    exact post_ret (fin_mk (by rfl) (by rfl) (by rw [small3, h, Bool.false_and]; rfl))

theorem light3_c (t : TR) : Con Tryz.prog 22 [AG t.cs] { v := dB (light3 t) } := by
  refine con_intro (fn := Tryz.f22) tok Tryz.func22 (by kernel_rfl) rfl ?_
  intro w0 X
  rw [entry_mkE _ _ [(0, AG t.cs)] rfl rfl]
  refine AWP_reg_seq tok fun K hK => ?_
  refine s_box rfl rfl rfl rfl rfl rfl ?_
  refine s_assign rfl rfl rfl ?_
  refine s_end (hK _ ?_); clear hK K
  refine AWP_reg_seq tok fun K hK => ?_
  refine s_fieldAddr rfl rfl rfl ?_
  refine s_load rfl rfl rfl ?_
  refine s_call rfl rfl (small3_c t.r) rfl rfl rfl rfl ?_
  refine s_move rfl rfl rfl ?_
  refine s_split (fun h => ?_) (fun h => ?_)
  · refine s_fieldAddr rfl rfl rfl ?_
    refine s_load rfl rfl rfl ?_
    refine s_call rfl rfl (short3_c t.x) rfl rfl rfl rfl ?_
    refine s_pick rfl rfl rfl ?_
    refine s_move rfl rfl rfl ?_
    refine s_split (fun h2 => ?_) (fun h2 => ?_)
    · refine s_fieldAddr rfl rfl rfl ?_
      refine s_load rfl rfl rfl ?_
      refine s_call rfl rfl (short3_c t.y) rfl rfl rfl rfl ?_
      refine s_pick rfl rfl rfl ?_
      refine s_assign rfl rfl rfl ?_
      refine s_end (hK _ ?_); clear hK K
      refine AWP_ret ?_
      repeat (with_reducible refine tq_ret ?_)
      exact post_ret (fin_mk (by rfl) (by rfl) (by rw [light3, h, h2, Bool.true_and, Bool.true_and]; rfl))
    · refine s_skip rfl ?_
      refine s_skip rfl ?_
      refine s_skip rfl ?_
      refine s_pick rfl rfl rfl ?_
      refine s_assign rfl rfl rfl ?_
      refine s_end (hK _ ?_); clear hK K
      refine AWP_ret ?_
      repeat (with_reducible refine tq_ret ?_)
      exact post_ret (fin_mk (by rfl) (by rfl) (by rw [light3, h, h2]; rfl))
  · refine s_skip rfl ?_
    refine s_skip rfl ?_
    refine s_skip rfl ?_
    refine s_pick rfl rfl rfl ?_
    refine s_move rfl rfl rfl ?_
    refine s_skip rfl ?_
    refine s_skip rfl ?_
    refine s_skip rfl ?_
    refine s_pick rfl rfl rfl ?_
    refine s_assign rfl rfl rfl ?_
    refine s_end (hK _ ?_); clear hK K
    refine AWP_ret ?_
    repeat (with_reducible refine tq_ret ?_)
    exact post_ret (fin_mk (by rfl) (by rfl) (by rw [light3, h]; rfl))

theorem awake3_c : Con Tryz.prog 6 [] { v := dB true } := by
  have i1 : I64 (-2) := by unfold I64; omega
  have i2 : I64 (-4) := by unfold I64; omega
  have i3 : I64 4 := by unfold I64; omega
  have i4 : I64 3 := by unfold I64; omega
  have i5 : I64 5 := by unfold I64; omega
  have i0 : I64 0 := by unfold I64; omega
  have i6 : I64 1 := by unfold I64; omega
  have g1 : gc (-2, -4) = (1, 2) := by decide +kernel
  have g2 : gc (gm (1, 2) (1, 2)) = (4, 3) := by decide +kernel
  have g3 : gc ((4 : Int), (3 : Int)) = (4, 3) := by decide +kernel
  have g4 : gc ((1 : Int), (2 : Int)) = (1, 2) := by decide +kernel
  have k1 : cs2 ((4 : Int), (3 : Int)) = (-7 : Rat) / 25 := by unfold cs2; simp only; rw [show (3 : Int) * 3 - 4 * 4 = -7 from rfl, show (3 : Int) * 3 + 4 * 4 = 25 from rfl]; rfl
  have k2 : tnX ((1 : Int), (2 : Int)) 5 0 = 3 := by unfold tnX cs2 sn2; simp only; rw [show (2 : Int) * 2 - 1 * 1 = 3 from rfl, show (2 : Int) * 2 + 1 * 1 = 5 from rfl]; grind
  have k3 : tnY ((1 : Int), (2 : Int)) 5 0 = 4 := by unfold tnY cs2 sn2; simp only; rw [show (2 : Int) * 1 + 1 * 2 = 4 from rfl, show (2 : Int) * 2 + 1 * 1 = 5 from rfl]; grind
  have c1 := tOf_t (-2) (-4) i1 i2
  rw [g1] at c1
  have o1 : (pz2 (1, 2)).OK 12 := pz2_ok ⟨by decide, by decide⟩
  have o2 : (pz2 (4, 3)).OK 12 := pz2_ok ⟨by decide, by decide⟩
  have c2 := tThen_t (pz2 (1, 2)) (pz2 (1, 2)) (o1.mono rfl) (o1.mono rfl)
  rw [pz2_cn, g4, g2] at c2
  have c3 : Con Tryz.prog 44 [dI 5, dI 1] { v := AG (qzW 5).cs } := qOf_c 5 1 i5 i6
  have c4 : Con Tryz.prog 44 [dI 0, dI 1] { v := AG (qzW 0).cs } := qOf_c 0 1 i0 i6
  have q5 : (qzW (5 : Rat)).OK 12 := qzW_ok (by decide +kernel)
  have q0 : (qzW (0 : Rat)).OK 12 := qzW_ok (by decide +kernel)
  have c5 := tTurn_t (pz2 (1, 2)) (qzW 5) (qzW 0) (o1.mono rfl) (q5.mono rfl) (q0.mono rfl)
  rw [pz2_cn, g4, qzW_v, qzW_v, k2, k3] at c5
  have c6 := tOf_t 4 3 i3 i4
  rw [g3] at c6
  have c7 := tSame_t (pz2 (4, 3)) (pz2 (4, 3)) (o2.mono rfl) (o2.mono rfl)
  rw [decide_eq_true rfl] at c7
  have c8 := tSame_t (pz2 (1, 2)) (pz2 (4, 3)) (o1.mono rfl) (o2.mono rfl)
  rw [pz2_cn, pz2_cn, g3, g4, decide_eq_false (by decide)] at c8
  have c9 := tCos_t (pz2 (4, 3)) (o2.mono rfl)
  rw [pz2_cn, g3, k1] at c9
  have t1 := qText_t (qzW ((-7 : Rat) / 25)) (qzW_ok (by decide +kernel)) (by rw [qzW_v]; decide +kernel) (by rw [qzW_v]; decide +kernel)
  have t2 := qText_t (qzW 3) (qzW_ok (by decide +kernel)) (by rw [qzW_v]; decide +kernel) (by rw [qzW_v]; decide +kernel)
  have t3 := qText_t (qzW 4) (qzW_ok (by decide +kernel)) (by rw [qzW_v]; decide +kernel) (by rw [qzW_v]; decide +kernel)
  rw [qzW_v, show qtx ((-7 : Rat) / 25) = [45, 55, 47, 50, 53] by decide +kernel] at t1
  rw [qzW_v, show qtx (3 : Rat) = [51] by decide +kernel] at t2
  rw [qzW_v, show qtx (4 : Rat) = [52] by decide +kernel] at t3
  have l1 : wof (1 : Int).natAbs = [1] := by decide
  generalize hA : qzW ((-7 : Rat) / 25) = A at *
  generalize qzW (3 : Rat) = B at *
  generalize qzW (4 : Rat) = C at *
  generalize qzW (5 : Rat) = D at *
  generalize qzW (0 : Rat) = F at *
  generalize pz2 (4, 3) = b at *
  obtain ⟨np, wp, nq, wq, hr⟩ : ∃ np wp nq wq, pz2 (1, 2) = ⟨np, wp, nq, wq⟩ := ⟨_, _, _, _, rfl⟩
  have hwp : wp = [1] := by
    have : (pz2 (1, 2)).wp = [1] := l1
    rw [hr] at this; exact this
  subst hwp
  rw [hr] at c1 c2 c5 c8
  refine con_intro (fn := Tryz.f6) tok Tryz.func6 (by kernel_rfl) rfl ?_
  intro w0 X
  rw [entry_mkE _ _ [] rfl rfl]
  refine AWP_reg_seq tok fun K hK => ?_
  refine s_assign rfl rfl rfl ?_
  refine s_end (hK _ ?_); clear hK K
  refine AWP_reg_seq tok fun K hK => ?_
  refine s_call rfl rfl (c1) rfl rfl rfl rfl ?_
  refine s_alloc rfl rfl rfl rfl rfl rfl ?_
  refine s_store rfl rfl rfl rfl rfl ?_
  refine s_end (hK _ ?_); clear hK K
  refine AWP_reg_seq tok fun K hK => ?_
  refine s_load rfl rfl rfl ?_
  refine s_load rfl rfl rfl ?_
  refine s_call rfl rfl (c2) rfl rfl rfl rfl ?_
  refine s_alloc rfl rfl rfl rfl rfl rfl ?_
  refine s_store rfl rfl rfl rfl rfl ?_
  refine s_end (hK _ ?_); clear hK K
  refine a_draw tok mixed (A := [[], [], [], [], [0, 1, 2], [0, 1, 2, 3], [0, 1, 2, 3], [], [], [], []]) (an := [{}, {}, {}, {}, {}, {}, {}, { c := [11, 12, 13] }, { c := [11, 12, 13, 3] }, {}, {}]) rfl (by kernel_rfl) rfl fun K hK => ?_
  refine s_load rfl rfl rfl ?_
  refine s_call rfl rfl (c3) rfl rfl rfl rfl ?_
  refine s_call rfl rfl (c4) rfl rfl rfl rfl ?_
  refine s_call rfl rfl (c5) rfl rfl rfl rfl ?_
  refine s_move rfl rfl rfl ?_
  refine s_extract rfl rfl rfl ?_
  refine s_extract rfl rfl rfl ?_
  refine s_alloc rfl rfl rfl rfl rfl rfl ?_
  refine s_alloc rfl rfl rfl rfl rfl rfl ?_
  refine s_store rfl rfl rfl rfl rfl ?_
  refine s_store rfl rfl rfl rfl rfl ?_
  refine s_end (hK _ ?_); clear hK K
  refine a_draw tok mixed (A := [[], [], [0], [0, 1], [0, 1, 2], [0, 1, 2, 3], [0, 1, 2, 3, 4], [0, 1, 2, 3, 4], [0, 1, 2, 3, 4, 6], [0, 1, 2, 3, 4, 6, 7], [0, 1, 2, 3, 4, 6, 7, 8], [0, 1, 2, 3, 4, 6, 7, 8, 9], [0, 1, 2, 3, 4, 6, 7, 8, 9, 10], [0, 1, 2, 3, 4, 6, 7, 8, 9, 10, 11], [0, 1, 2, 3, 4, 5, 6, 7, 8, 9, 10, 11, 12], [0, 1, 2, 3, 4, 5, 6, 7, 8, 9, 10, 11, 12], [0, 1, 2, 3, 4, 5, 6, 7, 8, 9, 10, 11, 12], [0, 1, 2, 3, 4, 5, 6, 7, 8, 9, 10, 11, 12, 14, 15], [0, 1, 2, 3, 4, 5, 6, 7, 8, 9, 10, 11, 12, 13, 14, 15], [0, 1, 2, 3, 4, 5, 6, 7, 8, 9, 10, 11, 12, 13, 14, 15, 16, 17], [0, 1, 2, 3, 4, 5, 6, 7, 8, 9, 10, 11, 12, 13, 14, 15, 16, 17], [0, 1, 2, 3, 4, 5, 6, 7, 8, 9, 10, 11, 12, 13, 14, 15, 16, 17], [0, 1, 2, 3, 4, 5, 6, 7, 8, 9, 10, 11, 12, 13, 14, 15, 16, 17, 19, 20], [0, 1, 2, 3, 4, 5, 6, 7, 8, 9, 10, 11, 12, 13, 14, 15, 16, 17, 19, 20, 21], [0, 1, 2, 3, 4, 5, 6, 7, 8, 9, 10, 11, 12, 13, 14, 15, 16, 17, 18, 19, 20, 22], [0, 1, 2, 3, 4, 5, 6, 7, 8, 9, 10, 11, 12, 13, 14, 15, 16, 17, 18, 19, 20, 21, 22, 23], [0, 1, 2, 3, 4, 5, 6, 7, 8, 9, 10, 11, 12, 13, 14, 15, 16, 17, 18, 19, 20, 21, 22, 23], [0, 1, 2, 3, 4, 5, 6, 7, 8, 9, 10, 11, 12, 13, 14, 15, 16, 17, 18, 19, 20, 21, 22, 23, 25], [0, 1, 2, 3, 4, 5, 6, 7, 8, 9, 10, 11, 12, 13, 14, 15, 16, 17, 18, 19, 20, 21, 22, 23, 25, 26], [0, 1, 2, 3, 4, 5, 6, 7, 8, 9, 10, 11, 12, 13, 14, 15, 16, 17, 18, 19, 20, 21, 22, 23, 25, 26, 27], [0, 1, 2, 3, 4, 5, 6, 7, 8, 9, 10, 11, 12, 13, 14, 15, 16, 17, 18, 19, 20, 21, 22, 23, 24, 25, 26, 28], [0, 1, 2, 3, 4, 5, 6, 7, 8, 9, 10, 11, 12, 13, 14, 15, 16, 17, 18, 19, 20, 21, 22, 23, 24, 25, 26, 27, 28, 29], [0, 1, 2, 3, 4, 5, 6, 7, 8, 9, 10, 11, 12, 13, 14, 15, 16, 17, 18, 19, 20, 21, 22, 23, 24, 25, 26, 27, 28, 29], [0, 1, 2, 3, 4, 5, 6, 7, 8, 9, 10, 11, 12, 13, 14, 15, 16, 17, 18, 19, 20, 21, 22, 23, 24, 25, 26, 27, 28, 29, 31], [0, 1, 2, 3, 4, 5, 6, 7, 8, 9, 10, 11, 12, 13, 14, 15, 16, 17, 18, 19, 20, 21, 22, 23, 24, 25, 26, 27, 28, 29, 31, 32], [0, 1, 2, 3, 4, 5, 6, 7, 8, 9, 10, 11, 12, 13, 14, 15, 16, 17, 18, 19, 20, 21, 22, 23, 24, 25, 26, 27, 28, 29, 30, 31, 33], [0, 1, 2, 3, 4, 5, 6, 7, 8, 9, 10, 11, 12, 13, 14, 15, 16, 17, 18, 19, 20, 21, 22, 23, 24, 25, 26, 27, 28, 29, 30, 31, 32, 33, 34], [0, 1, 2, 3, 4, 5, 6, 7, 8, 9, 10, 11, 12, 13, 14, 15, 16, 17, 18, 19, 20, 21, 22, 23, 24, 25, 26, 27, 28, 29, 30, 31, 32, 33, 34], [0, 1, 2, 3, 4, 5, 6, 7, 8, 9, 10, 11, 12, 13, 14, 15, 16, 17, 18, 19, 20, 21, 22, 23, 24, 25, 26, 27, 28, 29, 30, 31, 32, 33, 34, 36], [0, 1, 2, 3, 4, 5, 6, 7, 8, 9, 10, 11, 12, 13, 14, 15, 16, 17, 18, 19, 20, 21, 22, 23, 24, 25, 26, 27, 28, 29, 30, 31, 32, 33, 34, 36, 37], []]) (an := [{}, {}, {}, {}, {}, {}, {}, {}, {}, {}, {}, {}, {}, {}, {}, {}, {}, {}, {}, {}, {}, {}, {}, {}, {}, {}, {}, {}, {}, {}, {}, {}, {}, {}, {}, {}, {}, {}, {}, {}, {}]) rfl (by kernel_rfl) rfl fun K hK => ?_
  refine s_fieldAddr rfl rfl rfl ?_
  refine s_fieldAddr rfl rfl rfl ?_
  refine s_load rfl rfl rfl ?_
  refine s_blt rfl (len_w rfl rfl rfl) rfl ?_
  refine s_bin rfl rfl rfl ?_
  refine s_move rfl rfl rfl ?_
  refine s_fieldAddr rfl rfl rfl ?_
  refine s_fieldAddr rfl rfl rfl ?_
  refine s_load rfl rfl rfl ?_
  refine s_indexAddr rfl (x_wD (i := 0) rfl rfl rfl rfl rfl (by simp)) rfl ?_
  refine s_load rfl rfl rfl ?_
  refine s_bin rfl rfl rfl ?_
  refine s_pick rfl rfl rfl ?_
  refine s_move rfl rfl rfl ?_
  refine s_load rfl rfl rfl ?_
  refine s_call rfl rfl (c6) rfl rfl rfl rfl ?_
  refine s_call rfl rfl (c7) rfl rfl rfl rfl ?_
  refine s_pick rfl rfl rfl ?_
  refine s_move rfl rfl rfl ?_
  refine s_load rfl rfl rfl ?_
  refine s_load rfl rfl rfl ?_
  refine s_call rfl rfl (c8) rfl rfl rfl rfl ?_
  refine s_un rfl rfl rfl ?_
  refine s_pick rfl rfl rfl ?_
  refine s_move rfl rfl rfl ?_
  refine s_load rfl rfl rfl ?_
  refine s_call rfl rfl (c9) rfl rfl rfl rfl ?_
  refine s_call rfl rfl (t1) rfl rfl rfl rfl ?_
  refine s_bin rfl (e_eqS _) rfl ?_
  refine s_pick rfl rfl rfl ?_
  refine s_move rfl rfl rfl ?_
  refine s_load rfl rfl rfl ?_
  refine s_call rfl rfl (t2) rfl rfl rfl rfl ?_
  refine s_bin rfl (e_eqS _) rfl ?_
  refine s_pick rfl rfl rfl ?_
  refine s_move rfl rfl rfl ?_
  refine s_load rfl rfl rfl ?_
  refine s_call rfl rfl (t3) rfl rfl rfl rfl ?_
  refine s_bin rfl (e_eqS _) rfl ?_
  refine s_pick rfl rfl rfl ?_
  refine s_assign rfl rfl rfl ?_
  refine s_end (hK _ ?_); clear hK K
  refine AWP_ret ?_
  repeat (with_reducible refine tq_ret ?_)
  exact post_ret (fin_mk (by rfl) (by rfl) (by rfl))
end Go.Proofs.YtipenembpidoiaaGreatDoor

/- Law 3: circle, group, rigid motions, actions. No condition. -/
namespace Go.Proofs.YtipenembpidoiaaGreatDoor
attribute [local irreducible] lexA

theorem e_q0 {T : Tab} {t : TypeId} {x y : Rat} (h : x = y) : effBin T .eql t (dI (qcmp x y)) (dI 0) = .set (dB true) := by
  show Eff.set (dB (qcmp x y == 0)) = _
  rw [qcmp_eq, decide_eq_true h]
theorem RW.OK.big {r : RW} {k : Nat} (h : r.OK k) (hk : Nat.ble k 16777216 = true) : r.wp.length ≤ 9223372036854775806 ∧ r.wq.length ≤ 9223372036854775806 :=
  ⟨Nat.le_trans (h.mono hk).lp (by decide), Nat.le_trans (h.mono hk).lq (by decide)⟩
theorem rat_same_t (a : RW) {k : Nat} (h : a.OK k) (hk : Nat.ble k 16777216 = true) : Con Tryz.prog 17 [AG a.cs, AG a.cs] { v := dB true } := by
  have c := bRat_c a a (h.big hk).1 (h.big hk).2
  rwa [decide_eq_true rfl] at c
theorem rot_same_t (a : RW) {k : Nat} (h : a.OK k) (hk : Nat.ble k 16777216 = true) : Con Tryz.prog 8 [AG a.cs, AG a.cs] { v := dB true } := by
  have c := bRot_c a a (h.big hk).1 (h.big hk).2
  rwa [decide_eq_true rfl] at c
theorem qOf0_t : Con Tryz.prog 44 [dI 0, dI 1] { v := AG (qzW 0).cs } := qOf_c 0 1 (by unfold I64; omega) (by unfold I64; omega)
theorem qOf1_t : Con Tryz.prog 44 [dI 1, dI 1] { v := AG (qzW 1).cs } := qOf_c 1 1 (by unfold I64; omega) (by unfold I64; omega)
theorem ok_q0 : (qzW (0 : Rat)).OK 1 := qzW_ok (by decide +kernel)
theorem ok_q1 : (qzW (1 : Rat)).OK 1 := qzW_ok (by decide +kernel)
theorem tOf1_t : Con Tryz.prog 39 [dI 0, dI 1] { v := AG (pz2 one2).cs } := tOf_t 0 1 (by unfold I64; omega) (by unfold I64; omega)
theorem ok_one : (pz2 one2).OK 1 := pz2_ok ⟨by decide, by decide⟩

end Go.Proofs.YtipenembpidoiaaGreatDoor

/- Law 3: actions, marks. No condition. -/
namespace Go.Proofs.YtipenembpidoiaaGreatDoor
attribute [local irreducible] lexA

theorem cm_cn (t u : TR) : (cmV t u).r.cn = gc (gm t.r.cn u.r.cn) := by show (pz2 _).cn = _; rw [pz2_cn, gc_idem]
theorem bk_cn (t : TR) : (bkV t).r.cn = inv2 t.r.cn := by show (pz2 _).cn = _; rw [pz2_cn, inv2_can]
theorem ac_cm (t u : TR) (x y : Rat) : acX (cmV t u) x y = acX t (acX u x y) (acY u x y) ∧ acY (cmV t u) x y = acY t (acX u x y) (acY u x y) := by
  have h := tn_gm t.r.cn_nz u.r.cn_nz x y
  have h2 := tn_lin t.r.cn (tnX u.r.cn x y) (tnY u.r.cn x y) u.x.v u.y.v
  have e1 : (cmV t u).x.v = acX t u.x.v u.y.v := qzW_v _
  have e2 : (cmV t u).y.v = acY t u.x.v u.y.v := qzW_v _
  constructor
  · show tnX (cmV t u).r.cn x y + (cmV t u).x.v = tnX t.r.cn (acX u x y) (acY u x y) + t.x.v
    rw [cm_cn, h.1, e1]
    unfold acX acY
    rw [h2.1]; grind
  · show tnY (cmV t u).r.cn x y + (cmV t u).y.v = tnY t.r.cn (acX u x y) (acY u x y) + t.y.v
    rw [cm_cn, h.2, e2]
    unfold acX acY
    rw [h2.2]; grind
theorem ac_bk (u : TR) (x y : Rat) : acX (bkV u) (acX u x y) (acY u x y) = x ∧ acY (bkV u) (acX u x y) (acY u x y) = y := by
  have h := tn_undo u.r.cn_nz x y
  have h2 := tn_lin (inv2 u.r.cn) (tnX u.r.cn x y + u.x.v) (tnY u.r.cn x y + u.y.v) (-u.x.v) (-u.y.v)
  have e1 : (bkV u).x.v = tnX (inv2 u.r.cn) (-u.x.v) (-u.y.v) := qzW_v _
  have e2 : (bkV u).y.v = tnY (inv2 u.r.cn) (-u.x.v) (-u.y.v) := qzW_v _
  have z : ∀ a b : Rat, a + b + -b = a := fun a b => by grind
  rw [z, z] at h2
  constructor
  · show tnX (bkV u).r.cn (acX u x y) (acY u x y) + (bkV u).x.v = x
    rw [bk_cn, e1]; unfold acX acY
    rw [← h2.1, h.1]
  · show tnY (bkV u).r.cn (acX u x y) (acY u x y) + (bkV u).y.v = y
    rw [bk_cn, e2]; unfold acX acY
    rw [← h2.2, h.2]
theorem eq_bk (t : TR) (z w : RW) (hz : z.v = 0) (hw : w.v = 0) : eqT (cmV t (bkV t)) (shV z w) = true := by
  have h := tn_redo t.r.cn_nz (-t.x.v) (-t.y.v)
  have e1 : (cmV t (bkV t)).x.v = 0 := by
    have e : (cmV t (bkV t)).x.v = acX t (bkV t).x.v (bkV t).y.v := qzW_v _
    have b1 : (bkV t).x.v = tnX (inv2 t.r.cn) (-t.x.v) (-t.y.v) := qzW_v _
    have b2 : (bkV t).y.v = tnY (inv2 t.r.cn) (-t.x.v) (-t.y.v) := qzW_v _
    rw [e, b1, b2]; unfold acX; rw [h.1]; grind
  have e2 : (cmV t (bkV t)).y.v = 0 := by
    have e : (cmV t (bkV t)).y.v = acY t (bkV t).x.v (bkV t).y.v := qzW_v _
    have b1 : (bkV t).x.v = tnX (inv2 t.r.cn) (-t.x.v) (-t.y.v) := qzW_v _
    have b2 : (bkV t).y.v = tnY (inv2 t.r.cn) (-t.x.v) (-t.y.v) := qzW_v _
    rw [e, b1, b2]; unfold acY; rw [h.2]; grind
  have s1 : (shV z w).x.v = 0 := by show (qzW z.v).v = 0; rw [qzW_v, hz]
  have s2 : (shV z w).y.v = 0 := by show (qzW w.v).v = 0; rw [qzW_v, hw]
  have s3 : (shV z w).r.cn = one2 := by show (pz2 one2).cn = _; rw [pz2_cn, gc_one]
  unfold eqT
  rw [e1, e2, s1, s2, s3, cm_cn, bk_cn, gm_inv t.r.cn_nz, decide_eq_true rfl, decide_eq_true rfl]; rfl

end Go.Proofs.YtipenembpidoiaaGreatDoor

/- Law 3: marks, sums of exponents, orders. No condition. -/
namespace Go.Proofs.YtipenembpidoiaaGreatDoor
attribute [local irreducible] lexA

theorem drN_le (h : Nat) : ∀ n, (-8192 ≤ (drN h n).1 ∧ (drN h n).1 ≤ 8192) ∧ (-8192 ≤ (drN h n).2 ∧ (drN h n).2 ≤ 8192)
  | 0 => by
    have h1 : ((h % 64 : Nat) : Int) ≤ 63 := by omega
    have h2 : 0 ≤ ((h % 64 : Nat) : Int) * ((h % 64 : Nat) : Int) := Int.mul_nonneg (by omega) (by omega)
    have h3 : ((h % 64 : Nat) : Int) * ((h % 64 : Nat) : Int) ≤ 63 * 63 := Int.mul_le_mul h1 h1 (by omega) (by omega)
    simp only [drN]
    omega
  | n + 1 => by
    have := drN_le h n
    simp only [drN]
    omega
theorem drD_le (h : Nat) : 0 < drD h ∧ drD h ≤ 8192 := by
  have h1 : ((h % 64 : Nat) : Int) ≤ 63 := by omega
  have h2 : 0 ≤ ((h % 64 : Nat) : Int) * ((h % 64 : Nat) : Int) := Int.mul_nonneg (by omega) (by omega)
  have h3 : ((h % 64 : Nat) : Int) * ((h % 64 : Nat) : Int) ≤ 63 * 63 := Int.mul_le_mul h1 h1 (by omega) (by omega)
  unfold drD; omega
def vcs (x y d : Int) : List SC := [.d (lI x), .d (lI y), .d (lI d)]

theorem mul_b {a b : Int} (ha : -8192 ≤ a ∧ a ≤ 8192) (hb : -8192 ≤ b ∧ b ≤ 8192) : -67108864 ≤ a * b ∧ a * b ≤ 67108864 := by
  have h1 : (a * b).natAbs ≤ 8192 * 8192 := by rw [Int.natAbs_mul]; exact Nat.mul_le_mul (by omega) (by omega)
  omega
theorem mk2_ok (h : Int) : (pz2 (mk2 (h % 256).toNat)).OK 16 := by
  obtain ⟨H, hH⟩ : ∃ H, (h % 256).toNat = H := ⟨_, rfl⟩
  rw [hH]
  have : ∀ n, zl (mkN H n).1 ≤ n * 3 + 2 ∧ zl (mkN H n).2 ≤ n * 3 + 2 := by
    intro n
    induction n with
    | zero => exact gc_zl (by decide) ⟨zl_i64 ⟨by simp only; omega, by simp only; omega⟩, zl_i64 ⟨by simp only; omega, by simp only; omega⟩⟩
    | succ n ih => exact zl_gm (l := 1) ih ⟨by decide, by decide⟩ (by omega)
  have := this (H / 64)
  exact pz2_ok ⟨by show zl (mkN H (H / 64)).1 ≤ _; omega, by show zl (mkN H (H / 64)).2 ≤ _; omega⟩

end Go.Proofs.YtipenembpidoiaaGreatDoor

/- Law 3: sums of exponents, orders. No condition. -/
namespace Go.Proofs.YtipenembpidoiaaGreatDoor
attribute [local irreducible] lexA

theorem e_gtL {T : Tab} {t : TypeId} {n : Nat} {m : Int} {k : Nat} (hm : m = (k : Int)) : effBin T .gtr t (dI n) (dI m) = .set (dB (!decide (n ≤ k))) := by
  subst hm
  show Eff.set (dB (decide ((n : Int) > (k : Int)))) = _
  rw [show decide ((n : Int) > (k : Int)) = !decide (n ≤ k) from by rw [Bool.eq_iff_iff]; simp only [decide_eq_true_eq, Bool.not_eq_true', decide_eq_false_iff_not]; omega]
theorem e_eqI0 {T : Tab} {t : TypeId} {x : Int} {d : Bool} (h : decide (x = 0) = d) : effBin T .eql t (dI x) (dI 0) = .set (dB d) := by
  subst h; rfl
theorem e_eqBB (x : Bool) : effBin tab .eql 4 (dB x) (dB x) = .set (dB true) := by cases x <;> rfl
def tiny3 (r : RW) : Bool := decide (r.wp.length ≤ 1) && decide (r.wq.length ≤ 1)
theorem tiny3_ok {r : RW} (h : tiny3 r = true) (hw : r.W) : r.OK 1 := by
  rw [tiny3, Bool.and_eq_true, decide_eq_true_eq, decide_eq_true_eq] at h
  exact ⟨hw.1, hw.2, h.1, h.2⟩
theorem pz2_inj {a b : Int × Int} (h : pz2 a = pz2 b) : a = b := by
  have h1 := pzW_p a.1 a.2
  have h2 := pzW_q a.1 a.2
  have h3 := pzW_p b.1 b.2
  have h4 := pzW_q b.1 b.2
  unfold pz2 at h
  rw [h] at h1 h2
  exact Prod.ext (h1.symm.trans h3) (h2.symm.trans h4)
theorem powV_in {r : RW} {n : Int} (h : -64 ≤ n ∧ n ≤ 64) : powV r n = (pz2 (pwZ r.cn n), 0) := by unfold powV; rw [if_pos h]

end Go.Proofs.YtipenembpidoiaaGreatDoor

/- Law 3: answers as the reference's. No condition. -/
namespace Go.Proofs.YtipenembpidoiaaGreatDoor
attribute [local irreducible] lexA

theorem e_eqII {T : Tab} {t : TypeId} (a : Int) : effBin T .eql t (dI a) (dI a) = .set (dB true) := by
  show Eff.set (dB (a == a)) = _
  rw [beq_self_eq_true]
theorem lAnswers_c (a b : RW) (ha : a.W) (hb : b.W) : Con Tryz.prog 3 [AG a.cs, AG b.cs] { v := dB true } := by
  refine con_intro (fn := Tryz.f3) tok Tryz.func3 (by kernel_rfl) rfl ?_
  intro w0 X
  rw [entry_mkE _ _ [(0, AG a.cs), (1, AG b.cs)] rfl rfl]
  refine AWP_reg_seq tok fun K hK => ?_
  refine s_box rfl rfl rfl rfl rfl rfl ?_
  refine s_box rfl rfl rfl rfl rfl rfl ?_
  refine s_assign rfl rfl rfl ?_
  refine s_end (hK _ ?_); clear hK K
  refine AWP_seq ?_
  refine a_join (α := Bool) (fun x => mk 62 [(2, .ptr 2 0), (3, .ptr 3 0), (4, dB false), (16, dB x)] [(2, some (.box a.cs)), (3, some (.box b.cs))] []) (fun x => x = !(small3 a && small3 b)) ?_ ?_
  · refine AWP_regW fun K hK => ?_
    refine w_step tok rfl ?_
    refine s_call rfl rfl (awake3_c) rfl rfl rfl rfl ?_
    refine s_end ?_
    refine w_step tok rfl ?_
    refine s_un rfl rfl rfl ?_
    refine s_end ?_
    refine w_step tok rfl ?_
    refine s_move rfl rfl rfl ?_
    refine s_end ?_
    refine w_split (fun h0 => ?_) (fun h0 => ?_)
    · refine w_skip rfl rfl ?_
      refine w_skip rfl rfl ?_
      refine w_skip rfl rfl ?_
      refine w_step tok rfl ?_
      refine s_pick rfl rfl rfl ?_
      refine s_end ?_
      refine w_step tok rfl ?_
      refine s_move rfl rfl rfl ?_
      refine s_end ?_
      refine w_skip rfl rfl ?_
      refine w_skip rfl rfl ?_
      refine w_skip rfl rfl ?_
      refine w_step tok rfl ?_
      refine s_pick rfl rfl rfl ?_
      refine s_end ?_
      refine w_end rfl (hK _ ?_); clear hK K
      first|(exact absurd h0 (by decide))|exact ⟨_, (by simp only [Bool.not_eq_true', Bool.not_eq_false'] at h0; simp only [h0, Bool.false_and, Bool.true_and, Bool.not_false, Bool.not_true, Bool.and_true]), Wk.mk' ⟨rfl, rfl, rfl, rfl, trivial⟩ ⟨rfl, rfl, trivial⟩⟩
    · refine w_step tok rfl ?_
      refine s_load rfl rfl rfl ?_
      refine s_end ?_
      refine w_step tok rfl ?_
      refine s_call rfl rfl (small3_c a) rfl rfl rfl rfl ?_
      refine s_end ?_
      refine w_step tok rfl ?_
      refine s_un rfl rfl rfl ?_
      refine s_end ?_
      refine w_step tok rfl ?_
      refine s_pick rfl rfl rfl ?_
      refine s_end ?_
      refine w_step tok rfl ?_
      refine s_move rfl rfl rfl ?_
      refine s_end ?_
      refine w_split (fun h1 => ?_) (fun h1 => ?_)
      · refine w_skip rfl rfl ?_
        refine w_skip rfl rfl ?_
        refine w_skip rfl rfl ?_
        refine w_step tok rfl ?_
        refine s_pick rfl rfl rfl ?_
        refine s_end ?_
        refine w_end rfl (hK _ ?_); clear hK K
        first|(exact absurd h0 (by decide))|exact ⟨_, (by simp only [Bool.not_eq_true', Bool.not_eq_false'] at h0 h1; simp only [h0, h1, Bool.false_and, Bool.true_and, Bool.not_false, Bool.not_true, Bool.and_true]), Wk.mk' ⟨rfl, rfl, rfl, rfl, trivial⟩ ⟨rfl, rfl, trivial⟩⟩
      · refine w_step tok rfl ?_
        refine s_load rfl rfl rfl ?_
        refine s_end ?_
        refine w_step tok rfl ?_
        refine s_call rfl rfl (small3_c b) rfl rfl rfl rfl ?_
        refine s_end ?_
        refine w_step tok rfl ?_
        refine s_un rfl rfl rfl ?_
        refine s_end ?_
        refine w_step tok rfl ?_
        refine s_pick rfl rfl rfl ?_
        refine s_end ?_
        refine w_end rfl (hK _ ?_); clear hK K
        first|(exact absurd h0 (by decide))|exact ⟨_, (by simp only [Bool.not_eq_true', Bool.not_eq_false'] at h0 h1; simp only [h0, h1, Bool.false_and, Bool.true_and, Bool.not_false, Bool.not_true, Bool.and_true]), Wk.mk' ⟨rfl, rfl, rfl, rfl, trivial⟩ ⟨rfl, rfl, trivial⟩⟩
  rintro x rfl
  refine a_cond rfl (fun hg => ?_) (fun hg => ?_)
  · refine AWP_reg_seq tok fun K hK => ?_
    refine s_call rfl rfl (awake3_c) rfl rfl rfl rfl ?_
    refine s_assign rfl rfl rfl ?_
    refine s_end (hK _ ?_); clear hK K
    refine AWP_ret ?_
    repeat (with_reducible refine tq_ret ?_)
    exact post_ret (fin_mk (by rfl) (by rfl) (by rfl))
  rw [Bool.not_eq_false', Bool.and_eq_true] at hg
  have oa := small3_ok hg.1 ha
  have ob := small3_ok hg.2 hb
  have la := oa.cn (by decide)
  have lb := ob.cn (by decide)
  have c1 := tNorm_t a (oa.mono rfl)
  have c2 := r3Norm_t a (oa.mono rfl)
  have c3 := tSame_t a b (oa.mono rfl) (ob.mono rfl)
  have c4 := r3Same_t a b (oa.mono rfl) (ob.mono rfl)
  have c5 := tThen_t a b (oa.mono rfl) (ob.mono rfl)
  have c6 := r3Then_t a b (oa.mono rfl) (ob.mono rfl)
  have c7 := tInv_t a (oa.mono rfl)
  have c8 := r3Inv_t a (oa.mono rfl)
  have c9 := tCos_t a (oa.mono rfl)
  have c10 := r3Cos_t a (oa.mono rfl)
  have c11 := tSin_t b (ob.mono rfl)
  have c12 := r3Sin_t b (ob.mono rfl)
  have d1 := rot_same_t _ (pz2_ok la) rfl
  have d2 := rot_same_t _ (pz2_ok (zl_gm la lb (Nat.le_refl 25))) rfl
  have d3 := rot_same_t _ (pz2_ok (zl_inv2 (by decide) la)) rfl
  have d4 := rat_same_t _ (qzW_ok (cs_ql oa (by decide)).1) rfl
  have d5 := rat_same_t _ (qzW_ok (cs_ql ob (by decide)).2) rfl
  generalize decide (a.cn = b.cn) = d at *
  generalize pz2 a.cn = x1 at *
  generalize pz2 (gc (gm a.cn b.cn)) = x2 at *
  generalize pz2 (inv2 a.cn) = x3 at *
  generalize qzW (cs2 a.cn) = x4 at *
  generalize qzW (sn2 b.cn) = x5 at *
  refine AWP_skip ?_
  show AWP _ _ _ _ _ _
  refine a_draw tok mixed (A := [[], [], [], [0], [0, 2], [0, 1, 2, 3], [0, 1, 2, 3, 4], [0, 1, 2, 3, 4], [0, 1, 2, 3, 4], [0, 1, 2, 3, 4], [0, 1, 2, 3, 4], [0, 1, 2, 3, 4, 6, 7], [0, 1, 2, 3, 4, 6, 7, 9, 10], [0, 1, 2, 3, 4, 6, 7, 8, 9, 10, 11], [0, 1, 2, 3, 4, 5, 6, 7, 8, 9, 10, 12], [0, 1, 2, 3, 4, 5, 6, 7, 8, 9, 10, 11, 12, 13], [0, 1, 2, 3, 4, 5, 6, 7, 8, 9, 10, 11, 12, 13], [0, 1, 2, 3, 4, 5, 6, 7, 8, 9, 10, 11, 12, 13], [0, 1, 2, 3, 4, 5, 6, 7, 8, 9, 10, 11, 12, 13], [0, 1, 2, 3, 4, 5, 6, 7, 8, 9, 10, 11, 12, 13], [0, 1, 2, 3, 4, 5, 6, 7, 8, 9, 10, 11, 12, 13, 15, 16], [0, 1, 2, 3, 4, 5, 6, 7, 8, 9, 10, 11, 12, 13, 15, 16, 18, 19], [0, 1, 2, 3, 4, 5, 6, 7, 8, 9, 10, 11, 12, 13, 15, 16, 17, 18, 19, 20], [0, 1, 2, 3, 4, 5, 6, 7, 8, 9, 10, 11, 12, 13, 14, 15, 16, 17, 18, 19, 20], [0, 1, 2, 3, 4, 5, 6, 7, 8, 9, 10, 11, 12, 13, 14, 15, 16, 17, 18, 19, 20, 21, 22], [0, 1, 2, 3, 4, 5, 6, 7, 8, 9, 10, 11, 12, 13, 14, 15, 16, 17, 18, 19, 20, 21, 22], [0, 1, 2, 3, 4, 5, 6, 7, 8, 9, 10, 11, 12, 13, 14, 15, 16, 17, 18, 19, 20, 21, 22], [0, 1, 2, 3, 4, 5, 6, 7, 8, 9, 10, 11, 12, 13, 14, 15, 16, 17, 18, 19, 20, 21, 22, 24], [0, 1, 2, 3, 4, 5, 6, 7, 8, 9, 10, 11, 12, 13, 14, 15, 16, 17, 18, 19, 20, 21, 22, 24, 26], [0, 1, 2, 3, 4, 5, 6, 7, 8, 9, 10, 11, 12, 13, 14, 15, 16, 17, 18, 19, 20, 21, 22, 24, 25, 26, 27], [0, 1, 2, 3, 4, 5, 6, 7, 8, 9, 10, 11, 12, 13, 14, 15, 16, 17, 18, 19, 20, 21, 22, 23, 24, 25, 26, 27], [0, 1, 2, 3, 4, 5, 6, 7, 8, 9, 10, 11, 12, 13, 14, 15, 16, 17, 18, 19, 20, 21, 22, 23, 24, 25, 26, 27, 28, 29], [0, 1, 2, 3, 4, 5, 6, 7, 8, 9, 10, 11, 12, 13, 14, 15, 16, 17, 18, 19, 20, 21, 22, 23, 24, 25, 26, 27, 28, 29], [0, 1, 2, 3, 4, 5, 6, 7, 8, 9, 10, 11, 12, 13, 14, 15, 16, 17, 18, 19, 20, 21, 22, 23, 24, 25, 26, 27, 28, 29], [0, 1, 2, 3, 4, 5, 6, 7, 8, 9, 10, 11, 12, 13, 14, 15, 16, 17, 18, 19, 20, 21, 22, 23, 24, 25, 26, 27, 28, 29, 31], [0, 1, 2, 3, 4, 5, 6, 7, 8, 9, 10, 11, 12, 13, 14, 15, 16, 17, 18, 19, 20, 21, 22, 23, 24, 25, 26, 27, 28, 29, 31, 33], [0, 1, 2, 3, 4, 5, 6, 7, 8, 9, 10, 11, 12, 13, 14, 15, 16, 17, 18, 19, 20, 21, 22, 23, 24, 25, 26, 27, 28, 29, 31, 32, 33, 34], [0, 1, 2, 3, 4, 5, 6, 7, 8, 9, 10, 11, 12, 13, 14, 15, 16, 17, 18, 19, 20, 21, 22, 23, 24, 25, 26, 27, 28, 29, 30, 31, 32, 33, 34], [0, 1, 2, 3, 4, 5, 6, 7, 8, 9, 10, 11, 12, 13, 14, 15, 16, 17, 18, 19, 20, 21, 22, 23, 24, 25, 26, 27, 28, 29, 30, 31, 32, 33, 34, 35, 36], [0, 1, 2, 3, 4, 5, 6, 7, 8, 9, 10, 11, 12, 13, 14, 15, 16, 17, 18, 19, 20, 21, 22, 23, 24, 25, 26, 27, 28, 29, 30, 31, 32, 33, 34, 35, 36], [0, 1, 2, 3, 4, 5, 6, 7, 8, 9, 10, 11, 12, 13, 14, 15, 16, 17, 18, 19, 20, 21, 22, 23, 24, 25, 26, 27, 28, 29, 30, 31, 32, 33, 34, 35, 36], [0, 1, 2, 3, 4, 5, 6, 7, 8, 9, 10, 11, 12, 13, 14, 15, 16, 17, 18, 19, 20, 21, 22, 23, 24, 25, 26, 27, 28, 29, 30, 31, 32, 33, 34, 35, 36, 38], [0, 1, 2, 3, 4, 5, 6, 7, 8, 9, 10, 11, 12, 13, 14, 15, 16, 17, 18, 19, 20, 21, 22, 23, 24, 25, 26, 27, 28, 29, 30, 31, 32, 33, 34, 35, 36, 38, 40], [0, 1, 2, 3, 4, 5, 6, 7, 8, 9, 10, 11, 12, 13, 14, 15, 16, 17, 18, 19, 20, 21, 22, 23, 24, 25, 26, 27, 28, 29, 30, 31, 32, 33, 34, 35, 36, 38, 39, 40, 41], []]) (an := [{}, {}, { c := [19] }, {}, {}, {}, {}, {}, {}, { c := [26] }, { c := [26] }, {}, {}, {}, {}, {}, {}, {}, { c := [35] }, { c := [35] }, {}, {}, {}, {}, {}, {}, { c := [43] }, {}, {}, {}, {}, {}, {}, { c := [50] }, {}, {}, {}, {}, {}, {}, { c := [57] }, {}, {}, {}, {}]) rfl (by kernel_rfl) rfl fun K hK => ?_
  refine s_load rfl rfl rfl ?_
  refine s_call rfl rfl (c1) rfl rfl rfl rfl ?_
  refine s_load rfl rfl rfl ?_
  refine s_call rfl rfl (c2) rfl rfl rfl rfl ?_
  refine s_call rfl rfl (d1) rfl rfl rfl rfl ?_
  refine s_move rfl rfl rfl ?_
  refine s_load rfl rfl rfl ?_
  refine s_load rfl rfl rfl ?_
  refine s_call rfl rfl (c3) rfl rfl rfl rfl ?_
  refine s_load rfl rfl rfl ?_
  refine s_load rfl rfl rfl ?_
  refine s_call rfl rfl (c4) rfl rfl rfl rfl ?_
  refine s_bin rfl (e_eqBB d) rfl ?_
  refine s_pick rfl rfl rfl ?_
  refine s_move rfl rfl rfl ?_
  refine s_load rfl rfl rfl ?_
  refine s_load rfl rfl rfl ?_
  refine s_call rfl rfl (c5) rfl rfl rfl rfl ?_
  refine s_load rfl rfl rfl ?_
  refine s_load rfl rfl rfl ?_
  refine s_call rfl rfl (c6) rfl rfl rfl rfl ?_
  refine s_call rfl rfl (d2) rfl rfl rfl rfl ?_
  refine s_pick rfl rfl rfl ?_
  refine s_move rfl rfl rfl ?_
  refine s_load rfl rfl rfl ?_
  refine s_call rfl rfl (c7) rfl rfl rfl rfl ?_
  refine s_load rfl rfl rfl ?_
  refine s_call rfl rfl (c8) rfl rfl rfl rfl ?_
  refine s_call rfl rfl (d3) rfl rfl rfl rfl ?_
  refine s_pick rfl rfl rfl ?_
  refine s_move rfl rfl rfl ?_
  refine s_load rfl rfl rfl ?_
  refine s_call rfl rfl (c9) rfl rfl rfl rfl ?_
  refine s_load rfl rfl rfl ?_
  refine s_call rfl rfl (c10) rfl rfl rfl rfl ?_
  refine s_call rfl rfl (d4) rfl rfl rfl rfl ?_
  refine s_pick rfl rfl rfl ?_
  refine s_move rfl rfl rfl ?_
  refine s_load rfl rfl rfl ?_
  refine s_call rfl rfl (c11) rfl rfl rfl rfl ?_
  refine s_load rfl rfl rfl ?_
  refine s_call rfl rfl (c12) rfl rfl rfl rfl ?_
  refine s_call rfl rfl (d5) rfl rfl rfl rfl ?_
  refine s_pick rfl rfl rfl ?_
  refine s_assign rfl rfl rfl ?_
  refine s_end (hK _ ?_); clear hK K
  refine AWP_ret ?_
  repeat (with_reducible refine tq_ret ?_)
  exact post_ret (fin_mk (by rfl) (by rfl) (by rfl))

theorem powV_ok {r : RW} {n : Int} (ok : r.OK 2) : (powV r n).1.OK 300 := by
  unfold powV
  split
  · have := zl_pwZ (n := 64) (z := n) (by decide) (ok.cn (by decide)) (by omega)
    exact pz2_ok ⟨by omega, by omega⟩
  · exact ⟨wOK.nil, wOK.nil, by decide, by decide⟩
theorem lPowers_c (a : RW) (p q : Int) (ha : a.W) (hp : I64 p) (hq : I64 q) : Con Tryz.prog 5 [AG a.cs, dI p, dI q] { v := dB true } := by
  refine con_intro (fn := Tryz.f5) tok Tryz.func5 (by kernel_rfl) rfl ?_
  intro w0 X
  rw [entry_mkE _ _ [(0, AG a.cs), (1, dI p), (2, dI q)] rfl rfl]
  refine AWP_reg_seq tok fun K hK => ?_
  refine s_box rfl rfl rfl rfl rfl rfl ?_
  refine s_assign rfl rfl rfl ?_
  refine s_end (hK _ ?_); clear hK K
  refine AWP_seq ?_
  refine a_join (α := Bool) (fun x => mk 76 [(1, dI p), (2, dI q), (3, .ptr 3 0), (6, dB false), (31, dB x)] [(3, some (.box a.cs))] []) (fun x => x = !(small3 a && (decide (a.wp.length ≤ 2) && decide (a.wq.length ≤ 2)))) ?_ ?_
  · refine AWP_regW fun K hK => ?_
    refine w_step tok rfl ?_
    refine s_call rfl rfl (awake3_c) rfl rfl rfl rfl ?_
    refine s_end ?_
    refine w_step tok rfl ?_
    refine s_un rfl rfl rfl ?_
    refine s_end ?_
    refine w_step tok rfl ?_
    refine s_move rfl rfl rfl ?_
    refine s_end ?_
    refine w_split (fun h0 => ?_) (fun h0 => ?_)
    · refine w_skip rfl rfl ?_
      refine w_skip rfl rfl ?_
      refine w_skip rfl rfl ?_
      refine w_step tok rfl ?_
      refine s_pick rfl rfl rfl ?_
      refine s_end ?_
      refine w_step tok rfl ?_
      refine s_move rfl rfl rfl ?_
      refine s_end ?_
      refine w_skip rfl rfl ?_
      refine w_skip rfl rfl ?_
      refine w_skip rfl rfl ?_
      refine w_skip rfl rfl ?_
      refine w_skip rfl rfl ?_
      refine w_step tok rfl ?_
      refine s_pick rfl rfl rfl ?_
      refine s_end ?_
      refine w_step tok rfl ?_
      refine s_move rfl rfl rfl ?_
      refine s_end ?_
      refine w_skip rfl rfl ?_
      refine w_skip rfl rfl ?_
      refine w_skip rfl rfl ?_
      refine w_skip rfl rfl ?_
      refine w_skip rfl rfl ?_
      refine w_step tok rfl ?_
      refine s_pick rfl rfl rfl ?_
      refine s_end ?_
      refine w_end rfl (hK _ ?_); clear hK K
      first|(exact absurd h0 (by decide))|exact ⟨_, (by simp only [Bool.not_eq_true', Bool.not_eq_false'] at h0; simp only [h0, Bool.false_and, Bool.true_and, Bool.not_false, Bool.not_true, Bool.and_true]), Wk.mk' ⟨rfl, rfl, rfl, rfl, rfl, trivial⟩ ⟨rfl, trivial⟩⟩
    · refine w_step tok rfl ?_
      refine s_load rfl rfl rfl ?_
      refine s_end ?_
      refine w_step tok rfl ?_
      refine s_call rfl rfl (small3_c a) rfl rfl rfl rfl ?_
      refine s_end ?_
      refine w_step tok rfl ?_
      refine s_un rfl rfl rfl ?_
      refine s_end ?_
      refine w_step tok rfl ?_
      refine s_pick rfl rfl rfl ?_
      refine s_end ?_
      refine w_step tok rfl ?_
      refine s_move rfl rfl rfl ?_
      refine s_end ?_
      refine w_split (fun h1 => ?_) (fun h1 => ?_)
      · refine w_skip rfl rfl ?_
        refine w_skip rfl rfl ?_
        refine w_skip rfl rfl ?_
        refine w_skip rfl rfl ?_
        refine w_skip rfl rfl ?_
        refine w_step tok rfl ?_
        refine s_pick rfl rfl rfl ?_
        refine s_end ?_
        refine w_step tok rfl ?_
        refine s_move rfl rfl rfl ?_
        refine s_end ?_
        refine w_skip rfl rfl ?_
        refine w_skip rfl rfl ?_
        refine w_skip rfl rfl ?_
        refine w_skip rfl rfl ?_
        refine w_skip rfl rfl ?_
        refine w_step tok rfl ?_
        refine s_pick rfl rfl rfl ?_
        refine s_end ?_
        refine w_end rfl (hK _ ?_); clear hK K
        first|(exact absurd h0 (by decide))|exact ⟨_, (by simp only [Bool.not_eq_true', Bool.not_eq_false'] at h0 h1; simp only [h0, h1, Bool.false_and, Bool.true_and, Bool.not_false, Bool.not_true, Bool.and_true]), Wk.mk' ⟨rfl, rfl, rfl, rfl, rfl, trivial⟩ ⟨rfl, trivial⟩⟩
      · refine w_step tok rfl ?_
        refine s_fieldAddr rfl rfl rfl ?_
        refine s_end ?_
        refine w_step tok rfl ?_
        refine s_fieldAddr rfl rfl rfl ?_
        refine s_end ?_
        refine w_step tok rfl ?_
        refine s_load rfl rfl rfl ?_
        refine s_end ?_
        refine w_step tok rfl ?_
        refine s_blt rfl (len_w rfl rfl rfl) rfl ?_
        refine s_end ?_
        refine w_step tok rfl ?_
        refine s_bin rfl (e_gtL (k := 2) rfl) rfl ?_
        refine s_end ?_
        refine w_step tok rfl ?_
        refine s_pick rfl rfl rfl ?_
        refine s_end ?_
        refine w_step tok rfl ?_
        refine s_move rfl rfl rfl ?_
        refine s_end ?_
        refine w_split (fun h2 => ?_) (fun h2 => ?_)
        · refine w_skip rfl rfl ?_
          refine w_skip rfl rfl ?_
          refine w_skip rfl rfl ?_
          refine w_skip rfl rfl ?_
          refine w_skip rfl rfl ?_
          refine w_step tok rfl ?_
          refine s_pick rfl rfl rfl ?_
          refine s_end ?_
          refine w_end rfl (hK _ ?_); clear hK K
          first|(exact absurd h0 (by decide))|exact ⟨_, (by simp only [Bool.not_eq_true', Bool.not_eq_false'] at h0 h1 h2; simp only [h0, h1, h2, Bool.false_and, Bool.true_and, Bool.not_false, Bool.not_true, Bool.and_true]), Wk.mk' ⟨rfl, rfl, rfl, rfl, rfl, trivial⟩ ⟨rfl, trivial⟩⟩
        · refine w_step tok rfl ?_
          refine s_fieldAddr rfl rfl rfl ?_
          refine s_end ?_
          refine w_step tok rfl ?_
          refine s_fieldAddr rfl rfl rfl ?_
          refine s_end ?_
          refine w_step tok rfl ?_
          refine s_load rfl rfl rfl ?_
          refine s_end ?_
          refine w_step tok rfl ?_
          refine s_blt rfl (len_w rfl rfl rfl) rfl ?_
          refine s_end ?_
          refine w_step tok rfl ?_
          refine s_bin rfl (e_gtL (k := 2) rfl) rfl ?_
          refine s_end ?_
          refine w_step tok rfl ?_
          refine s_pick rfl rfl rfl ?_
          refine s_end ?_
          refine w_end rfl (hK _ ?_); clear hK K
          first|(exact absurd h0 (by decide))|exact ⟨_, (by simp only [Bool.not_eq_true', Bool.not_eq_false'] at h0 h1 h2; simp only [h0, h1, h2, Bool.false_and, Bool.true_and, Bool.not_false, Bool.not_true, Bool.and_true]), Wk.mk' ⟨rfl, rfl, rfl, rfl, rfl, trivial⟩ ⟨rfl, trivial⟩⟩
  rintro x rfl
  refine a_cond rfl (fun hg => ?_) (fun hg => ?_)
  · refine AWP_reg_seq tok fun K hK => ?_
    refine s_call rfl rfl (awake3_c) rfl rfl rfl rfl ?_
    refine s_assign rfl rfl rfl ?_
    refine s_end (hK _ ?_); clear hK K
    refine AWP_ret ?_
    repeat (with_reducible refine tq_ret ?_)
    exact post_ret (fin_mk (by rfl) (by rfl) (by rfl))
  rw [Bool.not_eq_false', Bool.and_eq_true, Bool.and_eq_true, decide_eq_true_eq, decide_eq_true_eq] at hg
  have oa : a.OK 2 := ⟨ha.1, ha.2, hg.2.1, hg.2.2⟩
  have c1 := tPower_t a p (oa.mono rfl) hp
  have c2 := r3Power_t a p (oa.mono rfl) hp
  have c3 := tOrder_t a (oa.mono rfl)
  have c4 := r3Order_t a (oa.mono rfl)
  have c5 := tOf_t p q hp hq
  have c6 := r3Of_t p q hp hq
  have c7 := tMark_t q
  have c8 := r3Mark_t q hq
  have d1 := rot_same_t _ (powV_ok (n := p) oa) rfl
  have d2 := rot_same_t _ (pz2_ok (gc_zl (a := (p, q)) (k := 2) (by decide) ⟨zl_i64 hp, zl_i64 hq⟩)) rfl
  have d3 := rot_same_t _ (mk2_ok q) rfl
  generalize (powV a p).1 = x1 at *
  generalize (powV a p).2 = x2 at *
  generalize ordN a.cn = x3 at *
  generalize pz2 (gc (p, q)) = x4 at *
  generalize pz2 (mk2 (q % 256).toNat) = x5 at *
  refine AWP_skip ?_
  show AWP _ _ _ _ _ _
  refine AWP_reg_seq tok fun K hK => ?_
  refine s_load rfl rfl rfl ?_
  refine s_move rfl rfl rfl ?_
  refine s_call rfl rfl (c1) rfl rfl rfl rfl ?_
  refine s_move rfl rfl rfl ?_
  refine s_extract rfl rfl rfl ?_
  refine s_extract rfl rfl rfl ?_
  refine s_alloc rfl rfl rfl rfl rfl rfl ?_
  refine s_store rfl rfl rfl rfl rfl ?_
  refine s_assign rfl rfl rfl ?_
  refine s_end (hK _ ?_); clear hK K
  refine AWP_reg_seq tok fun K hK => ?_
  refine s_load rfl rfl rfl ?_
  refine s_move rfl rfl rfl ?_
  refine s_call rfl rfl (c2) rfl rfl rfl rfl ?_
  refine s_move rfl rfl rfl ?_
  refine s_extract rfl rfl rfl ?_
  refine s_extract rfl rfl rfl ?_
  refine s_alloc rfl rfl rfl rfl rfl rfl ?_
  refine s_store rfl rfl rfl rfl rfl ?_
  refine s_assign rfl rfl rfl ?_
  refine s_end (hK _ ?_); clear hK K
  refine a_draw tok mixed (A := [[], [], [], [0, 1], [0, 1, 2], [0, 1, 2], [0, 1, 2], [0, 1, 2, 4, 5], [0, 1, 2, 3, 4, 5], [0, 1, 2, 3, 4, 5, 6, 7], [0, 1, 2, 3, 4, 5, 6, 7], [0, 1, 2, 3, 4, 5, 6, 7], [0, 1, 2, 3, 4, 5, 6, 7, 9], [0, 1, 2, 3, 4, 5, 6, 7, 9, 11], [0, 1, 2, 3, 4, 5, 6, 7, 9, 10, 11, 12], [0, 1, 2, 3, 4, 5, 6, 7, 8, 9, 10, 11, 13], [0, 1, 2, 3, 4, 5, 6, 7, 8, 9, 10, 11, 12, 13, 14], [0, 1, 2, 3, 4, 5, 6, 7, 8, 9, 10, 11, 12, 13, 14], [0, 1, 2, 3, 4, 5, 6, 7, 8, 9, 10, 11, 12, 13, 14], [0, 1, 2, 3, 4, 5, 6, 7, 8, 9, 10, 11, 12, 13, 14], [0, 1, 2, 3, 4, 5, 6, 7, 8, 9, 10, 11, 12, 13, 14], [0, 1, 2, 3, 4, 5, 6, 7, 8, 9, 10, 11, 12, 13, 14, 16, 17], [0, 1, 2, 3, 4, 5, 6, 7, 8, 9, 10, 11, 12, 13, 14, 16, 17, 19, 20], [0, 1, 2, 3, 4, 5, 6, 7, 8, 9, 10, 11, 12, 13, 14, 16, 17, 18, 19, 20, 21], [0, 1, 2, 3, 4, 5, 6, 7, 8, 9, 10, 11, 12, 13, 14, 15, 16, 17, 18, 19, 20, 21], [0, 1, 2, 3, 4, 5, 6, 7, 8, 9, 10, 11, 12, 13, 14, 15, 16, 17, 18, 19, 20, 21, 22, 23], [0, 1, 2, 3, 4, 5, 6, 7, 8, 9, 10, 11, 12, 13, 14, 15, 16, 17, 18, 19, 20, 21, 22, 23], [0, 1, 2, 3, 4, 5, 6, 7, 8, 9, 10, 11, 12, 13, 14, 15, 16, 17, 18, 19, 20, 21, 22, 23], [0, 1, 2, 3, 4, 5, 6, 7, 8, 9, 10, 11, 12, 13, 14, 15, 16, 17, 18, 19, 20, 21, 22, 23, 25], [0, 1, 2, 3, 4, 5, 6, 7, 8, 9, 10, 11, 12, 13, 14, 15, 16, 17, 18, 19, 20, 21, 22, 23, 25, 27], [0, 1, 2, 3, 4, 5, 6, 7, 8, 9, 10, 11, 12, 13, 14, 15, 16, 17, 18, 19, 20, 21, 22, 23, 25, 26, 27, 28], []]) (an := [{}, {}, {}, {}, {}, {}, {}, {}, {}, {}, {}, { c := [55] }, {}, {}, {}, {}, {}, {}, {}, { c := [63] }, { c := [63] }, {}, {}, {}, {}, {}, {}, { c := [71] }, {}, {}, {}, {}]) rfl (by kernel_rfl) rfl fun K hK => ?_
  refine s_move rfl rfl rfl ?_
  refine s_move rfl rfl rfl ?_
  refine s_bin rfl (e_eqII _) rfl ?_
  refine s_move rfl rfl rfl ?_
  refine s_load rfl rfl rfl ?_
  refine s_load rfl rfl rfl ?_
  refine s_call rfl rfl (d1) rfl rfl rfl rfl ?_
  refine s_pick rfl rfl rfl ?_
  refine s_move rfl rfl rfl ?_
  refine s_load rfl rfl rfl ?_
  refine s_call rfl rfl (c3) rfl rfl rfl rfl ?_
  refine s_load rfl rfl rfl ?_
  refine s_call rfl rfl (c4) rfl rfl rfl rfl ?_
  refine s_bin rfl (e_eqII _) rfl ?_
  refine s_pick rfl rfl rfl ?_
  refine s_move rfl rfl rfl ?_
  refine s_move rfl rfl rfl ?_
  refine s_move rfl rfl rfl ?_
  refine s_call rfl rfl (c5) rfl rfl rfl rfl ?_
  refine s_move rfl rfl rfl ?_
  refine s_move rfl rfl rfl ?_
  refine s_call rfl rfl (c6) rfl rfl rfl rfl ?_
  refine s_call rfl rfl (d2) rfl rfl rfl rfl ?_
  refine s_pick rfl rfl rfl ?_
  refine s_move rfl rfl rfl ?_
  refine s_move rfl rfl rfl ?_
  refine s_call rfl rfl (c7) rfl rfl rfl rfl ?_
  refine s_move rfl rfl rfl ?_
  refine s_call rfl rfl (c8) rfl rfl rfl rfl ?_
  refine s_call rfl rfl (d3) rfl rfl rfl rfl ?_
  refine s_pick rfl rfl rfl ?_
  refine s_assign rfl rfl rfl ?_
  refine s_end (hK _ ?_); clear hK K
  refine AWP_ret ?_
  repeat (with_reducible refine tq_ret ?_)
  exact post_ret (fin_mk (by rfl) (by rfl) (by rfl))

theorem same3_c (t : TR) {k : Nat} (ok : t.OK k) (hk : Nat.ble k 16777216 = true) : Con Tryz.prog 32 [AG t.cs, AG t.cs] { v := dB true } := by
  have c1 := rot_same_t _ ok.r hk
  have c2 := rat_same_t _ ok.x hk
  have c3 := rat_same_t _ ok.y hk
  refine con_intro (fn := Tryz.f32) tok Tryz.func32 (by kernel_rfl) rfl ?_
  intro w0 X
  rw [entry_mkE _ _ [(0, AG t.cs), (1, AG t.cs)] rfl rfl]
  refine AWP_reg_seq tok fun K hK => ?_
  refine s_box rfl rfl rfl rfl rfl rfl ?_
  refine s_box rfl rfl rfl rfl rfl rfl ?_
  refine s_assign rfl rfl rfl ?_
  refine s_end (hK _ ?_); clear hK K
  refine AWP_reg_seq tok fun K hK => ?_
  refine s_fieldAddr rfl rfl rfl ?_
  refine s_load rfl rfl rfl ?_
  refine s_fieldAddr rfl rfl rfl ?_
  refine s_load rfl rfl rfl ?_
  refine s_call rfl rfl (c1) rfl rfl rfl rfl ?_
  refine s_move rfl rfl rfl ?_
  refine s_fieldAddr rfl rfl rfl ?_
  refine s_load rfl rfl rfl ?_
  refine s_fieldAddr rfl rfl rfl ?_
  refine s_load rfl rfl rfl ?_
  refine s_call rfl rfl (c2) rfl rfl rfl rfl ?_
  refine s_pick rfl rfl rfl ?_
  refine s_move rfl rfl rfl ?_
  refine s_fieldAddr rfl rfl rfl ?_
  refine s_load rfl rfl rfl ?_
  refine s_fieldAddr rfl rfl rfl ?_
  refine s_load rfl rfl rfl ?_
  refine s_call rfl rfl (c3) rfl rfl rfl rfl ?_
  refine s_pick rfl rfl rfl ?_
  refine s_assign rfl rfl rfl ?_
  refine s_end (hK _ ?_); clear hK K
  refine AWP_ret ?_
  repeat (with_reducible refine tq_ret ?_)
  exact post_ret (fin_mk (by rfl) (by rfl) (by rfl))
set_option maxHeartbeats 4000000 in
theorem lTransforms_c (t u : TR) (p : SP) (ht : t.W) (hu : u.W) (hp : p.W) : Con Tryz.prog 4 [AG t.cs, AG u.cs, AG p.cs] { v := dB true } := by
  refine con_intro (fn := Tryz.f4) tok Tryz.func4 (by kernel_rfl) rfl ?_
  intro w0 X
  rw [entry_mkE _ _ [(0, AG t.cs), (1, AG u.cs), (2, AG p.cs)] rfl rfl]
  refine AWP_reg_seq tok fun K hK => ?_
  refine s_box rfl rfl rfl rfl rfl rfl ?_
  refine s_box rfl rfl rfl rfl rfl rfl ?_
  refine s_box rfl rfl rfl rfl rfl rfl ?_
  refine s_assign rfl rfl rfl ?_
  refine s_end (hK _ ?_); clear hK K
  refine AWP_seq ?_
  refine a_join (α := Bool) (fun x => mk 112 [(3, .ptr 3 0), (4, .ptr 4 0), (5, .ptr 5 0), (6, dB false), (40, dB x)] [(3, some (.box t.cs)), (4, some (.box u.cs)), (5, some (.box p.cs))] []) (fun x => x = !(light3 t && (light3 u && (small3 p.x && small3 p.y)))) ?_ ?_
  · refine AWP_regW fun K hK => ?_
    refine w_step tok rfl ?_
    refine s_call rfl rfl (awake3_c) rfl rfl rfl rfl ?_
    refine s_end ?_
    refine w_step tok rfl ?_
    refine s_un rfl rfl rfl ?_
    refine s_end ?_
    refine w_step tok rfl ?_
    refine s_move rfl rfl rfl ?_
    refine s_end ?_
    refine w_split (fun h0 => ?_) (fun h0 => ?_)
    · refine w_skip rfl rfl ?_
      refine w_skip rfl rfl ?_
      refine w_skip rfl rfl ?_
      refine w_step tok rfl ?_
      refine s_pick rfl rfl rfl ?_
      refine s_end ?_
      refine w_step tok rfl ?_
      refine s_move rfl rfl rfl ?_
      refine s_end ?_
      refine w_skip rfl rfl ?_
      refine w_skip rfl rfl ?_
      refine w_skip rfl rfl ?_
      refine w_step tok rfl ?_
      refine s_pick rfl rfl rfl ?_
      refine s_end ?_
      refine w_step tok rfl ?_
      refine s_move rfl rfl rfl ?_
      refine s_end ?_
      refine w_skip rfl rfl ?_
      refine w_skip rfl rfl ?_
      refine w_skip rfl rfl ?_
      refine w_skip rfl rfl ?_
      refine w_step tok rfl ?_
      refine s_pick rfl rfl rfl ?_
      refine s_end ?_
      refine w_step tok rfl ?_
      refine s_move rfl rfl rfl ?_
      refine s_end ?_
      refine w_skip rfl rfl ?_
      refine w_skip rfl rfl ?_
      refine w_skip rfl rfl ?_
      refine w_skip rfl rfl ?_
      refine w_step tok rfl ?_
      refine s_pick rfl rfl rfl ?_
      refine s_end ?_
      refine w_end rfl (hK _ ?_); clear hK K
      first|(exact absurd h0 (by decide))|exact ⟨_, (by simp only [Bool.not_eq_true', Bool.not_eq_false'] at h0; simp only [h0, Bool.false_and, Bool.true_and, Bool.not_false, Bool.not_true, Bool.and_true]), Wk.mk' ⟨rfl, rfl, rfl, rfl, rfl, trivial⟩ ⟨rfl, rfl, rfl, trivial⟩⟩
    · refine w_step tok rfl ?_
      refine s_load rfl rfl rfl ?_
      refine s_end ?_
      refine w_step tok rfl ?_
      refine s_call rfl rfl (light3_c t) rfl rfl rfl rfl ?_
      refine s_end ?_
      refine w_step tok rfl ?_
      refine s_un rfl rfl rfl ?_
      refine s_end ?_
      refine w_step tok rfl ?_
      refine s_pick rfl rfl rfl ?_
      refine s_end ?_
      refine w_step tok rfl ?_
      refine s_move rfl rfl rfl ?_
      refine s_end ?_
      refine w_split (fun h1 => ?_) (fun h1 => ?_)
      · refine w_skip rfl rfl ?_
        refine w_skip rfl rfl ?_
        refine w_skip rfl rfl ?_
        refine w_step tok rfl ?_
        refine s_pick rfl rfl rfl ?_
        refine s_end ?_
        refine w_step tok rfl ?_
        refine s_move rfl rfl rfl ?_
        refine s_end ?_
        refine w_skip rfl rfl ?_
        refine w_skip rfl rfl ?_
        refine w_skip rfl rfl ?_
        refine w_skip rfl rfl ?_
        refine w_step tok rfl ?_
        refine s_pick rfl rfl rfl ?_
        refine s_end ?_
        refine w_step tok rfl ?_
        refine s_move rfl rfl rfl ?_
        refine s_end ?_
        refine w_skip rfl rfl ?_
        refine w_skip rfl rfl ?_
        refine w_skip rfl rfl ?_
        refine w_skip rfl rfl ?_
        refine w_step tok rfl ?_
        refine s_pick rfl rfl rfl ?_
        refine s_end ?_
        refine w_end rfl (hK _ ?_); clear hK K
        first|(exact absurd h0 (by decide))|exact ⟨_, (by simp only [Bool.not_eq_true', Bool.not_eq_false'] at h0 h1; simp only [h0, h1, Bool.false_and, Bool.true_and, Bool.not_false, Bool.not_true, Bool.and_true]), Wk.mk' ⟨rfl, rfl, rfl, rfl, rfl, trivial⟩ ⟨rfl, rfl, rfl, trivial⟩⟩
      · refine w_step tok rfl ?_
        refine s_load rfl rfl rfl ?_
        refine s_end ?_
        refine w_step tok rfl ?_
        refine s_call rfl rfl (light3_c u) rfl rfl rfl rfl ?_
        refine s_end ?_
        refine w_step tok rfl ?_
        refine s_un rfl rfl rfl ?_
        refine s_end ?_
        refine w_step tok rfl ?_
        refine s_pick rfl rfl rfl ?_
        refine s_end ?_
        refine w_step tok rfl ?_
        refine s_move rfl rfl rfl ?_
        refine s_end ?_
        refine w_split (fun h2 => ?_) (fun h2 => ?_)
        · refine w_skip rfl rfl ?_
          refine w_skip rfl rfl ?_
          refine w_skip rfl rfl ?_
          refine w_skip rfl rfl ?_
          refine w_step tok rfl ?_
          refine s_pick rfl rfl rfl ?_
          refine s_end ?_
          refine w_step tok rfl ?_
          refine s_move rfl rfl rfl ?_
          refine s_end ?_
          refine w_skip rfl rfl ?_
          refine w_skip rfl rfl ?_
          refine w_skip rfl rfl ?_
          refine w_skip rfl rfl ?_
          refine w_step tok rfl ?_
          refine s_pick rfl rfl rfl ?_
          refine s_end ?_
          refine w_end rfl (hK _ ?_); clear hK K
          first|(exact absurd h0 (by decide))|exact ⟨_, (by simp only [Bool.not_eq_true', Bool.not_eq_false'] at h0 h1 h2; simp only [h0, h1, h2, Bool.false_and, Bool.true_and, Bool.not_false, Bool.not_true, Bool.and_true]), Wk.mk' ⟨rfl, rfl, rfl, rfl, rfl, trivial⟩ ⟨rfl, rfl, rfl, trivial⟩⟩
        · refine w_step tok rfl ?_
          refine s_fieldAddr rfl rfl rfl ?_
          refine s_end ?_
          refine w_step tok rfl ?_
          refine s_load rfl rfl rfl ?_
          refine s_end ?_
          refine w_step tok rfl ?_
          refine s_call rfl rfl (short3_c p.x) rfl rfl rfl rfl ?_
          refine s_end ?_
          refine w_step tok rfl ?_
          refine s_un rfl rfl rfl ?_
          refine s_end ?_
          refine w_step tok rfl ?_
          refine s_pick rfl rfl rfl ?_
          refine s_end ?_
          refine w_step tok rfl ?_
          refine s_move rfl rfl rfl ?_
          refine s_end ?_
          refine w_split (fun h3 => ?_) (fun h3 => ?_)
          · refine w_skip rfl rfl ?_
            refine w_skip rfl rfl ?_
            refine w_skip rfl rfl ?_
            refine w_skip rfl rfl ?_
            refine w_step tok rfl ?_
            refine s_pick rfl rfl rfl ?_
            refine s_end ?_
            refine w_end rfl (hK _ ?_); clear hK K
            first|(exact absurd h0 (by decide))|exact ⟨_, (by simp only [Bool.not_eq_true', Bool.not_eq_false'] at h0 h1 h2 h3; simp only [h0, h1, h2, h3, Bool.false_and, Bool.true_and, Bool.not_false, Bool.not_true, Bool.and_true]), Wk.mk' ⟨rfl, rfl, rfl, rfl, rfl, trivial⟩ ⟨rfl, rfl, rfl, trivial⟩⟩
          · refine w_step tok rfl ?_
            refine s_fieldAddr rfl rfl rfl ?_
            refine s_end ?_
            refine w_step tok rfl ?_
            refine s_load rfl rfl rfl ?_
            refine s_end ?_
            refine w_step tok rfl ?_
            refine s_call rfl rfl (short3_c p.y) rfl rfl rfl rfl ?_
            refine s_end ?_
            refine w_step tok rfl ?_
            refine s_un rfl rfl rfl ?_
            refine s_end ?_
            refine w_step tok rfl ?_
            refine s_pick rfl rfl rfl ?_
            refine s_end ?_
            refine w_end rfl (hK _ ?_); clear hK K
            first|(exact absurd h0 (by decide))|exact ⟨_, (by simp only [Bool.not_eq_true', Bool.not_eq_false'] at h0 h1 h2 h3; simp only [h0, h1, h2, h3, Bool.false_and, Bool.true_and, Bool.not_false, Bool.not_true, Bool.and_true]), Wk.mk' ⟨rfl, rfl, rfl, rfl, rfl, trivial⟩ ⟨rfl, rfl, rfl, trivial⟩⟩
  rintro x rfl
  refine a_cond rfl (fun hg => ?_) (fun hg => ?_)
  · refine AWP_reg_seq tok fun K hK => ?_
    refine s_call rfl rfl (awake3_c) rfl rfl rfl rfl ?_
    refine s_assign rfl rfl rfl ?_
    refine s_end (hK _ ?_); clear hK K
    refine AWP_ret ?_
    repeat (with_reducible refine tq_ret ?_)
    exact post_ret (fin_mk (by rfl) (by rfl) (by rfl))
  rw [Bool.not_eq_false', Bool.and_eq_true, Bool.and_eq_true, Bool.and_eq_true] at hg
  have ot := light3_ok hg.1 ht
  have ou := light3_ok hg.2.1 hu
  have o1 := small3_ok hg.2.2.1 hp.1
  have o2 := small3_ok hg.2.2.2 hp.2
  have c1 := tAct_t t p.x p.y (ot.mono rfl) (o1.mono rfl) (o2.mono rfl)
  have c2 := r3Act_t t p.x p.y (ot.mono rfl) (o1.mono rfl) (o2.mono rfl)
  have b1 := ac_ql (m := 100) ot rfl (o1.ql rfl) (o2.ql rfl) (by decide)
  have oc := cm_ok (m := 100) ot rfl ou rfl (by decide)
  have obt := bk_ok (m := 100) ot rfl (by decide)
  have os := sh_ok rfl o1 o2
  have c3 := tCompose_t t u (ot.mono rfl) (ou.mono rfl)
  have c4 := r3Compose_t t u (ot.mono rfl) (ou.mono rfl)
  have c5 := tBack_t t (ot.mono rfl)
  have c6 := r3Back_t t (ot.mono rfl)
  have c7 := tShift_t p.x p.y (o1.mono rfl) (o2.mono rfl)
  have c8 := r3Shift_t p.x p.y (o1.mono rfl) (o2.mono rfl)
  have c9 := tEqual_t t u (ot.mono rfl) (ou.mono rfl)
  have c10 := r3Equal_t t u (ot.mono rfl) (ou.mono rfl)
  have d1 := rat_same_t _ (qzW_ok b1.1) rfl
  have d2 := rat_same_t _ (qzW_ok b1.2) rfl
  have d3 := same3_c _ oc rfl
  have d4 := same3_c _ obt rfl
  have d5 := same3_c _ os rfl
  generalize eqT t u = d at *
  generalize cmV t u = tu at *
  generalize bkV t = bt at *
  generalize shV p.x p.y = sh at *
  generalize qzW (acX t p.x.v p.y.v) = x1 at *
  generalize qzW (acY t p.x.v p.y.v) = x2 at *
  refine AWP_skip ?_
  show AWP _ _ _ _ _ _
  refine AWP_reg_seq tok fun K hK => ?_
  refine s_load rfl rfl rfl ?_
  refine s_fieldAddr rfl rfl rfl ?_
  refine s_load rfl rfl rfl ?_
  refine s_fieldAddr rfl rfl rfl ?_
  refine s_load rfl rfl rfl ?_
  refine s_call rfl rfl (c1) rfl rfl rfl rfl ?_
  refine s_move rfl rfl rfl ?_
  refine s_extract rfl rfl rfl ?_
  refine s_extract rfl rfl rfl ?_
  refine s_alloc rfl rfl rfl rfl rfl rfl ?_
  refine s_alloc rfl rfl rfl rfl rfl rfl ?_
  refine s_store rfl rfl rfl rfl rfl ?_
  refine s_store rfl rfl rfl rfl rfl ?_
  refine s_end (hK _ ?_); clear hK K
  refine AWP_reg_seq tok fun K hK => ?_
  refine s_load rfl rfl rfl ?_
  refine s_fieldAddr rfl rfl rfl ?_
  refine s_load rfl rfl rfl ?_
  refine s_fieldAddr rfl rfl rfl ?_
  refine s_load rfl rfl rfl ?_
  refine s_call rfl rfl (c2) rfl rfl rfl rfl ?_
  refine s_move rfl rfl rfl ?_
  refine s_extract rfl rfl rfl ?_
  refine s_extract rfl rfl rfl ?_
  refine s_alloc rfl rfl rfl rfl rfl rfl ?_
  refine s_alloc rfl rfl rfl rfl rfl rfl ?_
  refine s_store rfl rfl rfl rfl rfl ?_
  refine s_store rfl rfl rfl rfl rfl ?_
  refine s_end (hK _ ?_); clear hK K
  refine a_draw tok mixed (A := [[], [], [], [], [], [0, 1], [], [], [3, 4], []]) (an := [{}, {}, {}, { c := [62] }, { c := [62] }, {}, { c := [62, 65] }, { c := [62, 65, 11] }, {}, {}]) rfl (by kernel_rfl) rfl fun K hK => ?_
  refine s_load rfl rfl rfl ?_
  refine s_load rfl rfl rfl ?_
  refine s_call rfl rfl (c3) rfl rfl rfl rfl ?_
  refine s_load rfl rfl rfl ?_
  refine s_load rfl rfl rfl ?_
  refine s_call rfl rfl (c4) rfl rfl rfl rfl ?_
  refine s_alloc rfl rfl rfl rfl rfl rfl ?_
  refine s_alloc rfl rfl rfl rfl rfl rfl ?_
  refine s_store rfl rfl rfl rfl rfl ?_
  refine s_store rfl rfl rfl rfl rfl ?_
  refine s_end (hK _ ?_); clear hK K
  refine a_draw tok mixed (A := [[], [], [], [0], [], [], [2], []]) (an := [{}, {}, { c := [67] }, {}, { c := [67, 69] }, { c := [67, 69, 13] }, {}, {}]) rfl (by kernel_rfl) rfl fun K hK => ?_
  refine s_load rfl rfl rfl ?_
  refine s_call rfl rfl (c5) rfl rfl rfl rfl ?_
  refine s_load rfl rfl rfl ?_
  refine s_call rfl rfl (c6) rfl rfl rfl rfl ?_
  refine s_alloc rfl rfl rfl rfl rfl rfl ?_
  refine s_alloc rfl rfl rfl rfl rfl rfl ?_
  refine s_store rfl rfl rfl rfl rfl ?_
  refine s_store rfl rfl rfl rfl rfl ?_
  refine s_end (hK _ ?_); clear hK K
  refine a_draw tok mixed (A := [[], [], [], [], [0, 2], [], [], [], [], [0, 1, 2, 3, 5, 7], [], [], [5, 6, 7, 8], []]) (an := [{}, {}, {}, {}, {}, { c := [74] }, { c := [74] }, { c := [74] }, { c := [74] }, {}, { c := [74, 79] }, { c := [74, 79, 15] }, {}, {}]) rfl (by kernel_rfl) rfl fun K hK => ?_
  refine s_fieldAddr rfl rfl rfl ?_
  refine s_load rfl rfl rfl ?_
  refine s_fieldAddr rfl rfl rfl ?_
  refine s_load rfl rfl rfl ?_
  refine s_call rfl rfl (c7) rfl rfl rfl rfl ?_
  refine s_fieldAddr rfl rfl rfl ?_
  refine s_load rfl rfl rfl ?_
  refine s_fieldAddr rfl rfl rfl ?_
  refine s_load rfl rfl rfl ?_
  refine s_call rfl rfl (c8) rfl rfl rfl rfl ?_
  refine s_alloc rfl rfl rfl rfl rfl rfl ?_
  refine s_alloc rfl rfl rfl rfl rfl rfl ?_
  refine s_store rfl rfl rfl rfl rfl ?_
  refine s_store rfl rfl rfl rfl rfl ?_
  refine s_end (hK _ ?_); clear hK K
  refine a_draw tok mixed (A := [[], [], [], [0, 1], [0, 1, 2], [0, 1, 2], [0, 1, 2], [0, 1, 2, 4, 5], [0, 1, 2, 3, 4, 5], [0, 1, 2, 3, 4, 5, 6, 7], [0, 1, 2, 3, 4, 5, 6, 7], [0, 1, 2, 3, 4, 5, 6, 7], [0, 1, 2, 3, 4, 5, 6, 7, 9, 10], [0, 1, 2, 3, 4, 5, 6, 7, 8, 9, 10], [0, 1, 2, 3, 4, 5, 6, 7, 8, 9, 10, 11, 12], [0, 1, 2, 3, 4, 5, 6, 7, 8, 9, 10, 11, 12], [0, 1, 2, 3, 4, 5, 6, 7, 8, 9, 10, 11, 12], [0, 1, 2, 3, 4, 5, 6, 7, 8, 9, 10, 11, 12, 14, 15], [0, 1, 2, 3, 4, 5, 6, 7, 8, 9, 10, 11, 12, 13, 14, 15], [0, 1, 2, 3, 4, 5, 6, 7, 8, 9, 10, 11, 12, 13, 14, 15, 16, 17], [0, 1, 2, 3, 4, 5, 6, 7, 8, 9, 10, 11, 12, 13, 14, 15, 16, 17], [0, 1, 2, 3, 4, 5, 6, 7, 8, 9, 10, 11, 12, 13, 14, 15, 16, 17], [0, 1, 2, 3, 4, 5, 6, 7, 8, 9, 10, 11, 12, 13, 14, 15, 16, 17, 19, 20], [0, 1, 2, 3, 4, 5, 6, 7, 8, 9, 10, 11, 12, 13, 14, 15, 16, 17, 18, 19, 20], [0, 1, 2, 3, 4, 5, 6, 7, 8, 9, 10, 11, 12, 13, 14, 15, 16, 17, 18, 19, 20, 21, 22], [0, 1, 2, 3, 4, 5, 6, 7, 8, 9, 10, 11, 12, 13, 14, 15, 16, 17, 18, 19, 20, 21, 22], [0, 1, 2, 3, 4, 5, 6, 7, 8, 9, 10, 11, 12, 13, 14, 15, 16, 17, 18, 19, 20, 21, 22], [0, 1, 2, 3, 4, 5, 6, 7, 8, 9, 10, 11, 12, 13, 14, 15, 16, 17, 18, 19, 20, 21, 22], [0, 1, 2, 3, 4, 5, 6, 7, 8, 9, 10, 11, 12, 13, 14, 15, 16, 17, 18, 19, 20, 21, 22], [0, 1, 2, 3, 4, 5, 6, 7, 8, 9, 10, 11, 12, 13, 14, 15, 16, 17, 18, 19, 20, 21, 22, 24, 25], [0, 1, 2, 3, 4, 5, 6, 7, 8, 9, 10, 11, 12, 13, 14, 15, 16, 17, 18, 19, 20, 21, 22, 24, 25, 27, 28], [0, 1, 2, 3, 4, 5, 6, 7, 8, 9, 10, 11, 12, 13, 14, 15, 16, 17, 18, 19, 20, 21, 22, 24, 25, 26, 27, 28, 29], []]) (an := [{}, {}, {}, {}, {}, {}, {}, {}, {}, {}, {}, {}, {}, {}, {}, {}, {}, {}, {}, {}, {}, {}, {}, {}, {}, {}, {}, { c := [106] }, { c := [106] }, {}, {}, {}, {}]) rfl (by kernel_rfl) rfl fun K hK => ?_
  refine s_load rfl rfl rfl ?_
  refine s_load rfl rfl rfl ?_
  refine s_call rfl rfl (d1) rfl rfl rfl rfl ?_
  refine s_move rfl rfl rfl ?_
  refine s_load rfl rfl rfl ?_
  refine s_load rfl rfl rfl ?_
  refine s_call rfl rfl (d2) rfl rfl rfl rfl ?_
  refine s_pick rfl rfl rfl ?_
  refine s_move rfl rfl rfl ?_
  refine s_load rfl rfl rfl ?_
  refine s_load rfl rfl rfl ?_
  refine s_call rfl rfl (d3) rfl rfl rfl rfl ?_
  refine s_pick rfl rfl rfl ?_
  refine s_move rfl rfl rfl ?_
  refine s_load rfl rfl rfl ?_
  refine s_load rfl rfl rfl ?_
  refine s_call rfl rfl (d4) rfl rfl rfl rfl ?_
  refine s_pick rfl rfl rfl ?_
  refine s_move rfl rfl rfl ?_
  refine s_load rfl rfl rfl ?_
  refine s_load rfl rfl rfl ?_
  refine s_call rfl rfl (d5) rfl rfl rfl rfl ?_
  refine s_pick rfl rfl rfl ?_
  refine s_move rfl rfl rfl ?_
  refine s_load rfl rfl rfl ?_
  refine s_load rfl rfl rfl ?_
  refine s_call rfl rfl (c9) rfl rfl rfl rfl ?_
  refine s_load rfl rfl rfl ?_
  refine s_load rfl rfl rfl ?_
  refine s_call rfl rfl (c10) rfl rfl rfl rfl ?_
  refine s_bin rfl (e_eqBB d) rfl ?_
  refine s_pick rfl rfl rfl ?_
  refine s_assign rfl rfl rfl ?_
  refine s_end (hK _ ?_); clear hK K
  refine AWP_ret ?_
  repeat (with_reducible refine tq_ret ?_)
  exact post_ret (fin_mk (by rfl) (by rfl) (by rfl))
end Go.Proofs.YtipenembpidoiaaGreatDoor
