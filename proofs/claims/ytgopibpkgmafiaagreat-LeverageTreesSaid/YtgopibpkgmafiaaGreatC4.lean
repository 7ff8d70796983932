/- Part of a proof that a Go function answers true for every input. No condition. -/
import Derived.Test.YtgopibpkgmafiaaGreatC3
set_option linter.unusedVariables false
set_option linter.unusedSimpArgs false
set_option linter.unusedSectionVars false
/- Integers in canonical form; rationals as the program computes them. No condition. -/
namespace Go.Proofs.YtgopibpkgmafiaaGreat
attribute [local irreducible] lexA

/-! ### Integers in canonical form -/
theorem iAddZ_c (x y : Int) (hx : zl x ≤ 536870912) (hy : zl y ≤ 536870912) : Con Tryz.prog 108 [AG (ZC x), AG (ZC y)] { v := AG (ZC (x + y)) } := by
  have := iAdd_c (decide (x < 0)) (decide (y < 0)) (wof x.natAbs) (wof y.natAbs) (wof_ok _) (wof_ok _) hx hy
  rw [zv_ZC, zv_ZC] at this; exact this
theorem iMulZ_c (x y : Int) (hx : zl x ≤ 536870912) (hy : zl y ≤ 536870912) : Con Tryz.prog 55 [AG (ZC x), AG (ZC y)] { v := AG (ZC (x * y)) } := by
  have := iMul_c (decide (x < 0)) (decide (y < 0)) (wof x.natAbs) (wof y.natAbs) (wof_ok _) (wof_ok _) hx hy
  rw [zv_ZC, zv_ZC] at this; exact this
theorem iDivMod_q (na nb : Bool) (wa wb : List Nat) (x y q : Int) (ha : wOK wa) (hb : wOK wb) (la : wa.length ≤ 268435456) (lb : wb.length ≤ 268435456) (hx : zv na wa = x) (hy : zv nb wb = y) (h0 : y ≠ 0) (hq : x / y = q) :
    Con Tryz.prog 89 [AG (IC na wa), AG (IC nb wb)] { v := .tup [.agg (ZC q), .agg (ZC (x % y)), .one (.d (lI 0))] } := by
  subst hx hy hq
  exact iDivMod_c na nb wa wb ha hb la lb h0

/-! ### Rationals -/
def QC (na : Bool) (wa : List Nat) (nb : Bool) (wb : List Nat) : List SC := [.d (.lit (.bool na)), .d (dW wa), .d (.lit (.bool nb)), .d (dW wb)]
def qv (na : Bool) (wa : List Nat) (nb : Bool) (wb : List Nat) : Rat := Rat.divInt (zv na wa) (zv nb wb)
def QZ (q : Rat) : List SC := QC (decide (q.num < 0)) (wof q.num.natAbs) (decide ((q.den : Int) < 0)) (wof (q.den : Int).natAbs)
theorem qv_QZ (q : Rat) : qv (decide (q.num < 0)) (wof q.num.natAbs) (decide ((q.den : Int) < 0)) (wof (q.den : Int).natAbs) = q := by
  unfold qv; rw [zv_ZC, zv_ZC, divInt_self]
theorem gcd_pos {x y : Int} (h : y ≠ 0) : Int.gcd x y ≠ 0 := by
  intro h'
  have := Int.gcd_eq_zero_iff.1 h'
  exact h this.2
theorem zl_gcd (x : Int) {y : Int} (h : y ≠ 0) : zl (Int.gcd x y : Int) ≤ zl y := by
  unfold zl
  refine wl_mono ?_;rw [Int.natAbs_natCast];exact Nat.gcd_le_right _ (by omega)

theorem qNew_c (na nb : Bool) (wa wb : List Nat) (ha : wOK wa) (hb : wOK wb) (la : wa.length ≤ 268435456) (lb : wb.length ≤ 268435456) :
    Con Tryz.prog 54 [AG (IC na wa), AG (IC nb wb)] { v := AG (QZ (Rat.divInt (zv na wa) (zv nb wb))) } := by
  have lza : zl (zv na wa) ≤ 268435456 := by unfold zl; rw [zv_abs]; exact Nat.le_trans (wl_len ha) la
  have lzb : zl (zv nb wb) ≤ 268435456 := by unfold zl; rw [zv_abs]; exact Nat.le_trans (wl_len hb) lb
  refine con_intro (fn := Tryz.f54) tok Tryz.func54 (by kernel_rfl) rfl ?_
  intro w0 X
  rw [entry_mkE _ _ [(0, AG (IC na wa)), (1, AG (IC nb wb))] rfl rfl];refine AWP_reg_seq tok fun K hK => ?_;refine s_box rfl rfl rfl rfl rfl rfl ?_;refine s_box rfl rfl rfl rfl rfl rfl ?_;refine s_alloc rfl rfl rfl rfl rfl rfl ?_;refine s_end (hK _ ?_); clear hK K;refine AWP_seq ?_;refine AWP_reg_seq tok fun K hK => ?_;refine ldQ ?_;refine s_call rfl rfl (iSign_c nb wb hb (by omega)) rfl rfl rfl rfl ?_;refine biQ ?_;refine s_end (hK _ ?_); clear hK K;refine a_cond rfl (fun hc => ?_) (fun hc => ?_)
  · have h0 : zv nb wb = 0 := Int.sign_eq_zero_iff_zero.1 (by simpa using hc)
    refine AWP_reg_seq tok fun K hK => ?_;refine s_call rfl rfl (iOf_c 0 (by unfold I64; omega)) rfl rfl rfl rfl ?_;refine s_call rfl rfl (iOf_c 1 (by unfold I64; omega)) rfl rfl rfl rfl ?_;refine s_build rfl rfl rfl ?_;refine s_store rfl rfl rfl rfl rfl ?_;refine s_end (hK _ ?_); clear hK K;refine AWP_ret ?_
    repeat (with_reducible refine tq_ret ?_)
    exact post_ret (fin_mk (by rfl) (by rfl) (by rw [h0, Rat.divInt_zero]; rfl))
  have h0 : zv nb wb ≠ 0 := by intro h; rw [h] at hc; simp at hc
  refine AWP_skip ?_;show AWP _ _ _ _ _ _;generalize hx : zv na wa = x at *;generalize hy : zv nb wb = y at *;refine a_keep [(2, .ptr 2 0), (3, .ptr 3 0), (4, .ptr 4 0)] [(2, some (.box (IC na wa))), (3, some (.box (IC nb wb))), (4, some (.box [.d (.lit (.bool false)), .nil, .d (.lit (.bool false)), .nil]))] ⟨rfl, rfl, rfl, trivial⟩ ⟨rfl, rfl, rfl, trivial⟩ ?_;refine a_join (α := (Bool × List Nat) × (Bool × List Nat)) (fun p => mk 45 [(2, .ptr 2 0), (3, .ptr 3 0), (4, .ptr 4 0)] [(2, some (.box (IC p.1.1 p.1.2))), (3, some (.box (IC p.2.1 p.2.2))), (4, some (.box [.d (.lit (.bool false)), .nil, .d (.lit (.bool false)), .nil]))] []) (fun p => wOK p.1.2 ∧ wOK p.2.2 ∧ p.1.2.length ≤ 268435456 ∧ p.2.2.length ≤ 268435456 ∧ zv p.1.1 p.1.2 = y.sign * x ∧ zv p.2.1 p.2.2 = (y.natAbs : Int)) ?_ ?_
  · refine AWP_reg_seq tok fun K hK => ?_;refine ldQ ?_;refine s_call rfl rfl (hy ▸ iSign_c nb wb hb (by omega)) rfl rfl rfl rfl ?_;refine biQ ?_;refine s_end (hK _ ?_); clear hK K;refine a_cond rfl (fun hd => ?_) (fun hd => ?_)
    · have hd : y < 0 := by
        have h1 : y.sign < 0 := of_decide_eq_true hd
        rcases Int.lt_trichotomy y 0 with h | h | h
        · exact h
        · exact absurd h h0
        · rw [Int.sign_eq_one_of_pos h] at h1; omega
      refine a_draw1 tok mixed (A := [[], [], [], [0], [2], []]) (an := [{}, {}, { c := [22] }, {}, {}, {}]) rfl (by kernel_rfl) rfl fun K hK => ?_;refine ldQ ?_;refine s_call rfl rfl (hx ▸ iNeg_c na wa ha (by omega)) rfl rfl rfl rfl ?_;refine ldQ ?_;refine s_call rfl rfl (hy ▸ iNeg_c nb wb hb (by omega)) rfl rfl rfl rfl ?_;refine s_store rfl rfl rfl rfl rfl ?_;refine s_store rfl rfl rfl rfl rfl ?_;refine s_end (hK _ ?_); clear hK K;refine ⟨((decide (-x < 0), wof (-x).natAbs), (decide (-y < 0), wof (-y).natAbs)), ⟨wof_ok _, wof_ok _, ?_, ?_, ?_, ?_⟩, Wk.mk' ⟨rfl, rfl, rfl, trivial⟩ ⟨rfl, rfl, rfl, trivial⟩⟩
      · show zl (-x) ≤ _; rw [zl_neg]; exact lza
      · show zl (-y) ≤ _; rw [zl_neg]; exact lzb
      · simp only; rw [zv_ZC, Int.sign_eq_neg_one_of_neg hd]; omega
      · simp only; rw [zv_ZC]; omega
    · have hd : 0 < y := by
        have h1 : ¬ y.sign < 0 := of_decide_eq_false hd
        rcases Int.lt_trichotomy y 0 with h | h | h
        · rw [Int.sign_eq_neg_one_of_neg h] at h1; omega
        · exact absurd h h0
        · exact h
      refine AWP_skip ?_;refine ⟨((na, wa), (nb, wb)), ⟨ha, hb, la, lb, ?_, ?_⟩, Wk.mk' ⟨rfl, rfl, rfl, trivial⟩ ⟨rfl, rfl, rfl, trivial⟩⟩
      · simp only; rw [hx, Int.sign_eq_one_of_pos hd]; omega
      · simp only; rw [hy]; omega
  rintro ⟨⟨na', wa'⟩, ⟨nb', wb'⟩⟩ ⟨oa, ob, ka, kb, va, vb⟩
  simp only at oa ob ka kb va vb
  show AWP _ _ _ _ _ (mk 45 [(2, .ptr 2 0), (3, .ptr 3 0), (4, .ptr 4 0)] [(2, some (.box (IC na' wa'))), (3, some (.box (IC nb' wb'))), (4, some (.box [.d (.lit (.bool false)), .nil, .d (.lit (.bool false)), .nil]))] [])
  have hg : (Int.gcd (zv na' wa') (zv nb' wb') : Int) = (Int.gcd x y : Int) := by
    rw [va, vb]
    show ((Nat.gcd (y.sign * x).natAbs (y.natAbs : Int).natAbs : Nat) : Int) = _
    rw [Int.natAbs_mul, Int.natAbs_natCast]
    have : y.sign.natAbs = 1 := by
      rcases Int.lt_trichotomy y 0 with h | h | h
      · rw [Int.sign_eq_neg_one_of_neg h]; rfl
      · exact absurd h h0
      · rw [Int.sign_eq_one_of_pos h]; rfl
    rw [this, Nat.one_mul]; rfl
  have hgn : (Int.gcd x y : Int) ≠ 0 := by have := gcd_pos (x := x) h0; omega
  have hgl : (wof (Int.gcd x y : Int).natAbs).length ≤ 268435456 := Nat.le_trans (zl_gcd x h0) lzb
  refine AWP_reg_seq tok fun K hK => ?_;refine ldQ ?_;refine ldQ ?_;refine s_call rfl rfl (hg ▸ iGcd_c na' nb' wa' wb' oa ob ka kb) rfl rfl rfl rfl ?_;refine s_alloc rfl rfl rfl rfl rfl rfl ?_;refine s_store rfl rfl rfl rfl rfl ?_;refine s_end (hK _ ?_); clear hK K;refine AWP_reg_seq tok fun K hK => ?_;refine ldQ ?_;refine ldQ ?_;refine s_call rfl rfl (iDivMod_q na' (decide ((Int.gcd x y : Int) < 0)) wa' (wof (Int.gcd x y : Int).natAbs) (y.sign * x) (Int.gcd x y : Int) (Rat.divInt x y).num oa (wof_ok _) ka hgl va (zv_ZC _) hgn (num_gcd x y).symm) rfl rfl rfl rfl ?_;refine mvQ ?_;refine s_extract rfl rfl rfl ?_;refine s_extract rfl rfl rfl ?_;refine s_extract rfl rfl rfl ?_;refine s_alloc rfl rfl rfl rfl rfl rfl ?_;refine s_alloc rfl rfl rfl rfl rfl rfl ?_;refine s_store rfl rfl rfl rfl rfl ?_;refine s_store rfl rfl rfl rfl rfl ?_;refine asQ ?_;refine s_end (hK _ ?_); clear hK K;refine AWP_reg_seq tok fun K hK => ?_;refine ldQ ?_;refine ldQ ?_;refine s_call rfl rfl (iDivMod_q nb' (decide ((Int.gcd x y : Int) < 0)) wb' (wof (Int.gcd x y : Int).natAbs) (y.natAbs : Int) (Int.gcd x y : Int) ((Rat.divInt x y).den : Int) ob (wof_ok _) kb hgl vb (zv_ZC _) hgn (den_gcd h0).symm) rfl rfl rfl rfl ?_;refine mvQ ?_;refine s_extract rfl rfl rfl ?_;refine s_extract rfl rfl rfl ?_;refine s_extract rfl rfl rfl ?_;refine s_alloc rfl rfl rfl rfl rfl rfl ?_;refine s_alloc rfl rfl rfl rfl rfl rfl ?_;refine s_store rfl rfl rfl rfl rfl ?_;refine s_store rfl rfl rfl rfl rfl ?_;refine asQ ?_;refine s_end (hK _ ?_); clear hK K;refine AWP_reg_seq tok fun K hK => ?_;refine ldQ ?_;refine ldQ ?_;refine s_build rfl rfl rfl ?_;refine s_store rfl rfl rfl rfl rfl ?_;refine s_end (hK _ ?_); clear hK K;refine AWP_ret ?_
  repeat (with_reducible refine tq_ret ?_)
  exact post_ret (fin_mk (by rfl) (by rfl) (by rfl))

theorem qOf_c (n d : Int) (hn : I64 n) (hd : I64 d) : Con Tryz.prog 29 [dI n, dI d] { v := AG (QZ (Rat.divInt n d)) } := by
  have h1 := zl_i64 hn
  have h2 := zl_i64 hd
  have hz : Rat.divInt (zv (decide (n < 0)) (wof n.natAbs)) (zv (decide (d < 0)) (wof d.natAbs)) = Rat.divInt n d := by rw [zv_ZC, zv_ZC]
  refine con_intro (fn := Tryz.f29) tok Tryz.func29 (by kernel_rfl) rfl ?_
  intro w0 X
  rw [entry_mkE _ _ [(0, dI n), (1, dI d)] rfl rfl];refine AWP_reg_seq tok fun K hK => ?_;refine s_alloc rfl rfl rfl rfl rfl rfl ?_;refine s_end (hK _ ?_); clear hK K;refine AWP_reg_seq tok fun K hK => ?_;refine mvQ ?_;refine s_call rfl rfl (iOf_c n hn) rfl rfl rfl rfl ?_;refine mvQ ?_;refine s_call rfl rfl (iOf_c d hd) rfl rfl rfl rfl ?_;refine s_call rfl rfl (hz ▸ qNew_c (decide (n < 0)) (decide (d < 0)) (wof n.natAbs) (wof d.natAbs) (wof_ok _) (wof_ok _) (Nat.le_trans h1 (by decide)) (Nat.le_trans h2 (by decide))) rfl rfl rfl rfl ?_;refine s_store rfl rfl rfl rfl rfl ?_;refine s_end (hK _ ?_); clear hK K;refine AWP_ret ?_
  repeat (with_reducible refine tq_ret ?_)
  exact post_ret (fin_mk (by rfl) (by rfl) (by rfl))

theorem qNewZ_c (x y : Int) (q : Rat) (hx : zl x ≤ 268435456) (hy : zl y ≤ 268435456) (h : Rat.divInt x y = q) : Con Tryz.prog 54 [AG (ZC x), AG (ZC y)] { v := AG (QZ q) } := by
  have := qNew_c (decide (x < 0)) (decide (y < 0)) (wof x.natAbs) (wof y.natAbs) (wof_ok _) (wof_ok _) hx hy
  rw [zv_ZC, zv_ZC, h] at this; exact this

theorem qNorm_c (na nb : Bool) (wa wb : List Nat) (ha : wOK wa) (hb : wOK wb) (la : wa.length ≤ 268435456) (lb : wb.length ≤ 268435456) :
    Con Tryz.prog 57 [AG (QC na wa nb wb)] { v := AG (QZ (qv na wa nb wb)) } := by
  refine con_intro (fn := Tryz.f57) tok Tryz.func57 (by kernel_rfl) rfl ?_
  intro w0 X
  rw [entry_mkE _ _ [(0, AG (QC na wa nb wb))] rfl rfl];refine AWP_reg_seq tok fun K hK => ?_;refine s_box rfl rfl rfl rfl rfl rfl ?_;refine s_alloc rfl rfl rfl rfl rfl rfl ?_;refine s_end (hK _ ?_); clear hK K;refine AWP_reg_seq tok fun K hK => ?_;refine faQ ?_;refine ldQ ?_;refine faQ ?_;refine ldQ ?_;refine s_call rfl rfl (qNew_c na nb wa wb ha hb la lb) rfl rfl rfl rfl ?_;refine s_store rfl rfl rfl rfl rfl ?_;refine s_end (hK _ ?_); clear hK K;refine AWP_ret ?_
  repeat (with_reducible refine tq_ret ?_)
  exact post_ret (fin_mk (by rfl) (by rfl) (by rfl))

theorem qNeg_c (na nb : Bool) (wa wb : List Nat) (ha : wOK wa) (hb : wOK wb) (la : wa.length ≤ 268435456) (lb : wb.length ≤ 268435456) :
    Con Tryz.prog 72 [AG (QC na wa nb wb)] { v := AG (QZ (-(qv na wa nb wb))) } := by
  have hz : Rat.divInt (zv (decide (-(zv na wa) < 0)) (wof (-(zv na wa)).natAbs)) (zv nb wb) = -(qv na wa nb wb) := by rw [zv_ZC]; unfold qv; rw [Rat.neg_divInt]
  have hl : (wof (-(zv na wa)).natAbs).length ≤ 268435456 := by rw [Int.natAbs_neg, zv_abs]; exact Nat.le_trans (wl_len ha) la
  refine con_intro (fn := Tryz.f72) tok Tryz.func72 (by kernel_rfl) rfl ?_
  intro w0 X
  rw [entry_mkE _ _ [(0, AG (QC na wa nb wb))] rfl rfl];refine AWP_reg_seq tok fun K hK => ?_;refine s_box rfl rfl rfl rfl rfl rfl ?_;refine s_alloc rfl rfl rfl rfl rfl rfl ?_;refine s_end (hK _ ?_); clear hK K;refine a_draw tok mixed (A := [[], [], [0], [], [], [0, 1, 3], []]) (an := [{}, {}, {}, { c := [5] }, { c := [5] }, {}, {}]) rfl (by kernel_rfl) rfl fun K hK => ?_;refine faQ ?_;refine ldQ ?_;refine s_call rfl rfl (iNeg_c na wa ha (by omega)) rfl rfl rfl rfl ?_;refine faQ ?_;refine ldQ ?_;refine s_call rfl rfl (hz ▸ qNew_c (decide (-(zv na wa) < 0)) nb (wof (-(zv na wa)).natAbs) wb (wof_ok _) hb hl lb) rfl rfl rfl rfl ?_;refine s_store rfl rfl rfl rfl rfl ?_;refine s_end (hK _ ?_); clear hK K;refine AWP_ret ?_
  repeat (with_reducible refine tq_ret ?_)
  exact post_ret (fin_mk (by rfl) (by rfl) (by rfl))

theorem qAdd_c (na nb nc nd : Bool) (wa wb wc wd : List Nat) (ha : wOK wa) (hb : wOK wb) (hc : wOK wc) (hd : wOK wd) (la : wa.length ≤ 16777216) (lb : wb.length ≤ 16777216) (lc : wc.length ≤ 16777216) (ld : wd.length ≤ 16777216) :
    Con Tryz.prog 109 [AG (QC na wa nb wb), AG (QC nc wc nd wd)] { v := AG (QZ (qv na wa nb wb + qv nc wc nd wd)) } := by
  have hx : ql (qv na wa nb wb) ≤ 16777217 := by
    refine Nat.le_trans (ql_divInt _ _) ?_
    have h1 := wl_len ha
    have h2 := wl_len hb
    unfold zl wl; rw [zv_abs, zv_abs]; omega
  have hy : ql (qv nc wc nd wd) ≤ 16777217 := by
    refine Nat.le_trans (ql_divInt _ _) ?_
    have h1 := wl_len hc
    have h2 := wl_len hd
    unfold zl wl; rw [zv_abs, zv_abs]; omega
  refine con_intro (fn := Tryz.f109) tok Tryz.func109 (by kernel_rfl) rfl ?_
  intro w0 X
  rw [entry_mkE _ _ [(0, AG (QC na wa nb wb)), (1, AG (QC nc wc nd wd))] rfl rfl];refine AWP_reg_seq tok fun K hK => ?_;refine s_box rfl rfl rfl rfl rfl rfl ?_;refine s_box rfl rfl rfl rfl rfl rfl ?_;refine s_alloc rfl rfl rfl rfl rfl rfl ?_;refine s_end (hK _ ?_); clear hK K;refine a_draw tok mixed (A := [[], [], [], [0], [2], []]) (an := [{}, {}, { c := [6] }, {}, {}, {}]) rfl (by kernel_rfl) rfl fun K hK => ?_;refine ldQ ?_;refine s_call rfl rfl (qNorm_c na nb wa wb ha hb (by omega) (by omega)) rfl rfl rfl rfl ?_;refine ldQ ?_;refine s_call rfl rfl (qNorm_c nc nd wc wd hc hd (by omega) (by omega)) rfl rfl rfl rfl ?_;refine s_store rfl rfl rfl rfl rfl ?_;refine s_store rfl rfl rfl rfl rfl ?_;refine s_end (hK _ ?_); clear hK K;generalize qv na wa nb wb = x at *;generalize qv nc wc nd wd = y at *
  have a1 := ql_num x
  have a2 := ql_den x
  have b1 := ql_num y
  have b2 := ql_den y
  have m1 := zl_mul x.num y.den
  have m2 := zl_mul y.num x.den
  have m3 := zl_mul x.den y.den
  have m4 := zl_add (x.num * y.den) (y.num * x.den)
  refine a_keep [(2, .ptr 2 0), (3, .ptr 3 0), (4, .ptr 4 0)] [(2, some (.box (QZ x))), (3, some (.box (QZ y))), (4, some (.box [.d (.lit (.bool false)), .nil, .d (.lit (.bool false)), .nil]))] ⟨rfl, rfl, rfl, trivial⟩ ⟨rfl, rfl, rfl, trivial⟩ ?_;refine a_draw tok mixed (A := [[], [], [], [], [0, 2], [], [], [], [], [0, 1, 2, 3, 5, 7], [0, 1, 2, 3, 5, 6, 7, 8], [], [], [], [], [0, 1, 2, 3, 4, 5, 6, 7, 8, 9, 11, 13], [0, 1, 2, 3, 4, 5, 6, 7, 8, 9, 11, 12, 13, 14], []]) (an := [{}, {}, {}, {}, {}, { c := [13] }, { c := [13] }, { c := [13] }, { c := [13] }, {}, {}, { c := [13, 18, 19] }, { c := [13, 18, 19] }, { c := [13, 18, 19] }, { c := [13, 18, 19] }, {}, {}, {}]) rfl (by kernel_rfl) rfl fun K hK => ?_;refine faQ ?_;refine ldQ ?_;refine faQ ?_;refine ldQ ?_;refine s_call rfl rfl (iMulZ_c x.num y.den (by omega) (by omega)) rfl rfl rfl rfl ?_;refine faQ ?_;refine ldQ ?_;refine faQ ?_;refine ldQ ?_;refine s_call rfl rfl (iMulZ_c y.num x.den (by omega) (by omega)) rfl rfl rfl rfl ?_;refine s_call rfl rfl (iAddZ_c (x.num * y.den) (y.num * x.den) (by omega) (by omega)) rfl rfl rfl rfl ?_;refine faQ ?_;refine ldQ ?_;refine faQ ?_;refine ldQ ?_;refine s_call rfl rfl (iMulZ_c x.den y.den (by omega) (by omega)) rfl rfl rfl rfl ?_;refine s_call rfl rfl (qNewZ_c (x.num * y.den + y.num * x.den) ((x.den : Int) * y.den) (x + y) (by omega) (by omega) (divInt_add x y).symm) rfl rfl rfl rfl ?_;refine s_store rfl rfl rfl rfl rfl ?_;refine s_end (hK _ ?_); clear hK K;refine AWP_ret ?_
  repeat (with_reducible refine tq_ret ?_)
  exact post_ret (fin_mk (by rfl) (by rfl) (by rfl))

theorem qSub_c (na nb nc nd : Bool) (wa wb wc wd : List Nat) (ha : wOK wa) (hb : wOK wb) (hc : wOK wc) (hd : wOK wd) (la : wa.length ≤ 16777216) (lb : wb.length ≤ 16777216) (lc : wc.length ≤ 16777215) (ld : wd.length ≤ 16777215) :
    Con Tryz.prog 97 [AG (QC na wa nb wb), AG (QC nc wc nd wd)] { v := AG (QZ (qv na wa nb wb - qv nc wc nd wd)) } := by
  have hy : ql (-(qv nc wc nd wd)) ≤ 16777216 := by
    rw [ql_neg];refine Nat.le_trans (ql_divInt _ _) ?_
    have h1 := wl_len hc
    have h2 := wl_len hd
    unfold zl wl; rw [zv_abs, zv_abs]; omega
  have h1 := ql_num (-(qv nc wc nd wd))
  have h2 := ql_den (-(qv nc wc nd wd))
  have hz : qv na wa nb wb + qv (decide ((-(qv nc wc nd wd)).num < 0)) (wof (-(qv nc wc nd wd)).num.natAbs) (decide (((-(qv nc wc nd wd)).den : Int) < 0)) (wof ((-(qv nc wc nd wd)).den : Int).natAbs) = qv na wa nb wb - qv nc wc nd wd := by
    rw [qv_QZ, Rat.sub_eq_add_neg]
  refine con_intro (fn := Tryz.f97) tok Tryz.func97 (by kernel_rfl) rfl ?_
  intro w0 X
  rw [entry_mkE _ _ [(0, AG (QC na wa nb wb)), (1, AG (QC nc wc nd wd))] rfl rfl];refine AWP_reg_seq tok fun K hK => ?_;refine s_box rfl rfl rfl rfl rfl rfl ?_;refine s_box rfl rfl rfl rfl rfl rfl ?_;refine s_alloc rfl rfl rfl rfl rfl rfl ?_;refine s_end (hK _ ?_); clear hK K;refine a_draw tok mixed (A := [[], [], [], [1], []]) (an := [{}, {}, {}, {}, {}]) rfl (by kernel_rfl) rfl fun K hK => ?_;refine ldQ ?_;refine ldQ ?_;refine s_call rfl rfl (qNeg_c nc nd wc wd hc hd (by omega) (by omega)) rfl rfl rfl rfl ?_;refine s_call rfl rfl (hz ▸ qAdd_c na nb _ _ wa wb _ _ ha hb (wof_ok _) (wof_ok _) la lb (Nat.le_trans h1 hy) (Nat.le_trans h2 hy)) rfl rfl rfl rfl ?_;refine s_store rfl rfl rfl rfl rfl ?_;refine s_end (hK _ ?_); clear hK K;refine AWP_ret ?_
  repeat (with_reducible refine tq_ret ?_)
  exact post_ret (fin_mk (by rfl) (by rfl) (by rfl))

theorem qMul_c (na nb nc nd : Bool) (wa wb wc wd : List Nat) (ha : wOK wa) (hb : wOK wb) (hc : wOK wc) (hd : wOK wd) (la : wa.length ≤ 16777216) (lb : wb.length ≤ 16777216) (lc : wc.length ≤ 16777216) (ld : wd.length ≤ 16777216) :
    Con Tryz.prog 28 [AG (QC na wa nb wb), AG (QC nc wc nd wd)] { v := AG (QZ (qv na wa nb wb * qv nc wc nd wd)) } := by
  have z1 : zl (zv na wa) ≤ 16777216 := by unfold zl; rw [zv_abs]; exact Nat.le_trans (wl_len ha) la
  have z2 : zl (zv nb wb) ≤ 16777216 := by unfold zl; rw [zv_abs]; exact Nat.le_trans (wl_len hb) lb
  have z3 : zl (zv nc wc) ≤ 16777216 := by unfold zl; rw [zv_abs]; exact Nat.le_trans (wl_len hc) lc
  have z4 : zl (zv nd wd) ≤ 16777216 := by unfold zl; rw [zv_abs]; exact Nat.le_trans (wl_len hd) ld
  have m1 := zl_mul (zv na wa) (zv nc wc)
  have m2 := zl_mul (zv nb wb) (zv nd wd)
  have hz : Rat.divInt (zv na wa * zv nc wc) (zv nb wb * zv nd wd) = qv na wa nb wb * qv nc wc nd wd := by unfold qv; rw [Rat.divInt_mul_divInt]
  refine con_intro (fn := Tryz.f28) tok Tryz.func28 (by kernel_rfl) rfl ?_
  intro w0 X
  rw [entry_mkE _ _ [(0, AG (QC na wa nb wb)), (1, AG (QC nc wc nd wd))] rfl rfl];refine AWP_reg_seq tok fun K hK => ?_;refine s_box rfl rfl rfl rfl rfl rfl ?_;refine s_box rfl rfl rfl rfl rfl rfl ?_;refine s_alloc rfl rfl rfl rfl rfl rfl ?_;refine s_end (hK _ ?_); clear hK K;refine a_draw tok mixed (A := [[], [], [], [], [0, 2], [], [], [], [], [0, 1, 2, 3, 5, 7], [0, 1, 2, 3, 5, 6, 7, 8], []]) (an := [{}, {}, {}, {}, {}, { c := [9] }, { c := [9] }, { c := [9] }, { c := [9] }, {}, {}, {}]) rfl (by kernel_rfl) rfl fun K hK => ?_;refine faQ ?_;refine ldQ ?_;refine faQ ?_;refine ldQ ?_;refine s_call rfl rfl (iMul_c na nc wa wc ha hc (by omega) (by omega)) rfl rfl rfl rfl ?_;refine faQ ?_;refine ldQ ?_;refine faQ ?_;refine ldQ ?_;refine s_call rfl rfl (iMul_c nb nd wb wd hb hd (by omega) (by omega)) rfl rfl rfl rfl ?_;refine s_call rfl rfl (qNewZ_c (zv na wa * zv nc wc) (zv nb wb * zv nd wd) _ (by omega) (by omega) hz) rfl rfl rfl rfl ?_;refine s_store rfl rfl rfl rfl rfl ?_;refine s_end (hK _ ?_); clear hK K;refine AWP_ret ?_
  repeat (with_reducible refine tq_ret ?_)
  exact post_ret (fin_mk (by rfl) (by rfl) (by rfl))

theorem ql_qv {na nb : Bool} {wa wb : List Nat} {k : Nat} (ha : wOK wa) (hb : wOK wb) (la : wa.length ≤ k) (lb : wb.length ≤ k) (hk : 1 ≤ k) : ql (qv na wa nb wb) ≤ k := by
  refine Nat.le_trans (ql_divInt _ _) ?_
  have h1 := wl_len ha
  have h2 := wl_len hb
  unfold zl wl; rw [zv_abs, zv_abs]; omega
theorem qMul_q (x y : Rat) (na nb nc nd : Bool) (wa wb wc wd : List Nat) (ha : wOK wa) (hb : wOK wb) (hc : wOK wc) (hd : wOK wd) (la : wa.length ≤ 16777216) (lb : wb.length ≤ 16777216) (lc : wc.length ≤ 16777216) (ld : wd.length ≤ 16777216)
    (hx : qv na wa nb wb = x) (hy : qv nc wc nd wd = y) :
    Con Tryz.prog 28 [AG (QC na wa nb wb), AG (QC nc wc nd wd)] { v := AG (QZ (x * y)) } := by
  subst hx hy
  exact qMul_c na nb nc nd wa wb wc wd ha hb hc hd la lb lc ld
theorem qSub_q (x y : Rat) (na nb nc nd : Bool) (wa wb wc wd : List Nat) (ha : wOK wa) (hb : wOK wb) (hc : wOK wc) (hd : wOK wd) (la : wa.length ≤ 16777215) (lb : wb.length ≤ 16777215) (lc : wc.length ≤ 16777215) (ld : wd.length ≤ 16777215)
    (hx : qv na wa nb wb = x) (hy : qv nc wc nd wd = y) :
    Con Tryz.prog 97 [AG (QC na wa nb wb), AG (QC nc wc nd wd)] { v := AG (QZ (x - y)) } := by
  subst hx hy
  exact qSub_c na nb nc nd wa wb wc wd ha hb hc hd (by omega) (by omega) lc ld
end Go.Proofs.YtgopibpkgmafiaaGreat

/- The reference's integers: words trimmed, compared, added, subtracted. No condition. -/
namespace Go.Proofs.YtgopibpkgmafiaaGreat
attribute [local irreducible] lexA

theorem r1trim_c (ws : List Nat) (hw : wOK ws) (hl : ws.length ≤ 1073741824) : Con Tryz.prog 101 [V1 (dW ws)] { v := V1 (dW (wof (wv ws))) } := by
  rw [← trimW_eq hw];refine con_intro (fn := Tryz.f101) tok Tryz.func101 (by kernel_rfl) rfl ?_
  intro w0 X
  rw [entry_mkE _ _ [(0, V1 (dW ws))] rfl rfl];refine AWP_reg_seq tok fun K hK => ?_;refine asQ ?_;refine s_end (hK _ ?_); clear hK K;refine AWP_seq ?_;refine AWP_block (a_loop (α := List Nat) (fun us => mk 23 [(0, V1 (dW us))] [] []) (fun us => us.length ≤ ws.length ∧ trimW us = trimW ws) List.length ws ?_ ⟨Nat.le_refl _, rfl⟩ ?_)
  · exact Wk.mk' ⟨rfl, trivial⟩ trivial
  rintro us ⟨hle, hus⟩
  refine AWP_seq ?_;refine a_join (α := Bool) (fun c => mk 23 [(0, V1 (dW us)), (14, dB c)] [] []) (fun c => (c = true → ∃ vs, us = vs ++ [0]) ∧ (c = false → trimW us = us)) ?_ ?_
  · refine AWP_reg tok fun K hK => ?_;refine mvQ ?_;refine s_blt rfl (len_w rfl rfl rfl) rfl ?_;refine biQ ?_;refine mvQ ?_;refine s_split (fun hb => ?_) (fun hb => ?_)
    · rcases List.eq_nil_or_concat us with rfl | ⟨vs, x, rfl⟩
      · simp at hb
      rw [List.concat_eq_append] at *;simp only [List.length_append, List.length_singleton] at *;refine mvQ ?_;refine mvQ ?_;refine s_blt rfl (len_w rfl rfl (List.length_append)) rfl ?_;refine s_bin rfl (e_sub (c := (vs.length : Int)) (by simp) (by omega)) rfl ?_;refine s_indexAddr rfl (x_w (i := vs.length) rfl rfl rfl rfl rfl (by simp)) rfl ?_;refine ldQ ?_;refine biQ ?_;refine piQ ?_;refine s_end (hK _ ?_); clear hK K;refine ⟨_, ⟨fun h => ?_, fun h => ?_⟩, Wk.mk' ⟨rfl, rfl, trivial⟩ trivial⟩
      · have hx : x = 0 := by simpa using h
        exact ⟨vs, by rw [hx]⟩
      · have hx : x ≠ 0 := by simpa using h
        exact trimW_snoc _ hx
    · have hu : us = [] := by simpa using hb
      subst hu
      refine s_skip rfl ?_;refine s_skip rfl ?_;refine s_skip rfl ?_;refine s_skip rfl ?_;refine s_skip rfl ?_;refine s_skip rfl ?_;refine s_skip rfl ?_;refine piQ ?_;refine s_end (hK _ ?_); clear hK K;exact ⟨false, ⟨fun h => (by cases h), fun _ => rfl⟩, Wk.mk' ⟨rfl, rfl, trivial⟩ trivial⟩
  rintro c ⟨h1, h2⟩
  refine a_cond rfl (fun hc => ?_) (fun hc => ?_)
  · obtain ⟨vs, rfl⟩ := h1 hc
    simp only [List.length_append, List.length_singleton] at *;refine AWP_skip ?_;show AWP _ _ _ _ _ _;refine AWP_block ?_;refine AWP_reg tok fun K hK => ?_;refine mvQ ?_;refine mvQ ?_;refine s_blt rfl (len_w rfl rfl (List.length_append)) rfl ?_;refine s_bin rfl (e_sub (c := (vs.length : Int)) (by simp) (by omega)) rfl ?_;refine s_slice rfl rfl rfl (sl_w (lo := 0) (hi := vs.length) rfl rfl rfl rfl rfl rfl (by omega) (by simp)) rfl ?_;refine asQ ?_;refine s_end (hK _ ?_); clear hK K;exact ⟨vs, by simp, ⟨by omega, by rw [← hus, trimW_snoc0]⟩, Wk.mk' ⟨by show V1 _ = _; simp, trivial⟩ trivial⟩
  · have h2 := h2 hc
    refine AWP_exit ?_;show AWP _ _ _ _ _ _;refine AWP_reg_seq tok fun K hK => ?_;refine s_buildSlice rfl rfl rfl rfl ?_;refine mvQ ?_;refine s_append rfl (ap_o (es := []) rfl rfl rfl rfl rfl rfl (by decide) (Nat.le_of_ble_eq_true rfl) rfl cW_len rfl rfl rfl (by simp; omega)) rfl rfl rfl ?_;refine asQ ?_;refine s_end (hK _ ?_); clear hK K;refine a_fz [2] [22] 22 [(2, V1 (dW us))] [] rfl ?_ trivial ?_
    · exact ⟨frz_w (by simp) (by simp), trivial⟩
    refine AWP_ret ?_
    repeat (with_reducible refine tq_ret ?_)
    exact post_ret (fin_mk (by rfl) (by rfl) (by rw [← hus, h2]; rfl))

theorem r1Norm_c (n : Bool) (w : List Nat) (hw : wOK w) (hl : w.length ≤ 1073741824) : Con Tryz.prog 82 [AG (IC n w)] { v := AG (ZC (zv n w)) } := by
  have hz : ZC (zv n w) = IC (n && decide (wv w ≠ 0)) (wof (wv w)) := by rw [made_eq hw, trimW_eq hw]
  have h0 : decide (((wof (wv w)).length : Int) > 0) = decide (wv w ≠ 0) := by
    have := wof_nil (n := wv w)
    by_cases h : wv w = 0
    · rw [h]; rfl
    · have h1 : wof (wv w) ≠ [] := fun h' => h (this.1 h')
      have h2 := List.length_pos_iff.2 h1
      simp [h]; omega
  refine con_intro (fn := Tryz.f82) tok Tryz.func82 (by kernel_rfl) rfl ?_
  intro w0 X
  rw [entry_mkE _ _ [(0, AG (IC n w))] rfl rfl];refine AWP_reg_seq tok fun K hK => ?_;refine s_box rfl rfl rfl rfl rfl rfl ?_;refine s_alloc rfl rfl rfl rfl rfl rfl ?_;refine s_end (hK _ ?_); clear hK K;refine AWP_reg_seq tok fun K hK => ?_;refine faQ ?_;refine ldQ ?_;refine s_call rfl rfl (r1trim_c w hw hl) rfl rfl rfl rfl ?_;refine asQ ?_;refine s_end (hK _ ?_); clear hK K;refine AWP_reg_seq tok fun K hK => ?_;refine faQ ?_;refine ldQ ?_;refine mvQ ?_;refine s_split (fun hn => ?_) (fun hn => ?_)
  · have hn : n = true := hn
    subst hn
    refine mvQ ?_;refine s_blt rfl (len_w rfl rfl rfl) rfl ?_;refine biQ ?_;refine piQ ?_;refine mvQ ?_;refine s_build rfl rfl rfl ?_;refine s_store rfl rfl rfl rfl rfl ?_;refine s_end (hK _ ?_); clear hK K;refine AWP_ret ?_
    repeat (with_reducible refine tq_ret ?_)
    exact post_ret (fin_mk (by rfl) (by rfl) (by rw [hz, Bool.true_and, ← h0]; rfl))
  · have hn : n = false := hn
    subst hn
    refine s_skip rfl ?_;refine s_skip rfl ?_;refine s_skip rfl ?_;refine piQ ?_;refine mvQ ?_;refine s_build rfl rfl rfl ?_;refine s_store rfl rfl rfl rfl rfl ?_;refine s_end (hK _ ?_); clear hK K;refine AWP_ret ?_
    repeat (with_reducible refine tq_ret ?_)
    exact post_ret (fin_mk (by rfl) (by rfl) (by rw [hz, Bool.false_and]; rfl))

theorem r1Of_c (n : Int) (hn : I64 n) : Con Tryz.prog 48 [dI n] { v := AG (ZC n) } := by
  unfold I64 at hn
  refine con_intro (fn := Tryz.f48) tok Tryz.func48 (by kernel_rfl) rfl ?_
  intro w0 X
  rw [entry_mkE _ _ [(0, dI n)] rfl rfl];refine AWP_reg_seq tok fun K hK => ?_;refine s_alloc rfl rfl rfl rfl rfl rfl ?_;refine s_end (hK _ ?_); clear hK K;refine AWP_reg_seq tok fun K hK => ?_;refine mvQ ?_;refine s_conv rfl (e_conv (m := ((n % 18446744073709551616).toNat : Int)) rfl rfl rfl (by rw [w_u64]; omega)) rfl ?_;refine asQ ?_;refine s_end (hK _ ?_); clear hK K;refine a_join (α := Unit) (fun _ => mk 20 [(0, dI n), (2, .ptr 2 0), (3, dL n.natAbs)] [(2, some (.box [.d (.lit (.bool false)), .nil]))] []) (fun _ => True) ?_ ?_
  · refine AWP_reg_seq tok fun K hK => ?_;refine mvQ ?_;refine biQ ?_;refine s_end (hK _ ?_); clear hK K;refine a_cond rfl (fun hc => ?_) (fun hc => ?_)
    · have hc : n < 0 := by simpa using hc
      refine AWP_reg tok fun K hK => ?_;refine mvQ ?_;refine s_un rfl rfl rfl ?_;refine asQ ?_;refine s_end (hK _ ?_); clear hK K;refine ⟨(), trivial, Wk.mk' ⟨rfl, rfl, ?_, trivial⟩ ⟨rfl, trivial⟩⟩
      show V1 (.lit (.int .u64 (IntKind.u64.wrap (0 - ((n % 18446744073709551616).toNat : Int))))) = _
      rw [w_u64]
      have : (0 - ((n % 18446744073709551616).toNat : Int)) % 18446744073709551616 = (n.natAbs : Int) := by omega
      rw [this]
    · have hc : ¬ n < 0 := by simpa using hc
      refine AWP_skip ?_;refine ⟨(), trivial, Wk.mk' ⟨rfl, rfl, ?_, trivial⟩ ⟨rfl, trivial⟩⟩
      show dL _ = dL _
      have : (n % 18446744073709551616).toNat = n.natAbs := by omega
      rw [this]
  rintro - -
  have hd : n.natAbs / 2 ^ 32 % 4294967296 = n.natAbs / 4294967296 := by show n.natAbs / 4294967296 % 4294967296 = _; omega
  have hv : zv (decide (n < 0)) [n.natAbs % 4294967296, n.natAbs / 2 ^ 32 % 4294967296] = n := by unfold zv; simp only [wv, hd]; by_cases h : n < 0 <;> simp [h] <;> omega
  refine AWP_regW_seq fun K hK => ?_;refine w_step tok rfl ?_;refine mvQ ?_;refine s_end ?_;refine w_step tok rfl ?_;refine biQ ?_;refine s_end ?_;refine w_step tok rfl ?_;refine mvQ ?_;refine s_end ?_;refine w_step tok rfl ?_;refine s_conv rfl (e_conv rfl rfl rfl (wrapU _)) rfl ?_;refine s_end ?_;refine w_step tok rfl ?_;refine mvQ ?_;refine s_end ?_;refine w_step tok rfl ?_;refine s_bin rfl (e_shrL (s := 32) (by omega) rfl) rfl ?_;refine s_end ?_;refine w_step tok rfl ?_;refine s_conv rfl (e_conv rfl rfl rfl (wrapU _)) rfl ?_;refine s_end ?_;refine w_step tok rfl ?_;refine s_buildSlice rfl rfl rfl rfl ?_;refine s_end ?_;refine w_wk (Wk.fzNew rfl rfl rfl) ?_;refine w_step tok rfl ?_;refine s_build rfl rfl rfl ?_;refine s_end ?_;refine w_step tok rfl ?_;refine s_call rfl rfl (r1Norm_c (decide (n < 0)) [n.natAbs % 4294967296, n.natAbs / 2 ^ 32 % 4294967296] (fun x hx => by simp at hx; omega) (by simp)) rfl rfl rfl rfl ?_;refine s_end ?_;refine w_step tok rfl ?_;refine s_store rfl rfl rfl rfl rfl ?_;refine s_end ?_;refine w_end rfl (hK _ ?_); clear hK K;refine AWP_ret ?_
  repeat (with_reducible refine tq_ret ?_)
  exact post_ret (fin_mk (by rfl) (by rfl) (by rw [hv]; rfl))

theorem r1cmp_c (a b : List Nat) (ha : wOK a) (hb : wOK b) (ta : wTop a) (tb : wTop b) (la : a.length ≤ 1073741824) (lb : b.length ≤ 1073741824) :
    Con Tryz.prog 99 [V1 (dW a), V1 (dW b)] { v := dI (ncmp (wv a) (wv b)) } := by
  refine con_intro (fn := Tryz.f99) tok Tryz.func99 (by kernel_rfl) rfl ?_
  intro w0 X
  rw [entry_mkE _ _ [(0, V1 (dW a)), (1, V1 (dW b))] rfl rfl];refine AWP_reg_seq tok fun K hK => ?_;refine asQ ?_;refine s_end (hK _ ?_); clear hK K;refine AWP_seq ?_;refine AWP_reg_seq tok fun K hK => ?_;refine mvQ ?_;refine s_blt rfl (len_w rfl rfl rfl) rfl ?_;refine mvQ ?_;refine s_blt rfl (len_w rfl rfl rfl) rfl ?_;refine biQ ?_;refine s_end (hK _ ?_); clear hK K;refine a_cond rfl (fun hc => ?_) (fun hc => ?_)
  · have hc : a.length ≠ b.length := by simp at hc; omega
    refine AWP_seq ?_;refine AWP_reg_seq tok fun K hK => ?_;refine mvQ ?_;refine s_blt rfl (len_w rfl rfl rfl) rfl ?_;refine mvQ ?_;refine s_blt rfl (len_w rfl rfl rfl) rfl ?_;refine biQ ?_;refine s_end (hK _ ?_); clear hK K;refine a_cond rfl (fun hd => ?_) (fun hd => ?_)
    · have hd : a.length < b.length := by simp at hd; omega
      refine AWP_reg_seq tok fun K hK => ?_;refine asQ ?_;refine s_end (hK _ ?_); clear hK K;refine AWP_ret ?_
      repeat (with_reducible refine tq_ret ?_)
      exact post_ret (fin_mk (by rfl) (by rfl) (by have := wv_len_lt ha tb hd; unfold ncmp; rw [if_pos this]; rfl))
    · have hd : b.length < a.length := by simp at hd; omega
      refine AWP_skip ?_;show AWP _ _ _ _ _ _;refine AWP_reg_seq tok fun K hK => ?_;refine asQ ?_;refine s_end (hK _ ?_); clear hK K;refine AWP_ret ?_
      repeat (with_reducible refine tq_ret ?_)
      exact post_ret (fin_mk (by rfl) (by rfl) (by have := wv_len_lt hb ta hd; unfold ncmp; rw [if_neg (by omega), if_pos this]; rfl))
  have hc : a.length = b.length := by simp at hc; omega
  refine AWP_skip ?_;show AWP _ _ _ _ _ _;refine AWP_seq ?_;refine AWP_reg_seq tok fun K hK => ?_;refine mvQ ?_;refine s_blt rfl (len_w rfl rfl rfl) rfl ?_;refine s_bin rfl (e_sub rfl (by omega)) rfl ?_;refine asQ ?_;refine s_end (hK _ ?_); clear hK K;refine AWP_block (a_loop (α := Nat) (fun k => mk 41 [(0, V1 (dW a)), (1, V1 (dW b)), (5, dI ((k : Int) - 1))] [] []) (fun k => k ≤ a.length ∧ a.drop k = b.drop k) (fun k => k) a.length ?_ ⟨Nat.le_refl _, by simp [hc]⟩ ?_)
  · exact Wk.mk' ⟨rfl, rfl, rfl, trivial⟩ trivial
  rintro k ⟨hk, hdr⟩
  refine AWP_seq ?_;refine AWP_reg_seq tok fun K hK => ?_;refine mvQ ?_;refine biQ ?_;refine s_end (hK _ ?_); clear hK K;refine a_cond rfl (fun hg => ?_) (fun hg => ?_)
  · obtain ⟨j, rfl⟩ : ∃ j, k = j + 1 := ⟨k - 1, by simp at hg; omega⟩
    refine AWP_skip ?_;show AWP _ _ _ _ _ _;refine AWP_seq ?_;refine AWP_block ?_
    have hja : j < a.length := by omega
    have hjb : j < b.length := by omega
    refine AWP_seq ?_;refine a_keep [(0, V1 (dW a)), (1, V1 (dW b)), (5, dI j)] [] ⟨rfl, rfl, by exact dI_eq (by omega), trivial⟩ trivial ?_;refine a_draw tok mixed (A := [[], [], [], [0, 1], [], [], [], [4, 5], [0, 1, 2, 4, 5, 6]]) (an := [{}, {}, {}, {}, {}, {}, {}, {}, {}]) rfl (by kernel_rfl) rfl fun K hK => ?_;refine mvQ ?_;refine mvQ ?_;refine s_indexAddr rfl (x_w (i := j) rfl rfl rfl rfl rfl hja) rfl ?_;refine ldQ ?_;refine mvQ ?_;refine mvQ ?_;refine s_indexAddr rfl (x_w (i := j) rfl rfl rfl rfl rfl hjb) rfl ?_;refine ldQ ?_;refine biQ ?_;refine s_end (hK _ ?_); clear hK K;refine a_cond rfl (fun hl => ?_) (fun hl => ?_)
    · have hl : a[j] < b[j] := by simp at hl; omega
      refine AWP_reg_seq tok fun K hK => ?_;refine asQ ?_;refine s_end (hK _ ?_); clear hK K;refine AWP_ret ?_
      repeat (with_reducible refine tq_ret ?_)
      exact post_ret (fin_mk (by rfl) (by rfl) (by have := wv_less ha hc (by omega) hdr hl; unfold ncmp; rw [if_pos this]; rfl))
    have hl : b[j] ≤ a[j] := by simp at hl; omega
    refine AWP_skip ?_;show AWP _ _ _ _ _ _;refine a_keep [(0, V1 (dW a)), (1, V1 (dW b)), (5, dI j)] [] ⟨rfl, rfl, rfl, trivial⟩ trivial ?_;refine a_draw tok mixed (A := [[], [], [], [0, 1], [], [], [], [4, 5], [0, 1, 2, 4, 5, 6]]) (an := [{}, {}, {}, {}, {}, {}, {}, {}, {}]) rfl (by kernel_rfl) rfl fun K hK => ?_;refine mvQ ?_;refine mvQ ?_;refine s_indexAddr rfl (x_w (i := j) rfl rfl rfl rfl rfl hja) rfl ?_;refine ldQ ?_;refine mvQ ?_;refine mvQ ?_;refine s_indexAddr rfl (x_w (i := j) rfl rfl rfl rfl rfl hjb) rfl ?_;refine ldQ ?_;refine biQ ?_;refine s_end (hK _ ?_); clear hK K;refine a_cond rfl (fun hm => ?_) (fun hm => ?_)
    · have hm : b[j] < a[j] := by simp at hm; omega
      refine AWP_reg_seq tok fun K hK => ?_;refine asQ ?_;refine s_end (hK _ ?_); clear hK K;refine AWP_ret ?_
      repeat (with_reducible refine tq_ret ?_)
      exact post_ret (fin_mk (by rfl) (by rfl) (by have := wv_less hb hc.symm (by omega) hdr.symm hm; unfold ncmp; rw [if_neg (by omega), if_pos this]; rfl))
    have hn : a[j] = b[j] := by simp at hm; omega
    refine AWP_skip ?_;show AWP _ _ _ _ _ _;refine AWP_reg tok fun K hK => ?_;refine mvQ ?_;refine s_bin rfl (e_sub (c := (j : Int) - 1) (by omega) (by omega)) rfl ?_;refine asQ ?_;refine s_end (hK _ ?_); clear hK K;exact ⟨j, by omega, ⟨by omega, by rw [List.drop_eq_getElem_cons hja, List.drop_eq_getElem_cons hjb, hn, hdr]⟩, Wk.mk' ⟨rfl, rfl, rfl, trivial⟩ trivial⟩
  · have hk0 : k = 0 := by simp at hg; omega
    subst hk0
    refine AWP_exit ?_;show AWP _ _ _ _ _ _;refine AWP_reg_seq tok fun K hK => ?_;refine asQ ?_;refine s_end (hK _ ?_); clear hK K
    have : a = b := by simpa using hdr
    refine AWP_ret ?_
    repeat (with_reducible refine tq_ret ?_)
    exact post_ret (fin_mk (by rfl) (by rfl) (by subst this; unfold ncmp; rw [if_neg (by omega), if_neg (by omega)]; rfl))

theorem sumN_end {x y : List Nat} (hx : wOK x) (hy : wOK y) {i : Nat} (hi : max x.length y.length + 1 ≤ i) : sumN x y i / 4294967296 ^ i = 0 := by
  have h1 : sumN x y i = wv x + wv y := by unfold sumN; rw [List.take_of_length_le (by omega), List.take_of_length_le (by omega)]
  have h2 := plus_lt hx hy
  have h3 : 4294967296 ^ (max x.length y.length + 1) ≤ 4294967296 ^ i := Nat.pow_le_pow_right (by decide) hi
  rw [h1]; exact Nat.div_eq_of_lt (by omega)

theorem r1add_c (a b : List Nat) (ha : wOK a) (hb : wOK b) (la : a.length ≤ 1073741800) (lb : b.length ≤ 1073741800) :
    Con Tryz.prog 98 [V1 (dW a), V1 (dW b)] { v := V1 (dW (wof (wv a + wv b))) } := by
  refine con_intro (fn := Tryz.f98) tok Tryz.func98 (by kernel_rfl) rfl ?_
  intro w0 X
  rw [entry_mkE _ _ [(0, V1 (dW a)), (1, V1 (dW b))] rfl rfl];refine AWP_reg_seq tok fun K hK => ?_;refine asQ ?_;refine s_end (hK _ ?_); clear hK K;refine AWP_reg_seq tok fun K hK => ?_;refine asQ ?_;refine s_end (hK _ ?_); clear hK K;refine AWP_reg_seq tok fun K hK => ?_;refine asQ ?_;refine s_end (hK _ ?_); clear hK K;refine AWP_seq ?_;refine AWP_reg_seq tok fun K hK => ?_;refine asQ ?_;refine s_end (hK _ ?_); clear hK K;refine AWP_block (a_loop (α := Nat) (fun i => mk 55 [(0, V1 (dW a)), (1, V1 (dW b)), (5, ownN 5 1 i), (6, dL (sumN a b i / 4294967296 ^ i)), (7, dI i)] [(5, arrN 1 ((wfix i (sumN a b i)).map cW) i)] []) (fun i => i ≤ max a.length b.length + 1) (fun i => max a.length b.length + 1 - i) 0 ?_ (Nat.zero_le _) ?_)
  · exact Wk.mk' ⟨rfl, rfl, rfl, by simp [sumN, wv]; rfl, rfl, trivial⟩ ⟨rfl, trivial⟩
  intro i hi
  have hcar := sumN_carry ha hb i
  refine AWP_seq ?_;refine a_join (α := Bool) (fun c => mk 55 [(0, V1 (dW a)), (1, V1 (dW b)), (5, ownN 5 1 i), (6, dL (sumN a b i / 4294967296 ^ i)), (7, dI i), (21, dB c)] [(5, arrN 1 ((wfix i (sumN a b i)).map cW) i)] []) (fun c => (c = true → i ≤ max a.length b.length) ∧ (c = false → a.length ≤ i ∧ b.length ≤ i ∧ sumN a b i / 4294967296 ^ i = 0)) ?_ ?_
  · refine AWP_reg tok fun K hK => ?_;refine mvQ ?_;refine mvQ ?_;refine s_blt rfl (len_w rfl rfl rfl) rfl ?_;refine biQ ?_;refine mvQ ?_;refine s_split (fun hx => ?_) (fun hx => ?_)
    · have hx : i < a.length := by simp at hx; omega
      refine s_skip rfl ?_;refine s_skip rfl ?_;refine s_skip rfl ?_;refine s_skip rfl ?_;refine piQ ?_;refine mvQ ?_;refine s_skip rfl ?_;refine s_skip rfl ?_;refine piQ ?_;refine s_end (hK _ ?_); clear hK K;exact ⟨true, ⟨fun _ => by omega, fun h => (by cases h)⟩, Wk.mk' ⟨rfl, rfl, rfl, rfl, rfl, rfl, trivial⟩ ⟨rfl, trivial⟩⟩
    have hx : a.length ≤ i := by simp at hx; omega
    refine mvQ ?_;refine mvQ ?_;refine s_blt rfl (len_w rfl rfl rfl) rfl ?_;refine biQ ?_;refine piQ ?_;refine mvQ ?_;refine s_split (fun hy => ?_) (fun hy => ?_)
    · have hy : i < b.length := by simp at hy; omega
      refine s_skip rfl ?_;refine s_skip rfl ?_;refine piQ ?_;refine s_end (hK _ ?_); clear hK K;exact ⟨true, ⟨fun _ => by omega, fun h => (by cases h)⟩, Wk.mk' ⟨rfl, rfl, rfl, rfl, rfl, rfl, trivial⟩ ⟨rfl, trivial⟩⟩
    have hy : b.length ≤ i := by simp at hy; omega
    refine mvQ ?_;refine biQ ?_;refine piQ ?_;refine s_end (hK _ ?_); clear hK K;refine ⟨_, ⟨fun h => ?_, fun h => ?_⟩, Wk.mk' ⟨rfl, rfl, rfl, rfl, rfl, rfl, trivial⟩ ⟨rfl, trivial⟩⟩
    · rcases Nat.lt_or_ge (max a.length b.length) i with h' | h'
      · rw [sumN_end ha hb h'] at h; simp at h
      · exact h'
    · refine ⟨hx, hy, ?_⟩;generalize sumN a b i / 4294967296 ^ i = q at *
      simp at h; omega
  rintro c ⟨h1, h2⟩
  refine a_cond rfl (fun hc => ?_) (fun hc => ?_)
  · have hi' := h1 hc
    have hax := getD_lt ha i
    have hbx := getD_lt hb i
    refine AWP_skip ?_;show AWP _ _ _ _ _ _;refine AWP_seq ?_;refine AWP_block ?_;refine a_join (α := Unit) (fun _ => mk 55 [(0, V1 (dW a)), (1, V1 (dW b)), (5, ownN 5 1 i), (6, dL (sumN a b i / 4294967296 ^ i + a.getD i 0)), (7, dI i)] [(5, arrN 1 ((wfix i (sumN a b i)).map cW) i)] []) (fun _ => True) ?_ ?_
    · refine AWP_reg_seq tok fun K hK => ?_;refine mvQ ?_;refine mvQ ?_;refine s_blt rfl (len_w rfl rfl rfl) rfl ?_;refine biQ ?_;refine s_end (hK _ ?_); clear hK K;refine a_cond rfl (fun hx => ?_) (fun hx => ?_)
      · have hx : i < a.length := by simp at hx; omega
        refine AWP_reg tok fun K hK => ?_;refine mvQ ?_;refine mvQ ?_;refine mvQ ?_;refine s_indexAddr rfl (x_wD (i := i) rfl rfl rfl rfl rfl hx) rfl ?_;refine ldQ ?_;refine s_conv rfl (e_conv rfl rfl rfl (wrapL (ha.lt64 i))) rfl ?_;refine s_bin rfl (e_addL rfl (by omega)) rfl ?_;refine asQ ?_;refine s_end (hK _ ?_); clear hK K;exact ⟨(), trivial, Wk.mk' ⟨rfl, rfl, rfl, rfl, rfl, trivial⟩ ⟨rfl, trivial⟩⟩
      · have hx : a.length ≤ i := by simp at hx; omega
        refine AWP_skip ?_;exact ⟨(), trivial, Wk.mk' ⟨rfl, rfl, rfl, by rw [getD_end hx]; rfl, rfl, trivial⟩ ⟨rfl, trivial⟩⟩
    rintro - -
    show AWP _ _ _ _ _ (mk 55 [(0, V1 (dW a)), (1, V1 (dW b)), (5, ownN 5 1 i), (6, dL (sumN a b i / 4294967296 ^ i + a.getD i 0)), (7, dI i)] [(5, arrN 1 ((wfix i (sumN a b i)).map cW) i)] []);refine a_join (α := Unit) (fun _ => mk 55 [(0, V1 (dW a)), (1, V1 (dW b)), (5, ownN 5 1 i), (6, dL (sumN a b (i + 1) / 4294967296 ^ i)), (7, dI i)] [(5, arrN 1 ((wfix i (sumN a b i)).map cW) i)] []) (fun _ => True) ?_ ?_
    · have e1 : sumN a b i / 4294967296 ^ i + a.getD i 0 + b.getD i 0 = sumN a b (i + 1) / 4294967296 ^ i := by rw [sumN_step]; omega
      refine AWP_reg_seq tok fun K hK => ?_;refine mvQ ?_;refine mvQ ?_;refine s_blt rfl (len_w rfl rfl rfl) rfl ?_;refine biQ ?_;refine s_end (hK _ ?_); clear hK K;refine a_cond rfl (fun hx => ?_) (fun hx => ?_)
      · have hx : i < b.length := by simp at hx; omega
        refine AWP_reg tok fun K hK => ?_;refine mvQ ?_;refine mvQ ?_;refine mvQ ?_;refine s_indexAddr rfl (x_wD (i := i) rfl rfl rfl rfl rfl hx) rfl ?_;refine ldQ ?_;refine s_conv rfl (e_conv rfl rfl rfl (wrapL (hb.lt64 i))) rfl ?_;refine s_bin rfl (e_addL e1 (by omega)) rfl ?_;refine asQ ?_;refine s_end (hK _ ?_); clear hK K;exact ⟨(), trivial, Wk.mk' ⟨rfl, rfl, rfl, rfl, rfl, trivial⟩ ⟨rfl, trivial⟩⟩
      · have hx : b.length ≤ i := by simp at hx; omega
        rw [getD_end hx, Nat.add_zero] at e1;refine AWP_skip ?_;exact ⟨(), trivial, Wk.mk' ⟨rfl, rfl, rfl, by rw [← e1]; rfl, rfl, trivial⟩ ⟨rfl, trivial⟩⟩
    rintro - -
    show AWP _ _ _ _ _ (mk 55 [(0, V1 (dW a)), (1, V1 (dW b)), (5, ownN 5 1 i), (6, dL (sumN a b (i + 1) / 4294967296 ^ i)), (7, dI i)] [(5, arrN 1 ((wfix i (sumN a b i)).map cW) i)] [])
    have e2 : (wfix i (sumN a b i)).map cW ++ [[.lit (.int .u32 ((sumN a b (i + 1) / 4294967296 ^ i % 4294967296 : Nat) : Int))]] = (wfix (i + 1) (sumN a b (i + 1))).map cW := by
      rw [wfix_snoc, sumN_succ, wfix_add, ← sumN_succ]; simp [cW]
    have hsl : sumN a b (i + 1) / 4294967296 ^ i < 18446744073709551616 := by rw [sumN_step]; omega
    refine a_join (α := Unit) (fun _ => mk 55 [(0, V1 (dW a)), (1, V1 (dW b)), (5, .val (.one (.own 50 1 0 (i + 1)))), (6, dL (sumN a b (i + 1) / 4294967296 ^ i)), (7, dI i)] [(50, some (.arr 1 ((wfix (i + 1) (sumN a b (i + 1))).map cW)))] []) (fun _ => True) ?_ ?_
    · rcases i with _ | i
      · refine AWP_reg tok fun K hK => ?_;refine mvQ ?_;refine mvQ ?_;refine s_conv rfl (e_conv rfl rfl rfl (wrapU _)) rfl ?_;refine s_buildSlice rfl rfl rfl rfl ?_;refine s_append rfl (ap_nil rfl rfl rfl rfl rfl (by decide) (Nat.le_of_ble_eq_true rfl) rfl (by simp) rfl (by simp) (by simp)) rfl rfl rfl ?_;refine asQ ?_;refine s_end (hK _ ?_); clear hK K;exact ⟨(), trivial, Wk.mk' ⟨rfl, rfl, rfl, rfl, rfl, trivial⟩ ⟨by rw [← e2]; rfl, trivial⟩⟩
      · refine AWP_reg tok fun K hK => ?_;refine mvQ ?_;refine mvQ ?_;refine s_conv rfl (e_conv rfl rfl rfl (wrapU _)) rfl ?_;refine s_buildSlice rfl rfl rfl rfl ?_;refine s_append rfl (ap_o rfl rfl rfl rfl rfl rfl (by decide) (Nat.le_of_ble_eq_true rfl) rfl (by simp) rfl rfl (by simp [wfix_length]) (by simp; omega)) rfl rfl rfl ?_;refine asQ ?_;refine s_end (hK _ ?_); clear hK K;refine ⟨(), trivial, Wk.mk' ⟨rfl, rfl, ?_, rfl, rfl, trivial⟩ ⟨by rw [← e2]; rfl, trivial⟩⟩
        show SV.val (.one (.own 50 1 0 _)) = _
        simp [wfix_length]
    rintro - -
    refine AWP_reg tok fun K hK => ?_;refine mvQ ?_;refine s_bin rfl (e_shrL (s := 32) (by omega) rfl) rfl ?_;refine asQ ?_;refine s_end (hK _ ?_); clear hK K;show AWP _ _ _ _ _ _;refine AWP_reg tok fun K hK => ?_;refine mvQ ?_;refine s_bin rfl (e_add (c := ((i + 1 : Nat) : Int)) (by omega) (by omega)) rfl ?_;refine asQ ?_;refine s_end (hK _ ?_); clear hK K;refine ⟨i + 1, by omega, by omega, Wk.rn [0, 1, 5, 6, 7] [50] 50 5 rfl rfl rfl ⟨rfl, rfl, rfl, ?_, rfl, trivial⟩ ⟨rfl, trivial⟩⟩
    show dL _ = dL _
    rw [Nat.div_div_eq_div_mul, show (2 : Nat) ^ 32 = 4294967296 from rfl, ← Nat.pow_succ]
  · obtain ⟨hx, hy, hz⟩ := h2 hc
    have hs : sumN a b i = wv a + wv b := by unfold sumN; rw [List.take_of_length_le hx, List.take_of_length_le hy]
    have hlt : wv a + wv b < 4294967296 ^ i := by
      rw [hs] at hz
      rcases Nat.lt_or_ge (wv a + wv b) (4294967296 ^ i) with h' | h'
      · exact h'
      · have := Nat.div_pos h' (pow_pos i); omega
    have hw : wv (wfix i (sumN a b i)) = wv a + wv b := by rw [wv_wfix, hs, Nat.mod_eq_of_lt hlt]
    refine AWP_exit ?_;show AWP _ _ _ _ _ _
    rcases i with _ | i
    · have h0 : wv a + wv b = 0 := by simpa using hlt
      refine AWP_reg_seq tok fun K hK => ?_;refine mvQ ?_;refine s_call rfl rfl (r1trim_c [] wOK.nil (by simp)) rfl rfl rfl rfl ?_;refine asQ ?_;refine s_end (hK _ ?_); clear hK K;refine AWP_ret ?_
      repeat (with_reducible refine tq_ret ?_)
      exact post_ret (fin_mk (by rfl) (by rfl) (by rw [h0]; rfl))
    · refine a_fz [5] [5] 5 [(5, V1 (dW (wfix (i + 1) (sumN a b (i + 1)))))] [] rfl ?_ trivial ?_
      · exact ⟨frz_w rfl (by simp [wfix_length]), trivial⟩
      refine AWP_reg_seq tok fun K hK => ?_;refine mvQ ?_;refine s_call rfl rfl (r1trim_c _ (wfix_ok _ _) (by rw [wfix_length]; omega)) rfl rfl rfl rfl ?_;refine asQ ?_;refine s_end (hK _ ?_); clear hK K;refine AWP_ret ?_
      repeat (with_reducible refine tq_ret ?_)
      exact post_ret (fin_mk (by rfl) (by rfl) (by rw [hw]; rfl))

theorem r1sub_c (a b : List Nat) (ha : wOK a) (hb : wOK b) (la : a.length ≤ 1073741800) (hl : b.length ≤ a.length) (hle : wv b ≤ wv a) :
    Con Tryz.prog 100 [V1 (dW a), V1 (dW b)] { v := V1 (dW (wof (wv a - wv b))) } := by
  refine con_intro (fn := Tryz.f100) tok Tryz.func100 (by kernel_rfl) rfl ?_
  intro w0 X
  rw [entry_mkE _ _ [(0, V1 (dW a)), (1, V1 (dW b))] rfl rfl];refine AWP_reg_seq tok fun K hK => ?_;refine asQ ?_;refine s_end (hK _ ?_); clear hK K;refine AWP_reg_seq tok fun K hK => ?_;refine asQ ?_;refine s_end (hK _ ?_); clear hK K;refine AWP_reg_seq tok fun K hK => ?_;refine asQ ?_;refine s_end (hK _ ?_); clear hK K;refine AWP_seq ?_;refine AWP_reg_seq tok fun K hK => ?_;refine asQ ?_;refine s_end (hK _ ?_); clear hK K;refine AWP_block (a_loop (α := Nat) (fun i => mk 44 [(0, V1 (dW a)), (1, V1 (dW b)), (5, ownN 5 1 i), (6, dI ((1 - difN a b i / 4294967296 ^ i : Nat) : Int)), (7, dI i)] [(5, arrN 1 ((wfix i (difN a b i)).map cW) i)] []) (fun i => i ≤ a.length) (fun i => a.length - i) 0 ?_ (Nat.zero_le _) ?_)
  · exact Wk.mk' ⟨rfl, rfl, rfl, by rw [difN_zero]; rfl, rfl, trivial⟩ ⟨rfl, trivial⟩
  intro i hi
  have hcar := difN_carry (y := b) ha i
  refine AWP_seq ?_;refine AWP_reg_seq tok fun K hK => ?_;refine mvQ ?_;refine mvQ ?_;refine s_blt rfl (len_w rfl rfl rfl) rfl ?_;refine biQ ?_;refine s_end (hK _ ?_); clear hK K;refine a_cond rfl (fun hg => ?_) (fun hg => ?_)
  · have hg : i < a.length := by simp at hg; omega
    have hst := difN_step a hb i
    have hxl := getD_lt ha i
    have hyl := getD_lt hb i
    have hbo : difN a b (i + 1) / 4294967296 ^ (i + 1) = difN a b (i + 1) / 4294967296 ^ i / 4294967296 := by rw [Nat.pow_succ, ← Nat.div_div_eq_div_mul]
    have e3 : wfix i (difN a b (i + 1)) = wfix i (difN a b i) := by
      refine wfix_mod ?_
      have := congrArg (· % 4294967296 ^ i) (difN_succ a hb i)
      simp only [Nat.add_mul_mod_self_right, Nat.add_comm (_ * _)] at this;exact this
    have e2 : (wfix i (difN a b i)).map cW ++ [[.lit (.int .u32 ((difN a b (i + 1) / 4294967296 ^ i % 4294967296 : Nat) : Int))]] = (wfix (i + 1) (difN a b (i + 1))).map cW := by
      rw [wfix_snoc, e3]; simp [cW]
    generalize hq : difN a b i / 4294967296 ^ i = q at *;generalize hq' : difN a b (i + 1) / 4294967296 ^ i = q' at *;refine AWP_skip ?_;show AWP _ _ _ _ _ _;refine AWP_seq ?_;refine AWP_block ?_;refine AWP_reg_seq tok fun K hK => ?_;refine mvQ ?_;refine mvQ ?_;refine s_indexAddr rfl (x_wD (i := i) rfl rfl rfl rfl rfl hg) rfl ?_;refine ldQ ?_;refine s_conv rfl (e_conv (m := (a.getD i 0 : Int)) rfl rfl rfl (IntWalk.i64_in _ (by omega))) rfl ?_;refine mvQ ?_;refine s_bin rfl (e_sub rfl (by omega)) rfl ?_;refine asQ ?_;refine s_end (hK _ ?_); clear hK K;refine a_join (α := Unit) (fun _ => mk 44 [(0, V1 (dW a)), (1, V1 (dW b)), (5, ownN 5 1 i), (7, dI i), (8, dI ((a.getD i 0 : Int) - ((1 - q : Nat) : Int) - b.getD i 0))] [(5, arrN 1 ((wfix i (difN a b i)).map cW) i)] []) (fun _ => True) ?_ ?_
    · refine AWP_reg_seq tok fun K hK => ?_;refine mvQ ?_;refine mvQ ?_;refine s_blt rfl (len_w rfl rfl rfl) rfl ?_;refine biQ ?_;refine s_end (hK _ ?_); clear hK K;refine a_cond rfl (fun hx => ?_) (fun hx => ?_)
      · have hx : i < b.length := by simp at hx; omega
        refine AWP_reg tok fun K hK => ?_;refine mvQ ?_;refine mvQ ?_;refine mvQ ?_;refine s_indexAddr rfl (x_wD (i := i) rfl rfl rfl rfl rfl hx) rfl ?_;refine ldQ ?_;refine s_conv rfl (e_conv (m := (b.getD i 0 : Int)) rfl rfl rfl (IntWalk.i64_in _ (by omega))) rfl ?_;refine s_bin rfl (e_sub rfl (by omega)) rfl ?_;refine asQ ?_;refine s_end (hK _ ?_); clear hK K;exact ⟨(), trivial, Wk.mk' ⟨rfl, rfl, rfl, rfl, rfl, trivial⟩ ⟨rfl, trivial⟩⟩
      · have hx : b.length ≤ i := by simp at hx; omega
        refine AWP_skip ?_;exact ⟨(), trivial, Wk.mk' ⟨rfl, rfl, rfl, rfl, by rw [getD_end hx]; exact dI_eq (by omega), trivial⟩ ⟨rfl, trivial⟩⟩
    rintro - -
    refine AWP_reg_seq tok fun K hK => ?_;refine asQ ?_;refine s_end (hK _ ?_); clear hK K;refine a_join (α := Unit) (fun _ => mk 44 [(0, V1 (dW a)), (1, V1 (dW b)), (5, ownN 5 1 i), (6, dI ((1 - difN a b (i + 1) / 4294967296 ^ (i + 1) : Nat) : Int)), (7, dI i), (8, dI ((q' % 4294967296 : Nat) : Int))] [(5, arrN 1 ((wfix i (difN a b i)).map cW) i)] []) (fun _ => True) ?_ ?_
    · rw [hbo];refine AWP_reg_seq tok fun K hK => ?_;refine mvQ ?_;refine biQ ?_;refine s_end (hK _ ?_); clear hK K;refine a_cond rfl (fun hx => ?_) (fun hx => ?_)
      · have hx : (a.getD i 0 : Int) - ((1 - q : Nat) : Int) - b.getD i 0 < 0 := by simpa using hx
        refine AWP_reg_seq tok fun K hK => ?_;refine mvQ ?_;refine s_bin rfl (e_add rfl (by omega)) rfl ?_;refine asQ ?_;refine s_end (hK _ ?_); clear hK K;refine AWP_reg tok fun K hK => ?_;refine asQ ?_;refine s_end (hK _ ?_); clear hK K;refine ⟨(), trivial, Wk.mk' ⟨rfl, rfl, rfl, ?_, rfl, ?_, trivial⟩ ⟨rfl, trivial⟩⟩
        · exact dI_eq (by omega)
        · exact dI_eq (by omega)
      · have hx : ¬ (a.getD i 0 : Int) - ((1 - q : Nat) : Int) - b.getD i 0 < 0 := by simpa using hx
        refine AWP_skip ?_;refine ⟨(), trivial, Wk.mk' ⟨rfl, rfl, rfl, ?_, rfl, ?_, trivial⟩ ⟨rfl, trivial⟩⟩
        · exact dI_eq (by omega)
        · exact dI_eq (by omega)
    rintro - -
    show AWP _ _ _ _ _ (mk 44 [(0, V1 (dW a)), (1, V1 (dW b)), (5, ownN 5 1 i), (6, dI ((1 - difN a b (i + 1) / 4294967296 ^ (i + 1) : Nat) : Int)), (7, dI i), (8, dI ((q' % 4294967296 : Nat) : Int))] [(5, arrN 1 ((wfix i (difN a b i)).map cW) i)] [])
    rcases i with _ | i
    · refine AWP_reg tok fun K hK => ?_;refine mvQ ?_;refine mvQ ?_;refine s_conv rfl (e_conv (m := ((q' % 4294967296 : Nat) : Int)) rfl rfl rfl (by rw [wrapU, Nat.mod_mod])) rfl ?_;refine s_buildSlice rfl rfl rfl rfl ?_;refine s_append rfl (ap_nil rfl rfl rfl rfl rfl (by decide) (Nat.le_of_ble_eq_true rfl) rfl (by simp) rfl (by simp) (by simp)) rfl rfl rfl ?_;refine asQ ?_;refine s_end (hK _ ?_); clear hK K;show AWP _ _ _ _ _ _;refine AWP_reg tok fun K hK => ?_;refine mvQ ?_;refine s_bin rfl (e_add (c := ((0 + 1 : Nat) : Int)) (by omega) (by omega)) rfl ?_;refine asQ ?_;refine s_end (hK _ ?_); clear hK K;exact ⟨0 + 1, by omega, by omega, Wk.rn [0, 1, 5, 6, 7] [41] 41 5 rfl rfl rfl ⟨rfl, rfl, rfl, rfl, rfl, trivial⟩ ⟨by rw [← e2]; rfl, trivial⟩⟩
    · refine AWP_reg tok fun K hK => ?_;refine mvQ ?_;refine mvQ ?_;refine s_conv rfl (e_conv (m := ((q' % 4294967296 : Nat) : Int)) rfl rfl rfl (by rw [wrapU, Nat.mod_mod])) rfl ?_;refine s_buildSlice rfl rfl rfl rfl ?_;refine s_append rfl (ap_o rfl rfl rfl rfl rfl rfl (by decide) (Nat.le_of_ble_eq_true rfl) rfl (by simp) rfl rfl (by simp [wfix_length]) (by simp; omega)) rfl rfl rfl ?_;refine asQ ?_;refine s_end (hK _ ?_); clear hK K;show AWP _ _ _ _ _ _;refine AWP_reg tok fun K hK => ?_;refine mvQ ?_;refine s_bin rfl (e_add (c := ((i + 1 + 1 : Nat) : Int)) (by omega) (by omega)) rfl ?_;refine asQ ?_;refine s_end (hK _ ?_); clear hK K;refine ⟨i + 1 + 1, by omega, by omega, Wk.rn [0, 1, 5, 6, 7] [41] 41 5 rfl rfl rfl ⟨rfl, rfl, ?_, rfl, rfl, trivial⟩ ⟨by rw [← e2]; rfl, trivial⟩⟩
      show SV.val (.one (.own 5 1 0 _)) = .val (.one (.own 5 1 0 _))
      simp [wfix_length]
  · have hg : i = a.length := by simp at hg; omega
    subst hg
    have hw : wv (wfix a.length (difN a b a.length)) = wv a - wv b := by
      rw [difN_end hl hle, wv_wfix, Nat.mod_eq_of_lt (Nat.lt_of_le_of_lt (Nat.sub_le _ _) (wv_lt ha))]
    generalize hal : a.length = i at *;refine AWP_exit ?_;show AWP _ _ _ _ _ _
    rcases i with _ | i
    · have h0 : wv a - wv b = 0 := by
        have : a = [] := List.length_eq_zero_iff.1 hal
        subst this; simp [wv]
      refine AWP_reg_seq tok fun K hK => ?_;refine mvQ ?_;refine s_call rfl rfl (r1trim_c [] wOK.nil (by simp)) rfl rfl rfl rfl ?_;refine asQ ?_;refine s_end (hK _ ?_); clear hK K;refine AWP_ret ?_
      repeat (with_reducible refine tq_ret ?_)
      exact post_ret (fin_mk (by rfl) (by rfl) (by rw [h0]; rfl))
    · refine a_fz [5] [5] 5 [(5, V1 (dW (wfix (i + 1) (difN a b (i + 1)))))] [] rfl ?_ trivial ?_
      · exact ⟨frz_w rfl (by simp [wfix_length]), trivial⟩
      refine AWP_reg_seq tok fun K hK => ?_;refine mvQ ?_;refine s_call rfl rfl (r1trim_c _ (wfix_ok _ _) (by rw [wfix_length]; omega)) rfl rfl rfl rfl ?_;refine asQ ?_;refine s_end (hK _ ?_); clear hK K;refine AWP_ret ?_
      repeat (with_reducible refine tq_ret ?_)
      exact post_ret (fin_mk (by rfl) (by rfl) (by rw [hw]; rfl))
end Go.Proofs.YtgopibpkgmafiaaGreat

/- The reference's integers: signs, sums, differences. No condition. -/
namespace Go.Proofs.YtgopibpkgmafiaaGreat
attribute [local irreducible] lexA

theorem r1Norm_z (n : Bool) (w : List Nat) (z : Int) (hw : wOK w) (hl : w.length ≤ 1073741824) (h : zv n w = z) : Con Tryz.prog 82 [AG (IC n w)] { v := AG (ZC z) } :=
  h ▸ r1Norm_c n w hw hl

theorem r1Sign_c (n : Bool) (w : List Nat) (hw : wOK w) (hl : w.length ≤ 1073741824) : Con Tryz.prog 77 [AG (IC n w)] { v := dI (zv n w).sign } := by
  have h0 : wof (wv w) = [] ↔ zv n w = 0 := by rw [wof_nil]; unfold zv; split <;> omega
  have hs : (zv n w < 0 → n = true) ∧ (n = true → zv n w ≤ 0) := by unfold zv; cases n <;> simp <;> omega
  refine con_intro (fn := Tryz.f77) tok Tryz.func77 (by kernel_rfl) rfl ?_
  intro w0 X
  rw [entry_mkE _ _ [(0, AG (IC n w))] rfl rfl];refine AWP_reg_seq tok fun K hK => ?_;refine s_box rfl rfl rfl rfl rfl rfl ?_;refine asQ ?_;refine s_end (hK _ ?_); clear hK K;refine AWP_seq ?_;refine AWP_reg_seq tok fun K hK => ?_;refine faQ ?_;refine ldQ ?_;refine s_call rfl rfl (r1trim_c w hw hl) rfl rfl rfl rfl ?_;refine s_blt rfl (len_w rfl rfl rfl) rfl ?_;refine biQ ?_;refine s_end (hK _ ?_); clear hK K;refine a_cond rfl (fun hc => ?_) (fun hc => ?_)
  · have hc : wof (wv w) = [] := by simpa using hc
    refine AWP_reg_seq tok fun K hK => ?_;refine asQ ?_;refine s_end (hK _ ?_); clear hK K;refine AWP_ret ?_
    repeat (with_reducible refine tq_ret ?_)
    exact post_ret (fin_mk (by rfl) (by rfl) (by rw [h0.1 hc]; rfl))
  · have hc : ¬ zv n w = 0 := by rw [← h0]; simpa using hc
    refine AWP_skip ?_;show AWP _ _ _ _ _ _;refine AWP_seq ?_;refine AWP_reg_seq tok fun K hK => ?_;refine faQ ?_;refine ldQ ?_;refine s_end (hK _ ?_); clear hK K;refine a_cond rfl (fun hd => ?_) (fun hd => ?_)
    · have hd : n = true := hd
      have : zv n w < 0 := by have := hs.2 hd; omega
      refine AWP_reg_seq tok fun K hK => ?_;refine asQ ?_;refine s_end (hK _ ?_); clear hK K;refine AWP_ret ?_
      repeat (with_reducible refine tq_ret ?_)
      exact post_ret (fin_mk (by rfl) (by rfl) (by rw [Int.sign_eq_neg_one_of_neg this]; rfl))
    · have hd : n = false := hd
      have : 0 < zv n w := by
        have := hs.1
        rcases Int.lt_trichotomy (zv n w) 0 with h | h | h
        · rw [this h] at hd; cases hd
        · exact absurd h hc
        · exact h
      refine AWP_skip ?_;show AWP _ _ _ _ _ _;refine AWP_reg_seq tok fun K hK => ?_;refine asQ ?_;refine s_end (hK _ ?_); clear hK K;refine AWP_ret ?_
      repeat (with_reducible refine tq_ret ?_)
      exact post_ret (fin_mk (by rfl) (by rfl) (by rw [Int.sign_eq_one_of_pos this]; rfl))

theorem r1Neg_c (n : Bool) (w : List Nat) (hw : wOK w) (hl : w.length ≤ 1073741824) : Con Tryz.prog 79 [AG (IC n w)] { v := AG (ZC (-(zv n w))) } := by
  refine con_intro (fn := Tryz.f79) tok Tryz.func79 (by kernel_rfl) rfl ?_
  intro w0 X
  rw [entry_mkE _ _ [(0, AG (IC n w))] rfl rfl];refine AWP_reg_seq tok fun K hK => ?_;refine s_box rfl rfl rfl rfl rfl rfl ?_;refine s_alloc rfl rfl rfl rfl rfl rfl ?_;refine s_end (hK _ ?_); clear hK K;refine AWP_reg_seq tok fun K hK => ?_;refine faQ ?_;refine ldQ ?_;refine s_un rfl rfl rfl ?_;refine faQ ?_;refine ldQ ?_;refine s_build rfl rfl rfl ?_;refine s_call rfl rfl (r1Norm_z (!n) w (-(zv n w)) hw hl (by unfold zv; cases n <;> simp)) rfl rfl rfl rfl ?_;refine s_store rfl rfl rfl rfl rfl ?_;refine s_end (hK _ ?_); clear hK K;refine AWP_ret ?_
  repeat (with_reducible refine tq_ret ?_)
  exact post_ret (fin_mk (by rfl) (by rfl) (by rfl))

theorem r1Abs_c (n : Bool) (w : List Nat) (hw : wOK w) (hl : w.length ≤ 1073741824) : Con Tryz.prog 102 [AG (IC n w)] { v := AG (ZC ((zv n w).natAbs : Int)) } := by
  refine con_intro (fn := Tryz.f102) tok Tryz.func102 (by kernel_rfl) rfl ?_
  intro w0 X
  rw [entry_mkE _ _ [(0, AG (IC n w))] rfl rfl];refine AWP_reg_seq tok fun K hK => ?_;refine s_box rfl rfl rfl rfl rfl rfl ?_;refine s_alloc rfl rfl rfl rfl rfl rfl ?_;refine s_end (hK _ ?_); clear hK K;refine AWP_reg_seq tok fun K hK => ?_;refine faQ ?_;refine ldQ ?_;refine s_build rfl rfl rfl ?_;refine s_call rfl rfl (r1Norm_z false w ((zv n w).natAbs : Int) hw hl (by rw [zv_abs]; unfold zv; simp)) rfl rfl rfl rfl ?_;refine s_store rfl rfl rfl rfl rfl ?_;refine s_end (hK _ ?_); clear hK K;refine AWP_ret ?_
  repeat (with_reducible refine tq_ret ?_)
  exact post_ret (fin_mk (by rfl) (by rfl) (by rfl))

theorem r1Add_c (na nb : Bool) (wa wb : List Nat) (ha : wOK wa) (hb : wOK wb) (la : wa.length ≤ 536870912) (lb : wb.length ≤ 536870912) :
    Con Tryz.prog 76 [AG (IC na wa), AG (IC nb wb)] { v := AG (ZC (zv na wa + zv nb wb)) } := by
  have hla : (wof (zv na wa).natAbs).length ≤ wa.length := by rw [zv_abs]; exact wl_len ha
  have hlb : (wof (zv nb wb).natAbs).length ≤ wb.length := by rw [zv_abs]; exact wl_len hb
  refine con_intro (fn := Tryz.f76) tok Tryz.func76 (by kernel_rfl) rfl ?_
  intro w0 X
  rw [entry_mkE _ _ [(0, AG (IC na wa)), (1, AG (IC nb wb))] rfl rfl];refine AWP_reg_seq tok fun K hK => ?_;refine s_box rfl rfl rfl rfl rfl rfl ?_;refine s_box rfl rfl rfl rfl rfl rfl ?_;refine s_alloc rfl rfl rfl rfl rfl rfl ?_;refine s_end (hK _ ?_); clear hK K;refine AWP_reg_seq tok fun K hK => ?_;refine ldQ ?_;refine s_call rfl rfl (r1Norm_c na wa ha (by omega)) rfl rfl rfl rfl ?_;refine s_store rfl rfl rfl rfl rfl ?_;refine s_end (hK _ ?_); clear hK K;refine AWP_reg_seq tok fun K hK => ?_;refine ldQ ?_;refine s_call rfl rfl (r1Norm_c nb wb hb (by omega)) rfl rfl rfl rfl ?_;refine s_store rfl rfl rfl rfl rfl ?_;refine s_end (hK _ ?_); clear hK K;generalize zv na wa = x at *;generalize zv nb wb = y at *
  have hpl := wl_add x.natAbs y.natAbs
  unfold wl at hpl
  refine a_keep [(2, .ptr 2 0), (3, .ptr 3 0), (4, .ptr 4 0)] [(2, some (.box (ZC x))), (3, some (.box (ZC y))), (4, some (.box [.d (.lit (.bool false)), .nil]))] ⟨rfl, rfl, rfl, trivial⟩ ⟨rfl, rfl, rfl, trivial⟩ ?_;refine AWP_seq ?_;refine AWP_reg_seq tok fun K hK => ?_;refine faQ ?_;refine ldQ ?_;refine faQ ?_;refine ldQ ?_;refine biQ ?_;refine s_end (hK _ ?_); clear hK K;refine a_cond rfl (fun hc => ?_) (fun hc => ?_)
  · have hc : (x < 0) ↔ (y < 0) := by simpa using hc
    refine a_draw tok mixed (A := [[], [], [], [], [], [], [2, 4], [0, 2, 3, 4, 5], [0, 1, 2, 3, 4, 5], []]) (an := [{}, {}, {}, {}, {}, {}, {}, {}, {}, {}]) rfl (by kernel_rfl) rfl fun K hK => ?_;refine faQ ?_;refine ldQ ?_;refine faQ ?_;refine ldQ ?_;refine faQ ?_;refine ldQ ?_;refine s_call rfl rfl (r1add_c (wof x.natAbs) (wof y.natAbs) (wof_ok _) (wof_ok _) (by omega) (by omega)) rfl rfl rfl rfl ?_;refine s_build rfl rfl rfl ?_;refine s_call rfl rfl (r1Norm_z (decide (x < 0)) _ (x + y) (wof_ok _) (by rw [wv_wof, wv_wof]; omega) (by unfold zv; rw [wv_wof, wv_wof, wv_wof]; by_cases h : x < 0 <;> simp [h] <;> omega)) rfl rfl rfl rfl ?_;refine s_store rfl rfl rfl rfl rfl ?_;refine s_end (hK _ ?_); clear hK K;refine AWP_ret ?_
    repeat (with_reducible refine tq_ret ?_)
    exact post_ret (fin_mk (by rfl) (by rfl) (by rfl))
  · have hc : ¬ ((x < 0) ↔ (y < 0)) := by simpa using hc
    refine AWP_skip ?_;show AWP _ _ _ _ _ _;refine a_keep [(2, .ptr 2 0), (3, .ptr 3 0), (4, .ptr 4 0)] [(2, some (.box (ZC x))), (3, some (.box (ZC y))), (4, some (.box [.d (.lit (.bool false)), .nil]))] ⟨rfl, rfl, rfl, trivial⟩ ⟨rfl, rfl, rfl, trivial⟩ ?_;refine AWP_seq ?_;refine AWP_reg_seq tok fun K hK => ?_;refine faQ ?_;refine ldQ ?_;refine faQ ?_;refine ldQ ?_;refine s_call rfl rfl (r1cmp_c (wof x.natAbs) (wof y.natAbs) (wof_ok _) (wof_ok _) (wof_top _) (wof_top _) (by omega) (by omega)) rfl rfl rfl rfl ?_;refine biQ ?_;refine s_end (hK _ ?_); clear hK K;refine a_cond rfl (fun hd => ?_) (fun hd => ?_)
    · have hd : x.natAbs < y.natAbs := by have := ncmp_lt.1 (of_decide_eq_true hd); rwa [wv_wof, wv_wof] at this
      have hle : (wof x.natAbs).length ≤ (wof y.natAbs).length := wl_mono (by omega)
      have hsl : (wof (y.natAbs - x.natAbs)).length ≤ (wof y.natAbs).length := wl_mono (by omega)
      refine a_draw tok mixed (A := [[], [], [], [], [], [], [2, 4], [0, 2, 3, 4, 5], [0, 1, 2, 3, 4, 5], []]) (an := [{}, {}, {}, {}, {}, {}, {}, {}, {}, {}]) rfl (by kernel_rfl) rfl fun K hK => ?_;refine faQ ?_;refine ldQ ?_;refine faQ ?_;refine ldQ ?_;refine faQ ?_;refine ldQ ?_;refine s_call rfl rfl (r1sub_c (wof y.natAbs) (wof x.natAbs) (wof_ok _) (wof_ok _) (by omega) hle (by rw [wv_wof, wv_wof]; omega)) rfl rfl rfl rfl ?_;refine s_build rfl rfl rfl ?_;refine s_call rfl rfl (r1Norm_z (decide (y < 0)) _ (x + y) (wof_ok _) (by rw [wv_wof, wv_wof]; omega) (by unfold zv; rw [wv_wof, wv_wof, wv_wof]; by_cases h : y < 0 <;> simp [h] <;> omega)) rfl rfl rfl rfl ?_;refine s_store rfl rfl rfl rfl rfl ?_;refine s_end (hK _ ?_); clear hK K;refine AWP_ret ?_
      repeat (with_reducible refine tq_ret ?_)
      exact post_ret (fin_mk (by rfl) (by rfl) (by rfl))
    · have hd : y.natAbs ≤ x.natAbs := by have := mt ncmp_lt.2 (of_decide_eq_false hd); rw [wv_wof, wv_wof] at this; omega
      have hle : (wof y.natAbs).length ≤ (wof x.natAbs).length := wl_mono (by omega)
      have hsl : (wof (x.natAbs - y.natAbs)).length ≤ (wof x.natAbs).length := wl_mono (by omega)
      refine AWP_skip ?_;show AWP _ _ _ _ _ _;refine a_keep [(2, .ptr 2 0), (3, .ptr 3 0), (4, .ptr 4 0)] [(2, some (.box (ZC x))), (3, some (.box (ZC y))), (4, some (.box [.d (.lit (.bool false)), .nil]))] ⟨rfl, rfl, rfl, trivial⟩ ⟨rfl, rfl, rfl, trivial⟩ ?_;refine a_draw tok mixed (A := [[], [], [], [], [], [], [2, 4], [0, 2, 3, 4, 5], [0, 1, 2, 3, 4, 5], []]) (an := [{}, {}, {}, {}, {}, {}, {}, {}, {}, {}]) rfl (by kernel_rfl) rfl fun K hK => ?_;refine faQ ?_;refine ldQ ?_;refine faQ ?_;refine ldQ ?_;refine faQ ?_;refine ldQ ?_;refine s_call rfl rfl (r1sub_c (wof x.natAbs) (wof y.natAbs) (wof_ok _) (wof_ok _) (by omega) hle (by rw [wv_wof, wv_wof]; omega)) rfl rfl rfl rfl ?_;refine s_build rfl rfl rfl ?_;refine s_call rfl rfl (r1Norm_z (decide (x < 0)) _ (x + y) (wof_ok _) (by rw [wv_wof, wv_wof]; omega) (by unfold zv; rw [wv_wof, wv_wof, wv_wof]; by_cases h : x < 0 <;> simp [h] <;> omega)) rfl rfl rfl rfl ?_;refine s_store rfl rfl rfl rfl rfl ?_;refine s_end (hK _ ?_); clear hK K;refine AWP_ret ?_
      repeat (with_reducible refine tq_ret ?_)
      exact post_ret (fin_mk (by rfl) (by rfl) (by rfl))

theorem r1Sub_c (na nb : Bool) (wa wb : List Nat) (ha : wOK wa) (hb : wOK wb) (la : wa.length ≤ 536870912) (lb : wb.length ≤ 536870912) :
    Con Tryz.prog 111 [AG (IC na wa), AG (IC nb wb)] { v := AG (ZC (zv na wa - zv nb wb)) } := by
  have hlb : (wof (-(zv nb wb)).natAbs).length ≤ wb.length := by rw [Int.natAbs_neg, zv_abs]; exact wl_len hb
  have hz : zv na wa + zv (decide (-(zv nb wb) < 0)) (wof (-(zv nb wb)).natAbs) = zv na wa - zv nb wb := by rw [zv_ZC]; omega
  refine con_intro (fn := Tryz.f111) tok Tryz.func111 (by kernel_rfl) rfl ?_
  intro w0 X
  rw [entry_mkE _ _ [(0, AG (IC na wa)), (1, AG (IC nb wb))] rfl rfl];refine AWP_reg_seq tok fun K hK => ?_;refine s_box rfl rfl rfl rfl rfl rfl ?_;refine s_box rfl rfl rfl rfl rfl rfl ?_;refine s_alloc rfl rfl rfl rfl rfl rfl ?_;refine s_end (hK _ ?_); clear hK K;refine a_draw tok mixed (A := [[], [], [], [1], []]) (an := [{}, {}, {}, {}, {}]) rfl (by kernel_rfl) rfl fun K hK => ?_;refine ldQ ?_;refine ldQ ?_;refine s_call rfl rfl (r1Neg_c nb wb hb (by omega)) rfl rfl rfl rfl ?_;refine s_call rfl rfl (hz ▸ r1Add_c na (decide (-(zv nb wb) < 0)) wa (wof (-(zv nb wb)).natAbs) ha (wof_ok _) la (by omega)) rfl rfl rfl rfl ?_;refine s_store rfl rfl rfl rfl rfl ?_;refine s_end (hK _ ?_); clear hK K;refine AWP_ret ?_
  repeat (with_reducible refine tq_ret ?_)
  exact post_ret (fin_mk (by rfl) (by rfl) (by rfl))
end Go.Proofs.YtgopibpkgmafiaaGreat

/- The reference's integers: products, division bit by bit. No condition. -/
namespace Go.Proofs.YtgopibpkgmafiaaGreat
attribute [local irreducible] lexA

theorem WTI.rowk {a b : List Nat} {i k : Nat} {out : List Nat} (h : WTI a (b ++ [0]) i k out 0) (hk : b.length ≤ k) : WTI a (b ++ [0]) (i + 1) 0 out 0 := by
  have hb : wv ((b ++ [0]).take k) = wv (b ++ [0]) := by
    rcases Nat.lt_or_ge b.length k with h' | h'
    · rw [List.take_of_length_le (by simp; omega)]
    · have : k = b.length := by omega
      subst this
      rw [List.take_append_of_le_length (Nat.le_refl _), List.take_of_length_le (Nat.le_refl _), wv_append]; simp [wv]
  have hv := h.val
  rw [hb] at hv;refine ⟨h.ok, h.len, fun m hm => h.hi m (by omega), ?_, by decide⟩;rw [wv_take'];simp only [List.take_zero, wv, Nat.mul_zero, Nat.zero_mul, Nat.add_zero] at *;rw [hv]; grind
theorem WTI.c0 {a b : List Nat} (ha : wOK a) (hb : wOK b) {i : Nat} {out : List Nat} {c : Nat} (h : WTI a (b ++ [0]) i (b.length + 1) out c) : c = 0 := by
  have hv := h.val
  have e0 : (b ++ [0]).take (b.length + 1) = b ++ [0] := List.take_of_length_le (by simp)
  rw [e0] at hv
  have hw : wv (b ++ [0]) = wv b := by rw [wv_append]; simp [wv]
  rw [hw] at hv
  have e : wv (a.take i) * wv b + a.getD i 0 * wv b * 4294967296 ^ i = wv (a.take (i + 1)) * wv b := by rw [wv_take']; grind
  rw [e] at hv
  have h1 := wv_take_lt ha (i + 1)
  have h2 := wv_lt hb
  have h3 : wv (a.take (i + 1)) * wv b < 4294967296 ^ (i + (b.length + 1)) := by
    rw [show i + (b.length + 1) = i + 1 + b.length from by omega, Nat.pow_add]
    rcases Nat.eq_zero_or_pos (wv b) with h0 | h0
    · rw [h0, Nat.mul_zero]; exact Nat.mul_pos (pow_pos _) (pow_pos _)
    · calc wv (a.take (i + 1)) * wv b < 4294967296 ^ (i + 1) * wv b := Nat.mul_lt_mul_of_pos_right h1 h0
        _ ≤ 4294967296 ^ (i + 1) * 4294967296 ^ b.length := Nat.mul_le_mul_left _ (Nat.le_of_lt h2)
  rcases Nat.eq_zero_or_pos c with h0 | h0
  · exact h0
  · have : 1 * 4294967296 ^ (i + (b.length + 1)) ≤ c * 4294967296 ^ (i + (b.length + 1)) := Nat.mul_le_mul_right _ h0
    omega
theorem getD_app0 (b : List Nat) (k : Nat) : (b ++ [0]).getD k 0 = b.getD k 0 := by
  rw [List.getD_eq_getElem?_getD, List.getD_eq_getElem?_getD, List.getElem?_append]
  split
  · rfl
  · rename_i h
    rw [List.getElem?_eq_none (by omega : b.length ≤ k)]
    rcases Nat.lt_or_ge (k - b.length) 1 with h' | h'
    · have : k - b.length = 0 := by omega
      rw [this]; rfl
    · rw [List.getElem?_eq_none (by simpa using h')]

theorem r1Mul_c (na nb : Bool) (wa wb : List Nat) (ha : wOK wa) (hb : wOK wb) (la : wa.length ≤ 500000000) (lb : wb.length ≤ 500000000) :
    Con Tryz.prog 63 [AG (IC na wa), AG (IC nb wb)] { v := AG (ZC (zv na wa * zv nb wb)) } := by
  have hb' : wOK (wb ++ [0]) := hb.append (wOK.one (by decide))
  have lb' : (wb ++ [0]).length = wb.length + 1 := by simp
  refine con_intro (fn := Tryz.f63) tok Tryz.func63 (by kernel_rfl) rfl ?_
  intro w0 X
  rw [entry_mkE _ _ [(0, AG (IC na wa)), (1, AG (IC nb wb))] rfl rfl];refine AWP_reg_seq tok fun K hK => ?_;refine s_box rfl rfl rfl rfl rfl rfl ?_;refine s_box rfl rfl rfl rfl rfl rfl ?_;refine s_alloc rfl rfl rfl rfl rfl rfl ?_;refine s_end (hK _ ?_); clear hK K;refine AWP_reg_seq tok fun K hK => ?_;refine faQ ?_;refine ldQ ?_;refine s_blt rfl (len_w rfl rfl rfl) rfl ?_;refine faQ ?_;refine ldQ ?_;refine s_blt rfl (len_w rfl rfl rfl) rfl ?_;refine s_bin rfl (e_add (c := ((wa.length + wb.length : Nat) : Int)) (by omega) (by omega)) rfl ?_;refine s_bin rfl (e_add (c := ((wa.length + (wb.length + 1) : Nat) : Int)) (by omega) (by omega)) rfl ?_;refine s_makeSlice (sz := _) (es := _) (f := _) (v := _) rfl (mk_w (l := wa.length + (wb.length + 1)) (c := wa.length + (wb.length + 1)) rfl rfl rfl rfl rfl (Nat.le_of_ble_eq_true rfl) rfl rfl (by omega) (by omega)) rfl rfl ?_;refine asQ ?_;refine s_end (hK _ ?_); clear hK K;refine AWP_seq ?_;refine AWP_reg_seq tok fun K hK => ?_;refine asQ ?_;refine s_end (hK _ ?_); clear hK K;refine AWP_block (a_loop (α := Nat × List Nat) (fun p => mk 83 [(2, .ptr 2 0), (3, .ptr 3 0), (4, .ptr 4 0), (5, .val (.one (.own 18 1 0 (wa.length + (wb.length + 1))))), (6, dI p.1)] [(2, some (.box (IC na wa))), (3, some (.box (IC nb wb))), (4, some (.box [.d (.lit (.bool false)), .nil])), (18, some (.arr 1 (p.2.map cW)))] []) (fun p => p.1 ≤ wa.length ∧ WTI wa (wb ++ [0]) p.1 0 p.2 0) (fun p => wa.length - p.1) (0, List.replicate (wa.length + (wb.length + 1)) 0) ?_ ⟨Nat.zero_le _, lb' ▸ WTI.start wa (wb ++ [0])⟩ ?_)
  · exact Wk.mk' ⟨rfl, rfl, rfl, rfl, rfl, trivial⟩ ⟨rfl, rfl, rfl, rfl, trivial⟩
  rintro ⟨i, out⟩ ⟨hi, hti⟩
  simp only at hi hti
  show AWP _ _ _ _ _ (mk 83 [(2, .ptr 2 0), (3, .ptr 3 0), (4, .ptr 4 0), (5, .val (.one (.own 18 1 0 (wa.length + (wb.length + 1))))), (6, dI i)] [(2, some (.box (IC na wa))), (3, some (.box (IC nb wb))), (4, some (.box [.d (.lit (.bool false)), .nil])), (18, some (.arr 1 (out.map cW)))] []);refine AWP_seq ?_;refine AWP_reg_seq tok fun K hK => ?_;refine mvQ ?_;refine faQ ?_;refine ldQ ?_;refine s_blt rfl (len_w rfl rfl rfl) rfl ?_;refine biQ ?_;refine s_end (hK _ ?_); clear hK K;refine a_cond rfl (fun hg => ?_) (fun hg => ?_)
  · have hg : i < wa.length := by simp at hg; omega
    refine AWP_skip ?_;show AWP _ _ _ _ _ _;refine AWP_seq ?_;refine AWP_block ?_;refine AWP_reg_seq tok fun K hK => ?_;refine asQ ?_;refine s_end (hK _ ?_); clear hK K;refine AWP_reg_seq tok fun K hK => ?_;refine asQ ?_;refine s_end (hK _ ?_); clear hK K;refine AWP_block (a_loop (α := Nat × List Nat × Nat) (fun p => mk 83 [(2, .ptr 2 0), (3, .ptr 3 0), (4, .ptr 4 0), (5, .val (.one (.own 18 1 0 (wa.length + (wb.length + 1))))), (6, dI i), (7, dL p.2.2), (8, dI p.1)] [(2, some (.box (IC na wa))), (3, some (.box (IC nb wb))), (4, some (.box [.d (.lit (.bool false)), .nil])), (18, some (.arr 1 (p.2.1.map cW)))] []) (fun p => p.1 ≤ wb.length + 1 ∧ WTI wa (wb ++ [0]) i p.1 p.2.1 p.2.2) (fun p => wb.length + 1 - p.1) (0, out, 0) ?_ ⟨Nat.zero_le _, hti⟩ ?_)
    · exact Wk.mk' ⟨rfl, rfl, rfl, rfl, rfl, rfl, rfl, trivial⟩ ⟨rfl, rfl, rfl, rfl, trivial⟩
    rintro ⟨j, out, c⟩ ⟨hj, hti⟩
    simp only at hj hti
    show AWP _ _ _ _ _ (mk 83 [(2, .ptr 2 0), (3, .ptr 3 0), (4, .ptr 4 0), (5, .val (.one (.own 18 1 0 (wa.length + (wb.length + 1))))), (6, dI i), (7, dL c), (8, dI j)] [(2, some (.box (IC na wa))), (3, some (.box (IC nb wb))), (4, some (.box [.d (.lit (.bool false)), .nil])), (18, some (.arr 1 (out.map cW)))] [])
    have hlen := hti.len
    rw [lb'] at hlen
    have hcl := hti.cl
    refine AWP_seq ?_;refine a_join (α := Bool) (fun p => mk 83 [(2, .ptr 2 0), (3, .ptr 3 0), (4, .ptr 4 0), (5, .val (.one (.own 18 1 0 (wa.length + (wb.length + 1))))), (6, dI i), (7, dL c), (8, dI j), (34, dB p)] [(2, some (.box (IC na wa))), (3, some (.box (IC nb wb))), (4, some (.box [.d (.lit (.bool false)), .nil])), (18, some (.arr 1 (out.map cW)))] []) (fun p => (p = true → j ≤ wb.length) ∧ (p = false → wb.length ≤ j ∧ c = 0)) ?_ ?_
    · refine AWP_reg tok fun K hK => ?_;refine mvQ ?_;refine faQ ?_;refine ldQ ?_;refine s_blt rfl (len_w rfl rfl rfl) rfl ?_;refine biQ ?_;refine mvQ ?_;refine s_split (fun hx => ?_) (fun hx => ?_)
      · have hx : j < wb.length := by simp at hx; omega
        refine s_skip rfl ?_;refine s_skip rfl ?_;refine piQ ?_;refine s_end (hK _ ?_); clear hK K;exact ⟨true, ⟨fun _ => by omega, fun h => (by cases h)⟩, Wk.mk' ⟨rfl, rfl, rfl, rfl, rfl, rfl, rfl, rfl, trivial⟩ ⟨rfl, rfl, rfl, rfl, trivial⟩⟩
      · have hx : wb.length ≤ j := by simp at hx; omega
        refine mvQ ?_;refine biQ ?_;refine piQ ?_;refine s_end (hK _ ?_); clear hK K;refine ⟨_, ⟨fun h => ?_, fun h => ?_⟩, Wk.mk' ⟨rfl, rfl, rfl, rfl, rfl, rfl, rfl, rfl, trivial⟩ ⟨rfl, rfl, rfl, rfl, trivial⟩⟩
        · rcases Nat.lt_or_ge wb.length j with h' | h'
          · have : j = wb.length + 1 := by omega
            subst this
            have := hti.c0 ha hb
            subst this
            simp at h
          · exact h'
        · exact ⟨hx, by simp at h; omega⟩
    rintro p ⟨h1, h2⟩
    refine a_cond rfl (fun hh => ?_) (fun hh => ?_)
    · have hh := h1 hh
      have hB := hti.bound ha hb'
      have hij : i + j < out.length := by omega
      have hst := hti.step hg (by omega) hB
      rw [getD_app0] at hB hst
      have hm : wa.getD i 0 * wb.getD j 0 < 18446744073709551616 := by omega
      have hou := getD_lt hti.ok (i + j)
      refine AWP_skip ?_;show AWP _ _ _ _ _ _;refine AWP_seq ?_;refine AWP_block ?_;refine a_keep [(2, .ptr 2 0), (3, .ptr 3 0), (4, .ptr 4 0), (5, .val (.one (.own 18 1 0 (wa.length + (wb.length + 1))))), (6, dI i), (7, dL c), (8, dI j)] [(2, some (.box (IC na wa))), (3, some (.box (IC nb wb))), (4, some (.box [.d (.lit (.bool false)), .nil])), (18, some (.arr 1 (out.map cW)))] ⟨rfl, rfl, rfl, rfl, rfl, rfl, rfl, trivial⟩ ⟨rfl, rfl, rfl, rfl, trivial⟩ ?_;refine AWP_reg_seq tok fun K hK => ?_;refine mvQ ?_;refine mvQ ?_;refine mvQ ?_;refine s_bin rfl (e_add (c := ((i + j : Nat) : Int)) (by omega) (by omega)) rfl ?_;refine s_indexAddr rfl (x_o (i := i + j) (j := i + j) rfl rfl rfl rfl rfl (by omega) (by omega)) rfl ?_;refine s_load rfl (l_wD rfl rfl rfl rfl hij) rfl ?_;refine s_conv rfl (e_conv rfl rfl rfl (wrapL (hti.ok.lt64 _))) rfl ?_;refine mvQ ?_;refine s_bin rfl (e_addL rfl (by omega)) rfl ?_;refine asQ ?_;refine s_end (hK _ ?_); clear hK K;refine a_join (α := Unit) (fun _ => mk 83 [(2, .ptr 2 0), (3, .ptr 3 0), (4, .ptr 4 0), (5, .val (.one (.own 18 1 0 (wa.length + (wb.length + 1))))), (6, dI i), (8, dI j), (9, dL (wa.getD i 0 * wb.getD j 0 + out.getD (i + j) 0 + c))] [(2, some (.box (IC na wa))), (3, some (.box (IC nb wb))), (4, some (.box [.d (.lit (.bool false)), .nil])), (18, some (.arr 1 (out.map cW)))] []) (fun _ => True) ?_ ?_
      · refine AWP_reg_seq tok fun K hK => ?_;refine mvQ ?_;refine faQ ?_;refine ldQ ?_;refine s_blt rfl (len_w rfl rfl rfl) rfl ?_;refine biQ ?_;refine s_end (hK _ ?_); clear hK K;refine a_cond rfl (fun hx => ?_) (fun hx => ?_)
        · have hx : j < wb.length := by simp at hx; omega
          refine a_keep [(2, .ptr 2 0), (3, .ptr 3 0), (4, .ptr 4 0), (5, .val (.one (.own 18 1 0 (wa.length + (wb.length + 1))))), (6, dI i), (8, dI j), (9, dL (out.getD (i + j) 0 + c))] [(2, some (.box (IC na wa))), (3, some (.box (IC nb wb))), (4, some (.box [.d (.lit (.bool false)), .nil])), (18, some (.arr 1 (out.map cW)))] ⟨rfl, rfl, rfl, rfl, rfl, rfl, rfl, trivial⟩ ⟨rfl, rfl, rfl, rfl, trivial⟩ ?_;refine a_draw1 tok mixed (A := [[], [], [], [], [1], [1, 2, 3], [1, 2, 3, 4], [], [], [], [7], [7, 8, 9], [7, 8, 9, 10], [1, 2, 3, 4, 5, 7, 8, 9, 10, 11], [1, 2, 3, 4, 5, 6, 7, 8, 9, 10, 11, 12], []]) (an := [{}, {}, {}, {}, {}, {}, {}, {}, {}, {}, {}, {}, {}, {}, {}, {}]) rfl (by kernel_rfl) rfl fun K hK => ?_;refine mvQ ?_;refine faQ ?_;refine ldQ ?_;refine mvQ ?_;refine s_indexAddr rfl (x_wD (i := i) rfl rfl rfl rfl rfl hg) rfl ?_;refine ldQ ?_;refine s_conv rfl (e_conv rfl rfl rfl (wrapL (ha.lt64 i))) rfl ?_;refine faQ ?_;refine ldQ ?_;refine mvQ ?_;refine s_indexAddr rfl (x_wD (i := j) rfl rfl rfl rfl rfl hx) rfl ?_;refine ldQ ?_;refine s_conv rfl (e_conv rfl rfl rfl (wrapL (hb.lt64 j))) rfl ?_;refine s_bin rfl (e_mulL rfl hm) rfl ?_;refine s_bin rfl (e_addL (z := wa.getD i 0 * wb.getD j 0 + out.getD (i + j) 0 + c) (by omega) hB) rfl ?_;refine asQ ?_;refine s_end (hK _ ?_); clear hK K;exact ⟨(), trivial, Wk.mk' ⟨rfl, rfl, rfl, rfl, rfl, rfl, rfl, trivial⟩ ⟨rfl, rfl, rfl, rfl, trivial⟩⟩
        · have hx : wb.length ≤ j := by simp at hx; omega
          refine AWP_skip ?_;exact ⟨(), trivial, Wk.mk' ⟨rfl, rfl, rfl, rfl, rfl, rfl, dL_eq (by rw [getD_end hx]; omega), trivial⟩ ⟨rfl, rfl, rfl, rfl, trivial⟩⟩
      rintro - -
      show AWP _ _ _ _ _ (mk 83 [(2, .ptr 2 0), (3, .ptr 3 0), (4, .ptr 4 0), (5, .val (.one (.own 18 1 0 (wa.length + (wb.length + 1))))), (6, dI i), (8, dI j), (9, dL (wa.getD i 0 * wb.getD j 0 + out.getD (i + j) 0 + c))] [(2, some (.box (IC na wa))), (3, some (.box (IC nb wb))), (4, some (.box [.d (.lit (.bool false)), .nil])), (18, some (.arr 1 (out.map cW)))] []);refine AWP_reg_seq tok fun K hK => ?_;refine mvQ ?_;refine mvQ ?_;refine mvQ ?_;refine s_bin rfl (e_add (c := ((i + j : Nat) : Int)) (by omega) (by omega)) rfl ?_;refine mvQ ?_;refine s_conv rfl (e_conv rfl rfl rfl (wrapU _)) rfl ?_;refine s_indexAddr rfl (x_o (i := i + j) (j := i + j) rfl rfl rfl rfl rfl (by omega) (by omega)) rfl ?_;refine s_store rfl (st_w rfl rfl rfl hij) rfl rfl rfl ?_;refine s_end (hK _ ?_); clear hK K;refine AWP_reg tok fun K hK => ?_;refine mvQ ?_;refine s_bin rfl (e_shrL (s := 32) (by omega) rfl) rfl ?_;refine asQ ?_;refine s_end (hK _ ?_); clear hK K;show AWP _ _ _ _ _ _;refine AWP_reg tok fun K hK => ?_;refine mvQ ?_;refine s_bin rfl (e_add (c := ((j + 1 : Nat) : Int)) (by omega) (by omega)) rfl ?_;refine asQ ?_;refine s_end (hK _ ?_); clear hK K;exact ⟨(j + 1, _, _), by simp only; omega, ⟨by simp only; omega, hst⟩, Wk.mk' ⟨rfl, rfl, rfl, rfl, rfl, rfl, rfl, trivial⟩ ⟨rfl, rfl, rfl, rfl, trivial⟩⟩
    · obtain ⟨hx, hc0⟩ := h2 hh
      subst hc0
      refine AWP_exit ?_;show AWP _ _ _ _ _ _;refine AWP_reg tok fun K hK => ?_;refine mvQ ?_;refine s_bin rfl (e_add (c := ((i + 1 : Nat) : Int)) (by omega) (by omega)) rfl ?_;refine asQ ?_;refine s_end (hK _ ?_); clear hK K;exact ⟨(i + 1, _), by simp only; omega, ⟨hg, hti.rowk hx⟩, Wk.mk' ⟨rfl, rfl, rfl, rfl, rfl, trivial⟩ ⟨rfl, rfl, rfl, rfl, trivial⟩⟩
  · have hg : i = wa.length := by simp at hg; omega
    subst hg
    have hfin := hti.fin
    have hw0 : wv (wb ++ [0]) = wv wb := by rw [wv_append]; simp [wv]
    have hout : wv out = wv wa * wv wb := by
      have hv := hti.val
      simp only [List.take_zero, wv, Nat.mul_zero, Nat.zero_mul, Nat.add_zero, List.take_of_length_le (Nat.le_refl _)] at hv;rw [hv, hw0]
    have hol := hti.len
    rw [lb'] at hol;refine AWP_exit ?_;show AWP _ _ _ _ _ _;refine a_fz [2, 3, 4, 5] [2, 3, 4, 18] 18 [(2, .ptr 2 0), (3, .ptr 3 0), (4, .ptr 4 0), (5, V1 (dW out))] [(2, some (.box (IC na wa))), (3, some (.box (IC nb wb))), (4, some (.box [.d (.lit (.bool false)), .nil]))] rfl ?_ ?_ ?_
    · exact ⟨rfl, rfl, rfl, frz_w rfl (by omega), trivial⟩
    · exact ⟨rfl, rfl, rfl, trivial⟩
    refine AWP_reg_seq tok fun K hK => ?_;refine faQ ?_;refine ldQ ?_;refine faQ ?_;refine ldQ ?_;refine biQ ?_;refine mvQ ?_;refine s_build rfl rfl rfl ?_;refine s_call rfl rfl (r1Norm_z (!(na == nb)) out (zv na wa * zv nb wb) hti.ok (by omega) (by unfold zv; rw [hout]; cases na <;> cases nb <;> simp [Int.natCast_mul, Int.mul_neg, Int.neg_mul])) rfl rfl rfl rfl ?_;refine s_store rfl rfl rfl rfl rfl ?_;refine s_end (hK _ ?_); clear hK K;refine AWP_ret ?_
    repeat (with_reducible refine tq_ret ?_)
    exact post_ret (fin_mk (by rfl) (by rfl) (by rfl))

theorem pow32 (k : Nat) : 4294967296 ^ k = 2 ^ (32 * k) := by rw [show 4294967296 = 2 ^ 32 from rfl, ← Nat.pow_mul]
theorem pow_split (i : Nat) : 2 ^ i = 4294967296 ^ (i / 32) * 2 ^ (i % 32) := by rw [pow32, ← Nat.pow_add, Nat.div_add_mod]
theorem bit_word {m : List Nat} (hm : wOK m) (i : Nat) : m.getD (i / 32) 0 / 2 ^ (i % 32) % 2 = wv m / 2 ^ i % 2 := by
  rw [wv_get hm, pow_split i, ← Nat.div_div_eq_div_mul];generalize wv m / 4294967296 ^ (i / 32) = y
  have hs : i % 32 < 32 := Nat.mod_lt _ (by decide)
  generalize i % 32 = s at *
  have e : 4294967296 = 2 ^ s * (2 * 2 ^ (31 - s)) := by
    rw [← Nat.pow_succ', ← Nat.pow_add, show s + (31 - s + 1) = 32 from by omega]
  rw [e, Nat.mod_mul_right_div_self, Nat.mod_mul_right_mod]

theorem r1bit_c (m : List Nat) (i : Nat) (hm : wOK m) (lm : m.length ≤ 1073741824) (hi : i ≤ 9223372036854775807) :
    Con Tryz.prog 119 [V1 (dW m), dI i] { v := dU (wv m / 2 ^ i % 2) } := by
  refine con_intro (fn := Tryz.f119) tok Tryz.func119 (by kernel_rfl) rfl ?_
  intro w0 X
  rw [entry_mkE _ _ [(0, V1 (dW m)), (1, dI i)] rfl rfl];refine AWP_reg_seq tok fun K hK => ?_;refine asQ ?_;refine s_end (hK _ ?_); clear hK K;refine AWP_seq ?_;refine AWP_reg_seq tok fun K hK => ?_;refine mvQ ?_;refine s_bin rfl (e_quoI (y := 32) (by omega) hi rfl) rfl ?_;refine mvQ ?_;refine s_blt rfl (len_w rfl rfl rfl) rfl ?_;refine biQ ?_;refine s_end (hK _ ?_); clear hK K;refine a_cond rfl (fun hc => ?_) (fun hc => ?_)
  · have hc : m.length ≤ i / 32 := by simp at hc; omega
    have h0 : wv m / 2 ^ i = 0 := by
      refine Nat.div_eq_of_lt (Nat.lt_of_lt_of_le (wv_lt hm) ?_);rw [pow32]; exact Nat.pow_le_pow_right (by decide) (by omega)
    refine AWP_reg_seq tok fun K hK => ?_;refine asQ ?_;refine s_end (hK _ ?_); clear hK K;refine AWP_ret ?_
    repeat (with_reducible refine tq_ret ?_)
    exact post_ret (fin_mk (by rfl) (by rfl) (by rw [h0]; rfl))
  · have hc : i / 32 < m.length := by simp at hc; omega
    refine AWP_skip ?_;show AWP _ _ _ _ _ _;refine AWP_reg_seq tok fun K hK => ?_;refine mvQ ?_;refine mvQ ?_;refine s_bin rfl (e_quoI (y := 32) (by omega) hi rfl) rfl ?_;refine s_indexAddr rfl (x_wD (i := i / 32) rfl rfl rfl rfl rfl hc) rfl ?_;refine ldQ ?_;refine mvQ ?_;refine s_bin rfl (e_remI (y := 32) (by omega) hi rfl) rfl ?_;refine s_conv rfl (e_conv rfl rfl rfl (wrapL (by omega))) rfl ?_;refine s_bin rfl (e_shrU (s := i % 32) (by omega) rfl) rfl ?_;refine s_bin rfl (e_remU (y := 2) (by omega) rfl) rfl ?_;refine asQ ?_;refine s_end (hK _ ?_); clear hK K;refine AWP_ret ?_
    repeat (with_reducible refine tq_ret ?_)
    exact post_ret (fin_mk (by rfl) (by rfl) (by rw [bit_word hm]; rfl))

theorem bit_step {A B n : Nat} (hB : 0 < B) : (2 * (A / 2 ^ (n + 1) % B) + A / 2 ^ n % 2) / B + 2 * (A / 2 ^ (n + 1) / B) = A / 2 ^ n / B ∧ (2 * (A / 2 ^ (n + 1) % B) + A / 2 ^ n % 2) % B = A / 2 ^ n % B := by
  have e : A / 2 ^ (n + 1) = A / 2 ^ n / 2 := by rw [Nat.pow_succ, Nat.div_div_eq_div_mul]
  rw [e];generalize A / 2 ^ n = y
  have h := Nat.div_add_mod (y / 2) B
  have h2 := Nat.div_add_mod y 2
  generalize y / 2 / B = q at *;generalize y / 2 % B = r at *;generalize y / 2 = x at *;generalize y % 2 = b at *
  have : y = (2 * r + b) + B * (2 * q) := by grind
  rw [this, Nat.add_mul_div_left _ _ hB, Nat.add_mul_mod_self_left];exact ⟨rfl, rfl⟩
structure BQ (A B L n : Nat) (q : List Nat) : Prop where
  ok : wOK q
  len : q.length = L
  val : wv q = A / 2 ^ n / B * 2 ^ n
theorem BQ.zero {A B L n : Nat} {q : List Nat} (h : BQ A B L (n + 1) q) (h0 : A / 2 ^ n / B = 2 * (A / 2 ^ (n + 1) / B)) : BQ A B L n q :=
  ⟨h.ok, h.len, by rw [h.val, h0, Nat.pow_succ]; grind⟩
theorem BQ.one {A B L n : Nat} {q : List Nat} (h : BQ A B L (n + 1) q) (h0 : A / 2 ^ n / B = 1 + 2 * (A / 2 ^ (n + 1) / B)) (hn : n / 32 < L) :
    BQ A B L n (q.set (n / 32) ((q.getD (n / 32) 0 + 1 * 2 ^ (n % 32) % 4294967296) % 4294967296)) := by
  have hs : n % 32 < 32 := Nat.mod_lt _ (by decide)
  have hp : 1 * 2 ^ (n % 32) % 4294967296 = 2 ^ (n % 32) := by
    rw [Nat.one_mul, Nat.mod_eq_of_lt];exact Nat.pow_lt_pow_right (by decide) hs
  have hw : q.getD (n / 32) 0 % 2 ^ (n % 32 + 1) = 0 := by
    rw [wv_get h.ok, h.val]
    have e1 : A / 2 ^ (n + 1) / B * 2 ^ (n + 1) / 4294967296 ^ (n / 32) = A / 2 ^ (n + 1) / B * 2 ^ (n % 32 + 1) := by
      rw [Nat.pow_succ, pow_split n, Nat.pow_succ]
      have : A / (4294967296 ^ (n / 32) * 2 ^ (n % 32) * 2) / B * (4294967296 ^ (n / 32) * 2 ^ (n % 32) * 2) = A / (4294967296 ^ (n / 32) * 2 ^ (n % 32) * 2) / B * (2 ^ (n % 32) * 2) * 4294967296 ^ (n / 32) := by
        generalize A / (4294967296 ^ (n / 32) * 2 ^ (n % 32) * 2) / B = z;generalize 2 ^ (n % 32) = y;generalize 4294967296 ^ (n / 32) = x
        grind
      rw [this, Nat.mul_div_cancel _ (pow_pos _)]
    rw [e1]
    have e2 : 4294967296 = 2 ^ (n % 32 + 1) * 2 ^ (31 - n % 32) := by rw [← Nat.pow_add, show n % 32 + 1 + (31 - n % 32) = 32 from by omega]
    rw [e2, Nat.mod_mul_right_mod, Nat.mul_mod_left]
  have hlt : q.getD (n / 32) 0 + 2 ^ (n % 32) < 4294967296 := by
    have h1 := getD_lt h.ok (n / 32)
    obtain ⟨z, hz⟩ := Nat.dvd_of_mod_eq_zero hw
    rw [hz] at h1 ⊢
    have e2 : 4294967296 = 2 ^ (n % 32 + 1) * 2 ^ (31 - n % 32) := by rw [← Nat.pow_add, show n % 32 + 1 + (31 - n % 32) = 32 from by omega]
    have h2 : z < 2 ^ (31 - n % 32) := Nat.lt_of_mul_lt_mul_left (a := 2 ^ (n % 32 + 1)) (by rw [← e2]; exact h1)
    have h3 : 2 ^ (n % 32 + 1) * (z + 1) ≤ 2 ^ (n % 32 + 1) * 2 ^ (31 - n % 32) := Nat.mul_le_mul_left _ h2
    rw [← e2, Nat.mul_succ, Nat.pow_succ] at h3
    have h4 : 0 < 2 ^ (n % 32) := Nat.two_pow_pos _
    rw [Nat.pow_succ]; omega
  rw [hp, Nat.mod_eq_of_lt hlt];refine ⟨h.ok.set _ hlt, by rw [List.length_set]; exact h.len, ?_⟩
  have hsv := wv_setD (a := q) (i := n / 32) (by rw [h.len]; exact hn) (q.getD (n / 32) 0 + 2 ^ (n % 32))
  have hv := h.val
  rw [h0, Nat.add_mul, Nat.one_mul];rw [Nat.add_mul] at hsv
  have hps := pow_split n
  rw [Nat.mul_comm (4294967296 ^ (n / 32))] at hps;rw [← hps] at hsv;rw [Nat.pow_succ] at hv
  have : A / 2 ^ (n + 1) / B * (2 ^ n * 2) = 2 * (A / 2 ^ (n + 1) / B) * 2 ^ n := by
    generalize A / 2 ^ (n + 1) / B = z; grind
  rw [Nat.pow_succ] at this;rw [this] at hv;rw [Nat.pow_succ]
  omega

theorem r1divide_c (a b : List Nat) (ha : wOK a) (hb : wOK b) (tb : wTop b) (h0 : 0 < wv b) (la : a.length ≤ 268435456) (lb : b.length ≤ 268435456) :
    Con Tryz.prog 110 [V1 (dW a), V1 (dW b)] { v := .tup [.one (.d (dW (wof (wv a / wv b)))), .one (.d (dW (wof (wv a % wv b))))] } := by
  have hrl : ∀ n, n < 2 * wv b → (wof n).length ≤ b.length + 1 := by
    intro n hn
    have h1 := wv_lt hb
    refine wl_le ?_;rw [Nat.pow_succ]; omega
  have hbw : b = wof (wv b) := top_uniq hb (wof_ok _) tb (wof_top _) (wv_wof _).symm
  refine con_intro (fn := Tryz.f110) tok Tryz.func110 (by kernel_rfl) rfl ?_
  intro w0 X
  rw [entry_mkE _ _ [(0, V1 (dW a)), (1, V1 (dW b))] rfl rfl];refine AWP_reg_seq tok fun K hK => ?_;refine asQ ?_;refine asQ ?_;refine s_end (hK _ ?_); clear hK K;refine AWP_reg_seq tok fun K hK => ?_;refine mvQ ?_;refine s_blt rfl (len_w rfl rfl rfl) rfl ?_;refine s_makeSlice (sz := _) (es := _) (f := _) (v := _) rfl (mk_w (l := a.length) (c := a.length) rfl rfl rfl rfl rfl (Nat.le_of_ble_eq_true rfl) rfl rfl (by omega) (by omega)) rfl rfl ?_;refine asQ ?_;refine s_end (hK _ ?_); clear hK K;refine AWP_reg_seq tok fun K hK => ?_;refine asQ ?_;refine s_end (hK _ ?_); clear hK K;refine AWP_seq ?_;refine AWP_reg_seq tok fun K hK => ?_;refine mvQ ?_;refine s_blt rfl (len_w rfl rfl rfl) rfl ?_;refine s_bin rfl (e_mul (c := ((32 * a.length : Nat) : Int)) (by omega) (by omega)) rfl ?_;refine s_bin rfl (e_sub rfl (by omega)) rfl ?_;refine asQ ?_;refine s_end (hK _ ?_); clear hK K;refine AWP_block (a_loop (α := Nat × List Nat) (fun p => mk 54 [(7, V1 (dW (wof (wv a / 2 ^ p.1 % wv b)))), (0, V1 (dW a)), (1, V1 (dW b)), (6, .val (.one (.own 11 1 0 a.length))), (8, dI ((p.1 : Int) - 1))] [(11, some (.arr 1 (p.2.map cW)))] []) (fun p => p.1 ≤ 32 * a.length ∧ BQ (wv a) (wv b) a.length p.1 p.2) (fun p => p.1) (32 * a.length, List.replicate a.length 0) ?_ ⟨Nat.le_refl _, ?_⟩ ?_)
  · have hz : wv a / 2 ^ (32 * a.length) = 0 := by rw [← pow32]; exact Nat.div_eq_of_lt (wv_lt ha)
    simp only [hz, Nat.zero_mod];exact Wk.trans (Wk.mk' (E' := [(7, .val (.one .nil)), (0, V1 (dW a)), (1, V1 (dW b)), (6, .val (.one (.own 11 1 0 a.length))), (8, dI (((32 * a.length : Nat) : Int) - 1))]) (S' := [(11, some (.arr 1 ((List.replicate a.length 0).map cW)))]) ⟨rfl, rfl, rfl, rfl, rfl, trivial⟩ ⟨rfl, trivial⟩) Wk.nilD
  · have hz : wv a / 2 ^ (32 * a.length) = 0 := by rw [← pow32]; exact Nat.div_eq_of_lt (wv_lt ha)
    exact ⟨wOK.rep0 _, by simp, by simp only; rw [hz, wv_rep0]; simp⟩
  rintro ⟨m, q⟩ ⟨hm, hbq⟩
  simp only at hm hbq
  show AWP _ _ _ _ _ (mk 54 [(7, V1 (dW (wof (wv a / 2 ^ m % wv b)))), (0, V1 (dW a)), (1, V1 (dW b)), (6, .val (.one (.own 11 1 0 a.length))), (8, dI ((m : Int) - 1))] [(11, some (.arr 1 (q.map cW)))] [])
  have hql := hbq.len
  refine AWP_seq ?_;refine AWP_reg_seq tok fun K hK => ?_;refine mvQ ?_;refine biQ ?_;refine s_end (hK _ ?_); clear hK K;refine a_cond rfl (fun hg => ?_) (fun hg => ?_)
  · obtain ⟨i, rfl⟩ : ∃ i, m = i + 1 := ⟨m - 1, by simp at hg; omega⟩
    obtain ⟨s1, s2⟩ := bit_step (A := wv a) (B := wv b) (n := i) h0
    have hr := Nat.mod_lt (wv a / 2 ^ (i + 1)) h0
    have hbit : wv a / 2 ^ i % 2 < 2 := Nat.mod_lt _ (by decide)
    generalize hx : wv a / 2 ^ (i + 1) % wv b = r at *;generalize hy : wv a / 2 ^ i % 2 = bt at *;refine AWP_skip ?_;show AWP _ _ _ _ _ _;refine AWP_seq ?_;refine AWP_block ?_;refine a_keep [(0, V1 (dW a)), (1, V1 (dW b)), (6, .val (.one (.own 11 1 0 a.length))), (7, V1 (dW (wof r))), (8, dI i)] [(11, some (.arr 1 (q.map cW)))] ⟨rfl, rfl, rfl, rfl, dI_eq (by omega), trivial⟩ ⟨rfl, trivial⟩ ?_
    have l1 := hrl r (by omega)
    refine AWP_reg_seq tok fun K hK => ?_;refine mvQ ?_;refine mvQ ?_;refine s_call rfl rfl (r1add_c (wof r) (wof r) (wof_ok _) (wof_ok _) (by omega) (by omega)) rfl rfl rfl rfl ?_;refine asQ ?_;refine s_end (hK _ ?_); clear hK K;refine a_join (α := Unit) (fun _ => mk 54 [(0, V1 (dW a)), (1, V1 (dW b)), (6, .val (.one (.own 11 1 0 a.length))), (7, V1 (dW (wof (2 * r + bt)))), (8, dI i)] [(11, some (.arr 1 (q.map cW)))] []) (fun _ => True) ?_ ?_
    · have l2 := hrl (r + r) (by omega)
      have e2 : wv (wof r) + wv (wof r) = r + r := by rw [wv_wof]
      refine AWP_reg_seq tok fun K hK => ?_;refine mvQ ?_;refine mvQ ?_;refine s_call rfl rfl (hy ▸ r1bit_c a i ha (by omega) (by omega)) rfl rfl rfl rfl ?_;refine biQ ?_;refine s_end (hK _ ?_); clear hK K;refine a_cond rfl (fun hc => ?_) (fun hc => ?_)
      · have hc : bt = 1 := by simp at hc; omega
        subst hc
        refine AWP_regW fun K hK => ?_;refine w_step tok rfl ?_;refine mvQ ?_;refine s_end ?_;refine w_step tok rfl ?_;refine s_buildSlice rfl rfl rfl rfl ?_;refine s_end ?_;refine w_wk (Wk.fzNew rfl rfl rfl) ?_;refine w_step tok rfl ?_;refine s_call rfl rfl (r1add_c (wof (wv (wof r) + wv (wof r))) [1] (wof_ok _) (wOK.one (by decide)) (by rw [e2]; omega) (by simp)) rfl rfl rfl rfl ?_;refine s_end ?_;refine w_step tok rfl ?_;refine asQ ?_;refine s_end ?_;refine w_end rfl (hK _ ?_); clear hK K;refine ⟨(), trivial, Wk.mk' ⟨rfl, rfl, rfl, ?_, rfl, trivial⟩ ⟨rfl, trivial⟩⟩
        show V1 (dW _) = V1 (dW _)
        rw [wv_wof, e2, show wv [1] = 1 from rfl, show r + r + 1 = 2 * r + 1 from by omega]
      · have hc : bt = 0 := by simp at hc; omega
        subst hc
        refine AWP_skip ?_;refine ⟨(), trivial, Wk.mk' ⟨rfl, rfl, rfl, ?_, rfl, trivial⟩ ⟨rfl, trivial⟩⟩
        show V1 (dW _) = V1 (dW _)
        rw [e2, show r + r = 2 * r + 0 from by omega]
    rintro - -
    show AWP _ _ _ _ _ (mk 54 [(0, V1 (dW a)), (1, V1 (dW b)), (6, .val (.one (.own 11 1 0 a.length))), (7, V1 (dW (wof (2 * r + bt)))), (8, dI i)] [(11, some (.arr 1 (q.map cW)))] [])
    have l3 := hrl (2 * r + bt) (by omega)
    refine AWP_reg_seq tok fun K hK => ?_;refine mvQ ?_;refine mvQ ?_;refine s_call rfl rfl (r1cmp_c (wof (2 * r + bt)) b (wof_ok _) hb (wof_top _) tb (by omega) (by omega)) rfl rfl rfl rfl ?_;refine biQ ?_;refine s_end (hK _ ?_); clear hK K;refine a_cond rfl (fun hc => ?_) (fun hc => ?_)
    · have hc : wv b ≤ 2 * r + bt := by
        have h1 := of_decide_eq_true hc
        have := mt (ncmp_lt (m := wv (wof (2 * r + bt))) (n := wv b)).2 (by omega)
        rw [wv_wof] at this; omega
      have hd1 : (2 * r + bt) / wv b = 1 := Nat.div_eq_of_lt_le (by omega) (by omega)
      have hd2 : (2 * r + bt) % wv b = 2 * r + bt - wv b := by rw [Nat.mod_eq_sub_mod hc, Nat.mod_eq_of_lt (by omega)]
      rw [hd1] at s1;rw [hd2] at s2
      have hbl : b.length ≤ (wof (2 * r + bt)).length := by
        have := wl_mono hc
        unfold wl at this
        rwa [← hbw] at this
      have hi32 : i / 32 < q.length := by omega
      refine AWP_reg_seq tok fun K hK => ?_;refine mvQ ?_;refine mvQ ?_;refine s_call rfl rfl (r1sub_c (wof (2 * r + bt)) b (wof_ok _) hb (by omega) hbl (by rw [wv_wof]; exact hc)) rfl rfl rfl rfl ?_;refine asQ ?_;refine s_end (hK _ ?_); clear hK K;refine AWP_reg tok fun K hK => ?_;refine mvQ ?_;refine mvQ ?_;refine s_bin rfl (e_quoI (y := 32) (by omega) (by omega) rfl) rfl ?_;refine mvQ ?_;refine mvQ ?_;refine s_bin rfl (e_quoI (y := 32) (by omega) (by omega) rfl) rfl ?_;refine s_indexAddr rfl (x_o (i := i / 32) (j := i / 32) rfl rfl rfl rfl rfl (by omega) (by omega)) rfl ?_;refine s_load rfl (l_wD rfl rfl rfl rfl hi32) rfl ?_;refine mvQ ?_;refine s_bin rfl (e_remI (y := 32) (by omega) (by omega) rfl) rfl ?_;refine s_conv rfl (e_conv rfl rfl rfl (wrapL (by omega))) rfl ?_;refine s_bin rfl (e_shlU (x := 1) (s := i % 32) (by omega) rfl) rfl ?_;refine s_bin rfl (e_addU rfl) rfl ?_;refine s_indexAddr rfl (x_o (i := i / 32) (j := i / 32) rfl rfl rfl rfl rfl (by omega) (by omega)) rfl ?_;refine s_store rfl (st_w rfl rfl rfl hi32) rfl rfl rfl ?_;refine s_end (hK _ ?_); clear hK K;show AWP _ _ _ _ _ _;refine AWP_reg tok fun K hK => ?_;refine mvQ ?_;refine s_bin rfl (e_sub rfl (by omega)) rfl ?_;refine asQ ?_;refine s_end (hK _ ?_); clear hK K;refine ⟨(i, _), by simp only; omega, ⟨by simp only; omega, hbq.one s1.symm (by omega)⟩, Wk.mk' ⟨?_, rfl, rfl, rfl, rfl, trivial⟩ ⟨rfl, trivial⟩⟩
      show V1 (dW _) = V1 (dW _)
      rw [wv_wof, s2]
    · have hc : 2 * r + bt < wv b := by
        have h1 := of_decide_eq_false hc
        have := (ncmp_lt (m := wv (wof (2 * r + bt))) (n := wv b)).1 (by omega)
        rwa [wv_wof] at this
      have hd1 : (2 * r + bt) / wv b = 0 := Nat.div_eq_of_lt hc
      have hd2 : (2 * r + bt) % wv b = 2 * r + bt := Nat.mod_eq_of_lt hc
      rw [hd1, Nat.zero_add] at s1;rw [hd2] at s2;refine AWP_skip ?_;show AWP _ _ _ _ _ _;refine AWP_reg tok fun K hK => ?_;refine mvQ ?_;refine s_bin rfl (e_sub rfl (by omega)) rfl ?_;refine asQ ?_;refine s_end (hK _ ?_); clear hK K;refine ⟨(i, q), by simp only; omega, ⟨by simp only; omega, hbq.zero s1.symm⟩, Wk.mk' ⟨?_, rfl, rfl, rfl, rfl, trivial⟩ ⟨rfl, trivial⟩⟩
      show V1 (dW _) = V1 (dW _)
      rw [s2]
  · have hm0 : m = 0 := by simp at hg; omega
    subst hm0
    have hv := hbq.val
    simp only [Nat.pow_zero, Nat.div_one, Nat.mul_one] at hv;refine AWP_exit ?_;show AWP _ _ _ _ _ _;refine a_fz [6, 7] [11] 11 [(6, V1 (dW q)), (7, V1 (dW (wof (wv a / 2 ^ 0 % wv b))))] [] rfl ?_ trivial ?_
    · exact ⟨frz_w rfl (by omega), rfl, trivial⟩
    refine AWP_reg_seq tok fun K hK => ?_;refine mvQ ?_;refine s_call rfl rfl (r1trim_c q hbq.ok (by omega)) rfl rfl rfl rfl ?_;refine mvQ ?_;refine asQ ?_;refine asQ ?_;refine s_end (hK _ ?_); clear hK K;refine AWP_ret ?_
    repeat (with_reducible refine tq_ret ?_)
    exact post_ret (fin_mk (by rfl) (by rfl) (by rw [hv, Nat.pow_zero, Nat.div_one]; rfl))
end Go.Proofs.YtgopibpkgmafiaaGreat

/- The reference's integers: halves, quotients, the greatest common divisor. No condition. -/
namespace Go.Proofs.YtgopibpkgmafiaaGreat
attribute [local irreducible] lexA

theorem ZC_nat (n : Nat) : ZC (n : Int) = IC false (wof n) := by
  unfold ZC
  rw [Int.natAbs_natCast, decide_eq_false (by omega)]
theorem ncmp_eq {m n : Nat} : ncmp m n = 0 ↔ m = n := by
  unfold ncmp
  by_cases h : m < n
  · simp [h]; omega
  · rw [if_neg h]; split <;> omega
theorem ncmp_gt {m n : Nat} : ncmp m n > 0 ↔ n < m := by
  unfold ncmp
  by_cases h : m < n
  · simp [h]; omega
  · rw [if_neg h]; split <;> omega
theorem wof_even (X : Nat) : (wof X).getD 0 0 % 2 = X % 2 := by
  rw [wv_get (wof_ok X), wv_wof, Nat.pow_zero, Nat.div_one]; omega
theorem wof_pos {X : Nat} (h : 0 < X) : 0 < (wof X).length := by
  rw [List.length_pos_iff, ne_eq, wof_nil]; omega
theorem gcd_half {X Y : Nat} (hx : X % 2 = 0) (hy : Y % 2 = 1) : Nat.gcd (X / 2) Y = Nat.gcd X Y := by
  have hc : Nat.Coprime 2 Y := by unfold Nat.Coprime; rw [Nat.gcd_rec, hy]; rfl
  have : X = 2 * (X / 2) := by omega
  conv => rhs; rw [this]
  exact (Nat.Coprime.gcd_mul_left_cancel _ hc).symm

theorem r1half_c (m : List Nat) (hm : wOK m) (lm : m.length ≤ 1073741824) : Con Tryz.prog 103 [V1 (dW m)] { v := V1 (dW (wof (wv m / 2))) } := by
  refine con_intro (fn := Tryz.f103) tok Tryz.func103 (by kernel_rfl) rfl ?_
  intro w0 X
  rw [entry_mkE _ _ [(0, V1 (dW m))] rfl rfl];refine AWP_reg_seq tok fun K hK => ?_;refine asQ ?_;refine s_end (hK _ ?_); clear hK K;refine AWP_reg_seq tok fun K hK => ?_;refine s_buildSlice rfl rfl rfl rfl ?_;refine mvQ ?_;refine s_append rfl (ap_o (es := []) rfl rfl rfl rfl rfl rfl (by decide) (Nat.le_of_ble_eq_true rfl) rfl cW_len rfl rfl rfl (by simp; omega)) rfl rfl rfl ?_;refine asQ ?_;refine s_end (hK _ ?_); clear hK K;refine AWP_seq ?_;refine AWP_reg_seq tok fun K hK => ?_;refine asQ ?_;refine s_end (hK _ ?_); clear hK K;refine AWP_block (a_loop (α := Nat × List Nat) (fun p => mk 44 [(0, V1 (dW m)), (3, .val (.one (.own 7 1 0 m.length))), (4, dI p.1)] [(7, some (.arr 1 (p.2.map cW)))] []) (fun p => p.1 ≤ m.length ∧ p.2.length = m.length ∧ ∀ k, p.2.getD k 0 = if k < p.1 then wv m / 2 / 4294967296 ^ k % 4294967296 else m.getD k 0) (fun p => m.length - p.1) (0, m) ?_ ⟨Nat.zero_le _, rfl, fun k => by simp⟩ ?_)
  · refine Wk.mk' ⟨rfl, ?_, rfl, trivial⟩ ⟨rfl, trivial⟩
    show SV.val (.one (.own 7 1 0 _)) = _
    simp
  rintro ⟨i, o⟩ ⟨hi, hol, ho⟩
  simp only at hi hol ho
  show AWP _ _ _ _ _ (mk 44 [(0, V1 (dW m)), (3, .val (.one (.own 7 1 0 m.length))), (4, dI i)] [(7, some (.arr 1 (o.map cW)))] []);refine AWP_seq ?_;refine AWP_reg_seq tok fun K hK => ?_;refine mvQ ?_;refine mvQ ?_;refine s_blt rfl rfl rfl ?_;refine biQ ?_;refine s_end (hK _ ?_); clear hK K;refine a_cond rfl (fun hc => ?_) (fun hc => ?_)
  · have hc : i < m.length := by simp at hc; omega
    have hoi := ho i
    rw [if_neg (by omega)] at hoi
    have hdig := shr_digit (n := 1) (by omega) i hm
    have hx0 := getD_lt hm i
    have hx1 := getD_lt hm (i + 1)
    rw [Nat.pow_one] at hdig
    have hdig' : m.getD i 0 / 2 + m.getD (i + 1) 0 % 2 * 2147483648 = wv m / 2 / 4294967296 ^ i % 4294967296 := by rw [← hdig]; omega
    refine AWP_skip ?_;show AWP _ _ _ _ _ _;refine AWP_seq ?_;refine AWP_block ?_;refine AWP_reg_seq tok fun K hK => ?_;refine mvQ ?_;refine mvQ ?_;refine mvQ ?_;refine mvQ ?_;refine s_indexAddr rfl (x_o (i := i) (j := i) rfl rfl rfl rfl rfl hc (by omega)) rfl ?_;refine s_load rfl ((l_wD rfl rfl rfl rfl (by omega)).trans (by rw [hoi])) rfl ?_;refine s_bin rfl (e_shrU (s := 1) (by omega) rfl) rfl ?_;refine s_indexAddr rfl (x_o (i := i) (j := i) rfl rfl rfl rfl rfl hc (by omega)) rfl ?_;refine s_store rfl (st_w rfl rfl rfl (by omega)) rfl rfl rfl ?_;refine s_end (hK _ ?_); clear hK K
    have hset : ∀ (y z : Nat), (o.set i y).set i z = o.set i z := fun y z => by simp
    have hnew : ∀ z, z = wv m / 2 / 4294967296 ^ i % 4294967296 → ∀ k, (o.set i z).getD k 0 = if k < i + 1 then wv m / 2 / 4294967296 ^ k % 4294967296 else m.getD k 0 := by
      intro z hz k
      rw [wgetD_set _ _ _ _ (by omega)]
      by_cases hk : k = i
      · rw [if_pos hk, if_pos (by omega), hz, hk]
      · rw [if_neg hk, ho k]
        by_cases hk2 : k < i
        · rw [if_pos hk2, if_pos (by omega)]
        · rw [if_neg hk2, if_neg (by omega)]
    refine AWP_reg_seq tok fun K hK => ?_;refine mvQ ?_;refine s_bin rfl (e_add (c := ((i + 1 : Nat) : Int)) (by omega) (by omega)) rfl ?_;refine mvQ ?_;refine s_blt rfl (len_w rfl rfl rfl) rfl ?_;refine biQ ?_;refine s_end (hK _ ?_); clear hK K;refine a_cond rfl (fun hd => ?_) (fun hd => ?_)
    · have hd : i + 1 < m.length := by simp at hd; omega
      refine a_keep [(0, V1 (dW m)), (3, .val (.one (.own 7 1 0 m.length))), (4, dI i)] [(7, some (.arr 1 ((o.set i (m.getD i 0 / 2)).map cW)))] ⟨rfl, rfl, rfl, trivial⟩ ⟨rfl, trivial⟩ ?_
      have hgi : (o.set i (m.getD i 0 / 2)).getD i 0 = m.getD i 0 / 2 := by rw [wgetD_set _ _ _ _ (by omega), if_pos rfl]
      refine a_draw1 tok mixed (A := [[], [], [], [], [], [2, 3], [], [], [], [7], [6, 7, 8], [6, 7, 8, 9], [6, 7, 8, 9, 10], [2, 3, 4, 6, 7, 8, 9, 10, 11], [], []]) (an := [{}, {}, {}, {}, {}, {}, {}, {}, {}, {}, {}, {}, {}, {}, {}, {}]) rfl (by kernel_rfl) rfl fun K hK => ?_;refine mvQ ?_;refine mvQ ?_;refine mvQ ?_;refine mvQ ?_;refine s_indexAddr rfl (x_o (i := i) (j := i) rfl rfl rfl rfl rfl hc (by omega)) rfl ?_;refine s_load rfl ((l_wD rfl rfl rfl rfl (by rw [List.length_set]; omega)).trans (by rw [hgi])) rfl ?_;refine mvQ ?_;refine mvQ ?_;refine s_bin rfl (e_add (c := ((i + 1 : Nat) : Int)) (by omega) (by omega)) rfl ?_;refine s_indexAddr rfl (x_wD (i := i + 1) rfl rfl rfl rfl rfl hd) rfl ?_;refine ldQ ?_;refine s_bin rfl (e_remU (y := 2) (by omega) rfl) rfl ?_;refine s_bin rfl (e_shlU (s := 31) (z := m.getD (i + 1) 0 % 2 * 2147483648) (by omega) (by show m.getD (i + 1) 0 % 2 * 2147483648 % 4294967296 = _; omega)) rfl ?_;refine s_bin rfl (e_addU (z := wv m / 2 / 4294967296 ^ i % 4294967296) (by rw [hdig', Nat.mod_mod])) rfl ?_;refine s_indexAddr rfl (x_o (i := i) (j := i) rfl rfl rfl rfl rfl hc (by omega)) rfl ?_;refine s_store rfl (st_w rfl rfl rfl (by rw [List.length_set]; omega)) rfl rfl rfl ?_;refine s_end (hK _ ?_); clear hK K;show AWP _ _ _ _ _ _;refine AWP_reg tok fun K hK => ?_;refine mvQ ?_;refine s_bin rfl (e_add (c := ((i + 1 : Nat) : Int)) (by omega) (by omega)) rfl ?_;refine asQ ?_;refine s_end (hK _ ?_); clear hK K;exact ⟨(i + 1, o.set i (wv m / 2 / 4294967296 ^ i % 4294967296)), by simp only; omega, ⟨hc, by simpa using hol, hnew _ rfl⟩, Wk.mk' ⟨rfl, rfl, rfl, trivial⟩ ⟨by rw [hset]; rfl, trivial⟩⟩
    · have hd : m.length ≤ i + 1 := by simp at hd; omega
      rw [getD_end hd] at hdig';refine AWP_skip ?_;show AWP _ _ _ _ _ _;refine AWP_reg tok fun K hK => ?_;refine mvQ ?_;refine s_bin rfl (e_add (c := ((i + 1 : Nat) : Int)) (by omega) (by omega)) rfl ?_;refine asQ ?_;refine s_end (hK _ ?_); clear hK K;exact ⟨(i + 1, o.set i (m.getD i 0 / 2)), by simp only; omega, ⟨hc, by simpa using hol, hnew _ (by omega)⟩, Wk.mk' ⟨rfl, rfl, rfl, trivial⟩ ⟨rfl, trivial⟩⟩
  · have hc : i = m.length := by simp at hc; omega
    subst hc
    have hfin : o = wfix m.length (wv m / 2) := by
      refine list_getD (by rw [hol, wfix_length]) (fun k hk => ?_);rw [ho k, if_pos (by omega), wfix_getD _ (by omega)]
    have hlt := wv_lt hm
    refine AWP_exit ?_;show AWP _ _ _ _ _ _;refine a_fz [3] [7] 7 [(3, V1 (dW (wfix m.length (wv m / 2))))] [] rfl ?_ trivial ?_
    · exact ⟨frz_w (by rw [hfin]) (by rw [wfix_length]), trivial⟩
    refine AWP_reg_seq tok fun K hK => ?_;refine mvQ ?_;refine s_call rfl rfl (r1trim_c _ (wfix_ok _ _) (by rw [wfix_length]; omega)) rfl rfl rfl rfl ?_;refine asQ ?_;refine s_end (hK _ ?_); clear hK K;refine AWP_ret ?_
    repeat (with_reducible refine tq_ret ?_)
    exact post_ret (fin_mk (by rfl) (by rfl) (by rw [wv_wfix, Nat.mod_eq_of_lt (by omega)]; rfl))

theorem r1Add_z (na nb : Bool) (wa wb : List Nat) (z : Int) (ha : wOK wa) (hb : wOK wb) (la : wa.length ≤ 536870912) (lb : wb.length ≤ 536870912) (h : zv na wa + zv nb wb = z) :
    Con Tryz.prog 76 [AG (IC na wa), AG (IC nb wb)] { v := AG (ZC z) } := h ▸ r1Add_c na nb wa wb ha hb la lb
theorem r1Sub_z (na nb : Bool) (wa wb : List Nat) (z : Int) (ha : wOK wa) (hb : wOK wb) (la : wa.length ≤ 536870912) (lb : wb.length ≤ 536870912) (h : zv na wa - zv nb wb = z) :
    Con Tryz.prog 111 [AG (IC na wa), AG (IC nb wb)] { v := AG (ZC z) } := h ▸ r1Sub_c na nb wa wb ha hb la lb

theorem tr_abs (na : Bool) (A B : Nat) : (tr na A B).natAbs = A % B := by
  unfold tr; split
  · rw [Int.natAbs_neg, Int.natAbs_natCast]
  · rw [Int.natAbs_natCast]
theorem tq_abs (na nb : Bool) (A B : Nat) : (tq na nb A B).natAbs = A / B := by
  unfold tq; split
  · rw [Int.natAbs_natCast]
  · rw [Int.natAbs_neg, Int.natAbs_natCast]
theorem r1DivMod_c (na nb : Bool) (wa wb : List Nat) (ha : wOK wa) (hb : wOK wb) (la : wa.length ≤ 268435456) (lb : wb.length ≤ 268435456) (h0 : zv nb wb ≠ 0) :
    Con Tryz.prog 104 [AG (IC na wa), AG (IC nb wb)] { v := .tup [.agg (ZC (zv na wa / zv nb wb)), .agg (ZC (zv na wa % zv nb wb)), .one (.d (lI 0))] } := by
  have hB0 : wv wb ≠ 0 := by intro h; apply h0; unfold zv; rw [h]; simp
  have hBp : 0 < wv wb := by omega
  have hla := wl_len ha
  have hlb := wl_len hb
  have hxa : zv na wa = sg na (wv wa) := rfl
  have hxb : zv nb wb = sg nb (wv wb) := rfl
  have habs : zv nb wb = sg nb (wv wb) := rfl
  rw [hxa, hxb];generalize hA : wv wa = A at *;generalize hB : wv wb = B at *
  have hsgB : (sg nb B).natAbs = B := by unfold sg; split <;> omega
  have hrle : (wof (tr na A B).natAbs).length ≤ (wof A).length := wl_mono (by rw [tr_abs]; exact Nat.mod_le A B)
  have hqle : (wof (tq na nb A B).natAbs).length ≤ (wof A).length := wl_mono (by rw [tq_abs]; exact Nat.div_le_self A B)
  have hql : (wof (A / B)).length ≤ (wof A).length := wl_mono (Nat.div_le_self A B)
  have hrl : (wof (A % B)).length ≤ (wof A).length := wl_mono (Nat.mod_le A B)
  refine con_intro (fn := Tryz.f104) tok Tryz.func104 (by kernel_rfl) rfl ?_
  intro w0 X
  rw [entry_mkE _ _ [(0, AG (IC na wa)), (1, AG (IC nb wb))] rfl rfl];refine AWP_reg_seq tok fun K hK => ?_;refine s_box rfl rfl rfl rfl rfl rfl ?_;refine s_box rfl rfl rfl rfl rfl rfl ?_;refine s_alloc rfl rfl rfl rfl rfl rfl ?_;refine s_alloc rfl rfl rfl rfl rfl rfl ?_;refine asQ ?_;refine s_end (hK _ ?_); clear hK K;refine AWP_seq ?_;refine AWP_reg_seq tok fun K hK => ?_;refine ldQ ?_;refine s_call rfl rfl (r1Sign_c nb wb hb (by omega)) rfl rfl rfl rfl ?_;refine biQ ?_;refine s_end (hK _ ?_); clear hK K;refine a_cond rfl (fun hc => ?_) (fun hc => ?_)
  · exfalso
    have : (zv nb wb).sign = 0 := by simpa using hc
    exact h0 (Int.sign_eq_zero_iff_zero.1 this)
  refine AWP_skip ?_;show AWP _ _ _ _ _ _;refine a_keep [(2, .ptr 2 0), (3, .ptr 3 0), (4, .ptr 4 0), (5, .ptr 5 0)] [(2, some (.box (IC na wa))), (3, some (.box (IC nb wb))), (4, some (.box [.d (.lit (.bool false)), .nil])), (5, some (.box [.d (.lit (.bool false)), .nil]))] ⟨rfl, rfl, rfl, rfl, trivial⟩ ⟨rfl, rfl, rfl, rfl, trivial⟩ ?_;refine a_draw tok mixed (A := [[], [], [0], [], [], [0, 1, 3], [0, 1, 3, 4], [0, 1, 2, 3, 4, 5], [0, 1, 2, 3, 4, 5, 6], [0, 1, 2, 3, 4, 5, 6], [], []]) (an := [{}, {}, {}, { c := [19] }, { c := [19] }, {}, {}, {}, {}, {}, {}, {}]) rfl (by kernel_rfl) rfl fun K hK => ?_;refine faQ ?_;refine ldQ ?_;refine s_call rfl rfl (hA ▸ r1trim_c wa ha (by omega)) rfl rfl rfl rfl ?_;refine faQ ?_;refine ldQ ?_;refine s_call rfl rfl (hB ▸ r1trim_c wb hb (by omega)) rfl rfl rfl rfl ?_;refine s_call rfl rfl (r1divide_c (wof A) (wof B) (wof_ok A) (wof_ok B) (wof_top B) (by rw [wv_wof]; exact hBp) (by omega) (by omega)) rfl rfl rfl rfl ?_;refine mvQ ?_;refine s_extract rfl rfl rfl ?_;refine s_extract rfl rfl rfl ?_;refine asQ ?_;refine asQ ?_;refine s_end (hK _ ?_); clear hK K;refine AWP_reg_seq tok fun K hK => ?_;refine faQ ?_;refine ldQ ?_;refine faQ ?_;refine ldQ ?_;refine biQ ?_;refine mvQ ?_;refine s_build rfl rfl rfl ?_;refine s_call rfl rfl (r1Norm_z (!(na == nb)) _ (tq na nb A B) (wof_ok _) (by rw [wv_wof, wv_wof]; omega) (by unfold zv tq; rw [wv_wof, wv_wof, wv_wof]; cases na <;> cases nb <;> simp)) rfl rfl rfl rfl ?_;refine s_alloc rfl rfl rfl rfl rfl rfl ?_;refine s_store rfl rfl rfl rfl rfl ?_;refine s_end (hK _ ?_); clear hK K;refine AWP_reg_seq tok fun K hK => ?_;refine faQ ?_;refine ldQ ?_;refine mvQ ?_;refine s_build rfl rfl rfl ?_;refine s_call rfl rfl (r1Norm_z na _ (tr na A B) (wof_ok _) (by rw [wv_wof, wv_wof]; omega) (by unfold zv tr; rw [wv_wof, wv_wof, wv_wof])) rfl rfl rfl rfl ?_;refine s_alloc rfl rfl rfl rfl rfl rfl ?_;refine s_store rfl rfl rfl rfl rfl ?_;refine s_end (hK _ ?_); clear hK K;refine a_join (α := Unit) (fun _ => mk 55 [(4, .ptr 4 0), (5, .ptr 5 0), (9, .ptr 9 0), (10, .ptr 10 0)] [(4, some (.box [.d (.lit (.bool false)), .nil])), (5, some (.box [.d (.lit (.bool false)), .nil])), (9, some (.box (ZC (sg na A / sg nb B)))), (10, some (.box (ZC (sg na A % sg nb B))))] []) (fun _ => True) ?_ ?_
  · refine a_keep [(3, .ptr 3 0), (4, .ptr 4 0), (5, .ptr 5 0), (9, .ptr 9 0), (10, .ptr 10 0)] [(3, some (.box (IC nb wb))), (4, some (.box [.d (.lit (.bool false)), .nil])), (5, some (.box [.d (.lit (.bool false)), .nil])), (9, some (.box (ZC (tq na nb A B)))), (10, some (.box (ZC (tr na A B))))] ⟨rfl, rfl, rfl, rfl, rfl, trivial⟩ ⟨rfl, rfl, rfl, rfl, rfl, trivial⟩ ?_;refine AWP_reg_seq tok fun K hK => ?_;refine faQ ?_;refine ldQ ?_;refine s_end (hK _ ?_); clear hK K;refine a_cond rfl (fun hd => ?_) (fun hd => ?_)
    · have hd : tr na A B < 0 := of_decide_eq_true hd
      obtain ⟨e1, e2⟩ := tqr_neg na nb hBp hd
      refine a_keep [(3, .ptr 3 0), (4, .ptr 4 0), (5, .ptr 5 0), (9, .ptr 9 0), (10, .ptr 10 0)] [(3, some (.box (IC nb wb))), (4, some (.box [.d (.lit (.bool false)), .nil])), (5, some (.box [.d (.lit (.bool false)), .nil])), (9, some (.box (ZC (tq na nb A B)))), (10, some (.box (ZC (tr na A B))))] ⟨rfl, rfl, rfl, rfl, rfl, trivial⟩ ⟨rfl, rfl, rfl, rfl, rfl, trivial⟩ ?_
      have habB : (zv nb wb).natAbs = B := by rw [zv_abs]; exact hB
      refine a_draw tok mixed (A := [[], [], [], [1], []]) (an := [{}, {}, {}, {}, {}]) rfl (by kernel_rfl) rfl fun K hK => ?_;refine ldQ ?_;refine ldQ ?_;refine s_call rfl rfl (habB ▸ r1Abs_c nb wb hb (by omega)) rfl rfl rfl rfl ?_;refine s_call rfl rfl (r1Add_z (decide (tr na A B < 0)) (decide ((B : Int) < 0)) (wof (tr na A B).natAbs) (wof (B : Int).natAbs) (sg na A % sg nb B) (wof_ok _) (wof_ok _) (by omega) (by simp only [Int.natAbs_natCast]; omega) (by rw [zv_ZC, zv_ZC, e2])) rfl rfl rfl rfl ?_;refine s_store rfl rfl rfl rfl rfl ?_;refine s_end (hK _ ?_); clear hK K;refine AWP_reg_seq tok fun K hK => ?_;refine faQ ?_;refine ldQ ?_;refine s_end (hK _ ?_); clear hK K;refine a_cond rfl (fun hn => ?_) (fun hn => ?_)
      · have hn : nb = true := hn
        subst hn
        refine a_draw1 tok mixed (A := [[], [], [], []]) (an := [{}, {}, {}, {}]) rfl (by kernel_rfl) rfl fun K hK => ?_;refine ldQ ?_;refine s_call rfl rfl (r1Of_c 1 (by unfold I64; omega)) rfl rfl rfl rfl ?_;refine s_call rfl rfl (r1Add_z (decide (tq na true A B < 0)) (decide ((1 : Int) < 0)) (wof (tq na true A B).natAbs) (wof (1 : Int).natAbs) (sg na A / sg true B) (wof_ok _) (wof_ok _) (by omega) (by decide) (by rw [zv_ZC, zv_ZC, e1]; rfl)) rfl rfl rfl rfl ?_;refine s_store rfl rfl rfl rfl rfl ?_;refine s_end (hK _ ?_); clear hK K;exact ⟨(), trivial, Wk.mk' ⟨rfl, rfl, rfl, rfl, trivial⟩ ⟨rfl, rfl, rfl, rfl, trivial⟩⟩
      · have hn : nb = false := hn
        subst hn
        refine a_draw1 tok mixed (A := [[], [], [], []]) (an := [{}, {}, {}, {}]) rfl (by kernel_rfl) rfl fun K hK => ?_;refine ldQ ?_;refine s_call rfl rfl (r1Of_c 1 (by unfold I64; omega)) rfl rfl rfl rfl ?_;refine s_call rfl rfl (r1Sub_z (decide (tq na false A B < 0)) (decide ((1 : Int) < 0)) (wof (tq na false A B).natAbs) (wof (1 : Int).natAbs) (sg na A / sg false B) (wof_ok _) (wof_ok _) (by omega) (by decide) (by rw [zv_ZC, zv_ZC, e1]; rfl)) rfl rfl rfl rfl ?_;refine s_store rfl rfl rfl rfl rfl ?_;refine s_end (hK _ ?_); clear hK K;exact ⟨(), trivial, Wk.mk' ⟨rfl, rfl, rfl, rfl, trivial⟩ ⟨rfl, rfl, rfl, rfl, trivial⟩⟩
    · have hd : 0 ≤ tr na A B := by have := of_decide_eq_false hd; omega
      obtain ⟨e1, e2⟩ := tqr_pos na nb hBp hd
      refine AWP_skip ?_;exact ⟨(), trivial, Wk.mk' ⟨rfl, rfl, rfl, rfl, trivial⟩ ⟨rfl, rfl, by rw [e1]; rfl, by rw [e2]; rfl, trivial⟩⟩
  rintro - -
  show AWP _ _ _ _ _ (mk 55 [(4, .ptr 4 0), (5, .ptr 5 0), (9, .ptr 9 0), (10, .ptr 10 0)] [(4, some (.box [.d (.lit (.bool false)), .nil])), (5, some (.box [.d (.lit (.bool false)), .nil])), (9, some (.box (ZC (sg na A / sg nb B)))), (10, some (.box (ZC (sg na A % sg nb B))))] []);refine a_draw tok mixed (A := [[], [], [], [], []]) (an := [{}, {}, { d := [10] }, {}, {}]) rfl (by kernel_rfl) rfl fun K hK => ?_;refine ldQ ?_;refine ldQ ?_;refine s_store rfl rfl rfl rfl rfl ?_;refine s_store rfl rfl rfl rfl rfl ?_;refine asQ ?_;refine s_end (hK _ ?_); clear hK K;refine AWP_ret ?_
  repeat (with_reducible refine tq_ret ?_)
  exact post_ret (fin_mk (by rfl) (by rfl) (by rfl))

theorem r1Gcd_c (na nb : Bool) (wa wb : List Nat) (ha : wOK wa) (hb : wOK wb) (la : wa.length ≤ 268435456) (lb : wb.length ≤ 268435456) :
    Con Tryz.prog 80 [AG (IC na wa), AG (IC nb wb)] { v := AG (ZC (Int.gcd (zv na wa) (zv nb wb) : Int)) } := by
  have hg : Int.gcd (zv na wa) (zv nb wb) = Nat.gcd (wv wa) (wv wb) := by
    show Nat.gcd (zv na wa).natAbs (zv nb wb).natAbs = _
    rw [zv_abs, zv_abs]
  have hla := wl_len ha
  have hlb := wl_len hb
  have eA : (zv na wa).natAbs = wv wa := zv_abs na wa
  have eB : (zv nb wb).natAbs = wv wb := zv_abs nb wb
  rw [hg];generalize hA : wv wa = A at *;generalize hB : wv wb = B at *;refine con_intro (fn := Tryz.f80) tok Tryz.func80 (by kernel_rfl) rfl ?_
  intro w0 X
  rw [entry_mkE _ _ [(0, AG (IC na wa)), (1, AG (IC nb wb))] rfl rfl];refine AWP_reg_seq tok fun K hK => ?_;refine s_box rfl rfl rfl rfl rfl rfl ?_;refine s_box rfl rfl rfl rfl rfl rfl ?_;refine s_alloc rfl rfl rfl rfl rfl rfl ?_;refine s_end (hK _ ?_); clear hK K;refine AWP_reg_seq tok fun K hK => ?_;refine faQ ?_;refine ldQ ?_;refine s_call rfl rfl (hA ▸ r1trim_c wa ha (by omega)) rfl rfl rfl rfl ?_;refine asQ ?_;refine s_end (hK _ ?_); clear hK K;refine AWP_reg_seq tok fun K hK => ?_;refine faQ ?_;refine ldQ ?_;refine s_call rfl rfl (hB ▸ r1trim_c wb hb (by omega)) rfl rfl rfl rfl ?_;refine asQ ?_;refine s_end (hK _ ?_); clear hK K;refine AWP_seq ?_;refine AWP_reg_seq tok fun K hK => ?_;refine mvQ ?_;refine s_blt rfl (len_w rfl rfl rfl) rfl ?_;refine biQ ?_;refine s_end (hK _ ?_); clear hK K;refine a_cond rfl (fun hc => ?_) (fun hc => ?_)
  · have hc : wof A = [] := by simpa using hc
    have hA0 : A = 0 := wof_nil.1 hc
    refine AWP_reg_seq tok fun K hK => ?_;refine ldQ ?_;refine s_call rfl rfl (r1Abs_c nb wb hb (by omega)) rfl rfl rfl rfl ?_;refine s_store rfl rfl rfl rfl rfl ?_;refine s_end (hK _ ?_); clear hK K;refine AWP_ret ?_
    repeat (with_reducible refine tq_ret ?_)
    exact post_ret (fin_mk (by rfl) (by rfl) (by rw [eB, hA0, Nat.gcd_zero_left]; rfl))
  have hc : wof A ≠ [] := by simpa using hc
  have hA0 : 0 < A := by
    rcases Nat.eq_zero_or_pos A with h | h
    · exact absurd (wof_nil.2 h) hc
    · exact h
  refine AWP_skip ?_;show AWP _ _ _ _ _ _;refine AWP_seq ?_;refine AWP_reg_seq tok fun K hK => ?_;refine mvQ ?_;refine s_blt rfl (len_w rfl rfl rfl) rfl ?_;refine biQ ?_;refine s_end (hK _ ?_); clear hK K;refine a_cond rfl (fun hd => ?_) (fun hd => ?_)
  · have hd : wof B = [] := by simpa using hd
    have hB0 : B = 0 := wof_nil.1 hd
    refine AWP_reg_seq tok fun K hK => ?_;refine ldQ ?_;refine s_call rfl rfl (r1Abs_c na wa ha (by omega)) rfl rfl rfl rfl ?_;refine s_store rfl rfl rfl rfl rfl ?_;refine s_end (hK _ ?_); clear hK K;refine AWP_ret ?_
    repeat (with_reducible refine tq_ret ?_)
    exact post_ret (fin_mk (by rfl) (by rfl) (by rw [eA, hB0, Nat.gcd_zero_right]; rfl))
  have hd : wof B ≠ [] := by simpa using hd
  have hB0 : 0 < B := by
    rcases Nat.eq_zero_or_pos B with h | h
    · exact absurd (wof_nil.2 h) hd
    · exact h
  refine AWP_skip ?_;show AWP _ _ _ _ _ _;refine AWP_reg_seq tok fun K hK => ?_;refine asQ ?_;refine s_end (hK _ ?_); clear hK K
  have hlen : ∀ X, X ≤ A → (wof X).length ≤ 268435456 := fun X h => Nat.le_trans (wl_mono h) (Nat.le_trans hla la)
  have hlen' : ∀ X, X ≤ B → (wof X).length ≤ 268435456 := fun X h => Nat.le_trans (wl_mono h) (Nat.le_trans hlb lb)
  refine a_join (α := Nat × Nat × Nat) (fun p => mk 84 [(4, .ptr 4 0), (5, V1 (dW (wof p.1))), (6, V1 (dW (wof p.2.1))), (7, dI p.2.2)] [(4, some (.box [.d (.lit (.bool false)), .nil]))] []) (fun p => p.1 * 2 ^ p.2.2 = A ∧ p.2.1 * 2 ^ p.2.2 = B ∧ p.2.2 ≤ 8589934592 ∧ ¬ (p.1 % 2 = 0 ∧ p.2.1 % 2 = 0)) ?_ ?_
  · refine AWP_block (a_loop (α := Nat × Nat × Nat) (fun p => mk 84 [(4, .ptr 4 0), (5, V1 (dW (wof p.1))), (6, V1 (dW (wof p.2.1))), (7, dI p.2.2)] [(4, some (.box [.d (.lit (.bool false)), .nil]))] []) (fun p => p.1 * 2 ^ p.2.2 = A ∧ p.2.1 * 2 ^ p.2.2 = B) (fun p => p.1) (A, B, 0) ?_ ⟨by simp, by simp⟩ ?_)
    · exact Wk.mk' ⟨rfl, rfl, rfl, rfl, trivial⟩ ⟨rfl, trivial⟩
    rintro ⟨x, y, t⟩ ⟨i1, i2⟩
    simp only at i1 i2
    show AWP _ _ _ _ _ (mk 84 [(4, .ptr 4 0), (5, V1 (dW (wof x))), (6, V1 (dW (wof y))), (7, dI t)] [(4, some (.box [.d (.lit (.bool false)), .nil]))] [])
    have hx : 0 < x := by
      rcases Nat.eq_zero_or_pos x with h | h
      · rw [h, Nat.zero_mul] at i1; omega
      · exact h
    have hy : 0 < y := by
      rcases Nat.eq_zero_or_pos y with h | h
      · rw [h, Nat.zero_mul] at i2; omega
      · exact h
    have hxA : x ≤ A := by rw [← i1]; exact Nat.le_mul_of_pos_right _ (Nat.two_pow_pos t)
    have hyB : y ≤ B := by rw [← i2]; exact Nat.le_mul_of_pos_right _ (Nat.two_pow_pos t)
    have ht : t ≤ 8589934592 := by
      have h1 : 2 ^ t ≤ A := by rw [← i1]; exact Nat.le_mul_of_pos_left _ hx
      have h2 := wof_lt A
      rw [pow32] at h2
      have h3 : 2 ^ t < 2 ^ (32 * (wof A).length) := by omega
      have := (Nat.pow_lt_pow_iff_right (by decide : 1 < 2)).1 h3
      omega
    refine AWP_seq ?_;refine a_join (α := Bool) (fun c => mk 84 [(4, .ptr 4 0), (5, V1 (dW (wof x))), (6, V1 (dW (wof y))), (7, dI t), (36, dB c)] [(4, some (.box [.d (.lit (.bool false)), .nil]))] []) (fun c => (c = true → x % 2 = 0 ∧ y % 2 = 0) ∧ (c = false → ¬ (x % 2 = 0 ∧ y % 2 = 0))) ?_ ?_
    · refine AWP_reg tok fun K hK => ?_;refine mvQ ?_;refine s_indexAddr rfl (x_wD (i := 0) rfl rfl rfl rfl rfl (wof_pos hx)) rfl ?_;refine ldQ ?_;refine s_bin rfl (e_remU (y := 2) (z := x % 2) (by omega) (wof_even x)) rfl ?_;refine biQ ?_;refine mvQ ?_;refine s_split (fun he => ?_) (fun he => ?_)
      · have he : x % 2 = 0 := by simp at he; omega
        refine mvQ ?_;refine s_indexAddr rfl (x_wD (i := 0) rfl rfl rfl rfl rfl (wof_pos hy)) rfl ?_;refine ldQ ?_;refine s_bin rfl (e_remU (y := 2) (z := y % 2) (by omega) (wof_even y)) rfl ?_;refine biQ ?_;refine piQ ?_;refine s_end (hK _ ?_); clear hK K;refine ⟨_, ⟨fun h => ⟨he, ?_⟩, fun h => ?_⟩, Wk.mk' ⟨rfl, rfl, rfl, rfl, rfl, trivial⟩ ⟨rfl, trivial⟩⟩
        · simp at h; omega
        · simp at h; omega
      · have he : ¬ x % 2 = 0 := by simp at he; omega
        refine s_skip rfl ?_;refine s_skip rfl ?_;refine s_skip rfl ?_;refine s_skip rfl ?_;refine s_skip rfl ?_;refine piQ ?_;refine s_end (hK _ ?_); clear hK K;exact ⟨false, ⟨fun h => (by cases h), fun _ h => he h.1⟩, Wk.mk' ⟨rfl, rfl, rfl, rfl, rfl, trivial⟩ ⟨rfl, trivial⟩⟩
    rintro c ⟨k1, k2⟩
    refine a_cond rfl (fun he => ?_) (fun he => ?_)
    · obtain ⟨ex, ey⟩ := k1 he
      have l1 := hlen x hxA
      have l2 := hlen' y hyB
      refine AWP_skip ?_;show AWP _ _ _ _ _ _;refine AWP_block ?_;refine AWP_reg_seq tok fun K hK => ?_;refine mvQ ?_;refine s_call rfl rfl (r1half_c (wof x) (wof_ok _) (by omega)) rfl rfl rfl rfl ?_;refine asQ ?_;refine s_end (hK _ ?_); clear hK K;refine AWP_reg_seq tok fun K hK => ?_;refine mvQ ?_;refine s_call rfl rfl (r1half_c (wof y) (wof_ok _) (by omega)) rfl rfl rfl rfl ?_;refine asQ ?_;refine s_end (hK _ ?_); clear hK K;refine AWP_reg tok fun K hK => ?_;refine mvQ ?_;refine s_bin rfl (e_add (c := ((t + 1 : Nat) : Int)) (by omega) (by omega)) rfl ?_;refine asQ ?_;refine s_end (hK _ ?_); clear hK K;refine ⟨(x / 2, y / 2, t + 1), by simp only; omega, ⟨?_, ?_⟩, Wk.mk' ⟨rfl, dW_eq (by rw [wv_wof]), dW_eq (by rw [wv_wof]), rfl, trivial⟩ ⟨rfl, trivial⟩⟩
      · rw [← i1, Nat.pow_succ]
        have : x = 2 * (x / 2) := by omega
        conv => rhs; rw [this]
        simp only; grind
      · rw [← i2, Nat.pow_succ]
        have : y = 2 * (y / 2) := by omega
        conv => rhs; rw [this]
        simp only; grind
    · refine AWP_exit ?_;exact ⟨(x, y, t), ⟨i1, i2, ht, k2 he⟩, Wk.mk' ⟨rfl, rfl, rfl, rfl, trivial⟩ ⟨rfl, trivial⟩⟩
  rintro ⟨x0, y0, t⟩ ⟨i1, i2, ht, hne⟩
  simp only at i1 i2 ht hne
  have hG : Nat.gcd x0 y0 * 2 ^ t = Nat.gcd A B := by rw [← i1, ← i2, Nat.gcd_mul_right]
  have hx0 : 0 < x0 := by
    rcases Nat.eq_zero_or_pos x0 with h | h
    · rw [h, Nat.zero_mul] at i1; omega
    · exact h
  have hy0 : 0 < y0 := by
    rcases Nat.eq_zero_or_pos y0 with h | h
    · rw [h, Nat.zero_mul] at i2; omega
    · exact h
  have hxA : x0 ≤ A := by rw [← i1]; exact Nat.le_mul_of_pos_right _ (Nat.two_pow_pos t)
  have hyB : y0 ≤ B := by rw [← i2]; exact Nat.le_mul_of_pos_right _ (Nat.two_pow_pos t)
  show AWP _ _ _ _ _ (mk 84 [(4, .ptr 4 0), (5, V1 (dW (wof x0))), (6, V1 (dW (wof y0))), (7, dI t)] [(4, some (.box [.d (.lit (.bool false)), .nil]))] []);refine a_join (α := Unit) (fun _ => mk 84 [(4, .ptr 4 0), (5, V1 (dW (wof (Nat.gcd x0 y0)))), (7, dI t)] [(4, some (.box [.d (.lit (.bool false)), .nil]))] []) (fun _ => True) ?_ ?_
  · refine AWP_block (a_loop (α := Nat × Nat) (fun p => mk 84 [(4, .ptr 4 0), (5, V1 (dW (wof p.1))), (6, V1 (dW (wof p.2))), (7, dI t)] [(4, some (.box [.d (.lit (.bool false)), .nil]))] []) (fun p => 0 < p.1 ∧ 0 < p.2 ∧ p.1 ≤ A ∧ p.2 ≤ B ∧ Nat.gcd p.1 p.2 = Nat.gcd x0 y0 ∧ ¬ (p.1 % 2 = 0 ∧ p.2 % 2 = 0)) (fun p => p.1 + p.2) (x0, y0) ?_ ⟨hx0, hy0, hxA, hyB, rfl, hne⟩ ?_)
    · exact Wk.mk' ⟨rfl, rfl, rfl, rfl, trivial⟩ ⟨rfl, trivial⟩
    rintro ⟨x, y⟩ ⟨px, py, lx, ly, hgc, hnb⟩
    simp only at px py lx ly hgc hnb
    show AWP _ _ _ _ _ (mk 84 [(4, .ptr 4 0), (5, V1 (dW (wof x))), (6, V1 (dW (wof y))), (7, dI t)] [(4, some (.box [.d (.lit (.bool false)), .nil]))] [])
    have l1 := hlen x lx
    have l2 := hlen' y ly
    have hcx : ncmp (wv (wof x)) (wv (wof y)) = ncmp x y := by rw [wv_wof, wv_wof]
    refine AWP_seq ?_;refine AWP_reg_seq tok fun K hK => ?_;refine mvQ ?_;refine mvQ ?_;refine s_call rfl rfl (r1cmp_c (wof x) (wof y) (wof_ok _) (wof_ok _) (wof_top _) (wof_top _) (by omega) (by omega)) rfl rfl rfl rfl ?_;refine biQ ?_;refine s_end (hK _ ?_); clear hK K;refine a_cond rfl (fun he => ?_) (fun he => ?_)
    · have he : x ≠ y := by
        rw [hcx] at he
        intro h
        rw [ncmp_eq.2 h] at he; simp at he
      refine AWP_skip ?_;show AWP _ _ _ _ _ _;refine AWP_block ?_;refine AWP_block ?_;refine a_keep [(4, .ptr 4 0), (5, V1 (dW (wof x))), (6, V1 (dW (wof y))), (7, dI t)] [(4, some (.box [.d (.lit (.bool false)), .nil]))] ⟨rfl, rfl, rfl, rfl, trivial⟩ ⟨rfl, trivial⟩ ?_;refine AWP_reg_seq tok fun K hK => ?_;refine mvQ ?_;refine s_indexAddr rfl (x_wD (i := 0) rfl rfl rfl rfl rfl (wof_pos px)) rfl ?_;refine ldQ ?_;refine s_bin rfl (e_remU (y := 2) (z := x % 2) (by omega) (wof_even x)) rfl ?_;refine biQ ?_;refine asQ ?_;refine s_end (hK _ ?_); clear hK K;refine a_cond rfl (fun hev => ?_) (fun hev => ?_)
      · have hev : x % 2 = 0 := by simp at hev; omega
        have hyo : y % 2 = 1 := by have : ¬ y % 2 = 0 := fun h => hnb ⟨hev, h⟩; omega
        refine AWP_reg tok fun K hK => ?_;refine mvQ ?_;refine s_call rfl rfl (r1half_c (wof x) (wof_ok _) (by omega)) rfl rfl rfl rfl ?_;refine asQ ?_;refine s_end (hK _ ?_); clear hK K;exact ⟨(x / 2, y), by simp only; omega, ⟨by simp only; omega, py, by simp only; omega, ly, by rw [← hgc]; exact gcd_half hev hyo, by simp only; omega⟩, Wk.mk' ⟨rfl, dW_eq (by rw [wv_wof]), rfl, rfl, trivial⟩ ⟨rfl, trivial⟩⟩
      have hev : x % 2 = 1 := by simp at hev; omega
      refine AWP_reg_seq tok fun K hK => ?_;refine mvQ ?_;refine s_indexAddr rfl (x_wD (i := 0) rfl rfl rfl rfl rfl (wof_pos py)) rfl ?_;refine ldQ ?_;refine s_bin rfl (e_remU (y := 2) (z := y % 2) (by omega) (wof_even y)) rfl ?_;refine biQ ?_;refine asQ ?_;refine s_end (hK _ ?_); clear hK K;refine a_cond rfl (fun hod => ?_) (fun hod => ?_)
      · have hod : y % 2 = 0 := by simp at hod; omega
        refine AWP_reg tok fun K hK => ?_;refine mvQ ?_;refine s_call rfl rfl (r1half_c (wof y) (wof_ok _) (by omega)) rfl rfl rfl rfl ?_;refine asQ ?_;refine s_end (hK _ ?_); clear hK K;exact ⟨(x, y / 2), by simp only; omega, ⟨px, by simp only; omega, lx, by simp only; omega, by rw [← hgc, Nat.gcd_comm x, Nat.gcd_comm x]; exact gcd_half hod hev, by simp only; omega⟩, Wk.mk' ⟨rfl, rfl, dW_eq (by rw [wv_wof]), rfl, trivial⟩ ⟨rfl, trivial⟩⟩
      have hod : y % 2 = 1 := by simp at hod; omega
      refine AWP_reg_seq tok fun K hK => ?_;refine mvQ ?_;refine mvQ ?_;refine s_call rfl rfl (r1cmp_c (wof x) (wof y) (wof_ok _) (wof_ok _) (wof_top _) (wof_top _) (by omega) (by omega)) rfl rfl rfl rfl ?_;refine biQ ?_;refine asQ ?_;refine s_end (hK _ ?_); clear hK K;refine a_cond rfl (fun hgt => ?_) (fun hgt => ?_)
      · have hgt : y < x := by
          rw [hcx] at hgt;exact ncmp_gt.1 (of_decide_eq_true hgt)
        refine AWP_reg tok fun K hK => ?_;refine mvQ ?_;refine mvQ ?_;refine s_call rfl rfl (r1sub_c (wof x) (wof y) (wof_ok _) (wof_ok _) (by omega) (wl_mono (by omega)) (by rw [wv_wof, wv_wof]; omega)) rfl rfl rfl rfl ?_;refine asQ ?_;refine s_end (hK _ ?_); clear hK K;exact ⟨(x - y, y), by simp only; omega, ⟨by simp only; omega, py, by simp only; omega, ly, by rw [← hgc]; exact Nat.gcd_sub_self_left (by omega), by simp only; omega⟩, Wk.mk' ⟨rfl, dW_eq (by rw [wv_wof, wv_wof]), rfl, rfl, trivial⟩ ⟨rfl, trivial⟩⟩
      · have hgt : x < y := by
          rw [hcx] at hgt
          have := mt ncmp_gt.2 (of_decide_eq_false hgt)
          omega
        refine AWP_reg tok fun K hK => ?_;refine mvQ ?_;refine mvQ ?_;refine s_call rfl rfl (r1sub_c (wof y) (wof x) (wof_ok _) (wof_ok _) (by omega) (wl_mono (by omega)) (by rw [wv_wof, wv_wof]; omega)) rfl rfl rfl rfl ?_;refine asQ ?_;refine s_end (hK _ ?_); clear hK K;exact ⟨(x, y - x), by simp only; omega, ⟨px, by simp only; omega, lx, by simp only; omega, by rw [← hgc]; exact Nat.gcd_sub_self_right (by omega), by simp only; omega⟩, Wk.mk' ⟨rfl, rfl, dW_eq (by rw [wv_wof, wv_wof]), rfl, trivial⟩ ⟨rfl, trivial⟩⟩
    · have he : x = y := by
        rw [hcx] at he
        simp at he; exact ncmp_eq.1 he
      subst he
      rw [Nat.gcd_self] at hgc;refine AWP_exit ?_;exact ⟨(), trivial, Wk.mk' ⟨rfl, by rw [← hgc]; rfl, rfl, trivial⟩ ⟨rfl, trivial⟩⟩
  rintro - -
  have hgle : Nat.gcd A B ≤ A := Nat.gcd_le_left _ hA0
  generalize hgg : Nat.gcd x0 y0 = g at *;show AWP _ _ _ _ _ (mk 84 [(4, .ptr 4 0), (5, V1 (dW (wof g))), (7, dI t)] [(4, some (.box [.d (.lit (.bool false)), .nil]))] []);refine AWP_seq ?_;refine AWP_reg_seq tok fun K hK => ?_;refine asQ ?_;refine s_end (hK _ ?_); clear hK K;refine AWP_block (a_loop (α := Nat) (fun i => mk 84 [(4, .ptr 4 0), (5, V1 (dW (wof (g * 2 ^ i)))), (7, dI t), (8, dI i)] [(4, some (.box [.d (.lit (.bool false)), .nil]))] []) (fun i => i ≤ t) (fun i => t - i) 0 ?_ (Nat.zero_le _) ?_)
  · exact Wk.mk' ⟨rfl, by simp; rfl, rfl, rfl, trivial⟩ ⟨rfl, trivial⟩
  intro i hi
  refine AWP_seq ?_;refine AWP_reg_seq tok fun K hK => ?_;refine mvQ ?_;refine mvQ ?_;refine biQ ?_;refine s_end (hK _ ?_); clear hK K;refine a_cond rfl (fun he => ?_) (fun he => ?_)
  · have he : i < t := by simp at he; omega
    have hle : g * 2 ^ i ≤ A := by
      have : g * 2 ^ i ≤ g * 2 ^ t := Nat.mul_le_mul_left _ (Nat.pow_le_pow_right (by decide) hi)
      omega
    have l1 := hlen _ hle
    refine AWP_skip ?_;show AWP _ _ _ _ _ _;refine AWP_seq ?_;refine AWP_block ?_;refine AWP_reg tok fun K hK => ?_;refine mvQ ?_;refine mvQ ?_;refine s_call rfl rfl (r1add_c (wof (g * 2 ^ i)) (wof (g * 2 ^ i)) (wof_ok _) (wof_ok _) (by omega) (by omega)) rfl rfl rfl rfl ?_;refine asQ ?_;refine s_end (hK _ ?_); clear hK K;show AWP _ _ _ _ _ _;refine AWP_reg tok fun K hK => ?_;refine mvQ ?_;refine s_bin rfl (e_add (c := ((i + 1 : Nat) : Int)) (by omega) (by omega)) rfl ?_;refine asQ ?_;refine s_end (hK _ ?_); clear hK K;refine ⟨i + 1, by omega, he, Wk.mk' ⟨rfl, ?_, rfl, rfl, trivial⟩ ⟨rfl, trivial⟩⟩;refine dW_eq ?_;rw [wv_wof, Nat.pow_succ]
    congr 1; grind
  · have he : i = t := by simp at he; omega
    subst he
    rw [hG] at *;refine AWP_exit ?_;show AWP _ _ _ _ _ _;refine AWP_reg_seq tok fun K hK => ?_;refine mvQ ?_;refine s_build rfl rfl rfl ?_;refine s_store rfl rfl rfl rfl rfl ?_;refine s_end (hK _ ?_); clear hK K;refine AWP_ret ?_
    repeat (with_reducible refine tq_ret ?_)
    exact post_ret (fin_mk (by rfl) (by rfl) (by rw [ZC_nat]; rfl))
end Go.Proofs.YtgopibpkgmafiaaGreat

/- The reference's rationals. No condition. -/
namespace Go.Proofs.YtgopibpkgmafiaaGreat
attribute [local irreducible] lexA

theorem r1AddZ_c (x y : Int) (hx : zl x ≤ 536870912) (hy : zl y ≤ 536870912) : Con Tryz.prog 76 [AG (ZC x), AG (ZC y)] { v := AG (ZC (x + y)) } := by
  have := r1Add_c (decide (x < 0)) (decide (y < 0)) (wof x.natAbs) (wof y.natAbs) (wof_ok _) (wof_ok _) hx hy
  rw [zv_ZC, zv_ZC] at this; exact this
theorem r1MulZ_c (x y : Int) (hx : zl x ≤ 500000000) (hy : zl y ≤ 500000000) : Con Tryz.prog 63 [AG (ZC x), AG (ZC y)] { v := AG (ZC (x * y)) } := by
  have := r1Mul_c (decide (x < 0)) (decide (y < 0)) (wof x.natAbs) (wof y.natAbs) (wof_ok _) (wof_ok _) hx hy
  rw [zv_ZC, zv_ZC] at this; exact this
theorem r1DivMod_q (na nb : Bool) (wa wb : List Nat) (x y q : Int) (ha : wOK wa) (hb : wOK wb) (la : wa.length ≤ 268435456) (lb : wb.length ≤ 268435456) (hx : zv na wa = x) (hy : zv nb wb = y) (h0 : y ≠ 0) (hq : x / y = q) :
    Con Tryz.prog 104 [AG (IC na wa), AG (IC nb wb)] { v := .tup [.agg (ZC q), .agg (ZC (x % y)), .one (.d (lI 0))] } := by
  subst hx hy hq
  exact r1DivMod_c na nb wa wb ha hb la lb h0

theorem r2One_c : Con Tryz.prog 78 [] { v := AG (ZC 1) } := by
  refine con_intro (fn := Tryz.f78) tok Tryz.func78 (by kernel_rfl) rfl ?_
  intro w0 X
  rw [entry_mkE _ _ [] rfl rfl];refine AWP_reg_seq tok fun K hK => ?_;refine s_alloc rfl rfl rfl rfl rfl rfl ?_;refine s_end (hK _ ?_); clear hK K;refine AWP_reg_seq tok fun K hK => ?_;refine s_call rfl rfl (r1Of_c 1 (by unfold I64; omega)) rfl rfl rfl rfl ?_;refine s_store rfl rfl rfl rfl rfl ?_;refine s_end (hK _ ?_); clear hK K;refine AWP_ret ?_
  repeat (with_reducible refine tq_ret ?_)
  exact post_ret (fin_mk (by rfl) (by rfl) (by rfl))

theorem r2part_q (na nb : Bool) (wa wb : List Nat) (x y q : Int) (ha : wOK wa) (hb : wOK wb) (la : wa.length ≤ 268435456) (lb : wb.length ≤ 268435456) (hx : zv na wa = x) (hy : zv nb wb = y) (h0 : y ≠ 0) (hq : x / y = q) :
    Con Tryz.prog 81 [AG (IC na wa), AG (IC nb wb)] { v := AG (ZC q) } := by
  refine con_intro (fn := Tryz.f81) tok Tryz.func81 (by kernel_rfl) rfl ?_
  intro w0 X
  rw [entry_mkE _ _ [(0, AG (IC na wa)), (1, AG (IC nb wb))] rfl rfl];refine AWP_reg_seq tok fun K hK => ?_;refine s_box rfl rfl rfl rfl rfl rfl ?_;refine s_box rfl rfl rfl rfl rfl rfl ?_;refine s_alloc rfl rfl rfl rfl rfl rfl ?_;refine s_end (hK _ ?_); clear hK K;refine AWP_reg_seq tok fun K hK => ?_;refine ldQ ?_;refine ldQ ?_;refine s_call rfl rfl (r1DivMod_q na nb wa wb x y q ha hb la lb hx hy h0 hq) rfl rfl rfl rfl ?_;refine mvQ ?_;refine s_extract rfl rfl rfl ?_;refine s_extract rfl rfl rfl ?_;refine s_extract rfl rfl rfl ?_;refine s_alloc rfl rfl rfl rfl rfl rfl ?_;refine s_alloc rfl rfl rfl rfl rfl rfl ?_;refine s_store rfl rfl rfl rfl rfl ?_;refine s_store rfl rfl rfl rfl rfl ?_;refine asQ ?_;refine s_end (hK _ ?_); clear hK K;refine AWP_reg_seq tok fun K hK => ?_;refine ldQ ?_;refine s_store rfl rfl rfl rfl rfl ?_;refine s_end (hK _ ?_); clear hK K;refine AWP_ret ?_
  repeat (with_reducible refine tq_ret ?_)
  exact post_ret (fin_mk (by rfl) (by rfl) (by rfl))

theorem r2New_c (na nb : Bool) (wa wb : List Nat) (ha : wOK wa) (hb : wOK wb) (la : wa.length ≤ 268435456) (lb : wb.length ≤ 268435456) :
    Con Tryz.prog 47 [AG (IC na wa), AG (IC nb wb)] { v := AG (QZ (Rat.divInt (zv na wa) (zv nb wb))) } := by
  have lza : zl (zv na wa) ≤ 268435456 := by unfold zl; rw [zv_abs]; exact Nat.le_trans (wl_len ha) la
  have lzb : zl (zv nb wb) ≤ 268435456 := by unfold zl; rw [zv_abs]; exact Nat.le_trans (wl_len hb) lb
  generalize hx : zv na wa = x at *;generalize hy : zv nb wb = y at *;refine con_intro (fn := Tryz.f47) tok Tryz.func47 (by kernel_rfl) rfl ?_
  intro w0 X
  rw [entry_mkE _ _ [(0, AG (IC na wa)), (1, AG (IC nb wb))] rfl rfl];refine AWP_reg_seq tok fun K hK => ?_;refine s_box rfl rfl rfl rfl rfl rfl ?_;refine s_box rfl rfl rfl rfl rfl rfl ?_;refine s_alloc rfl rfl rfl rfl rfl rfl ?_;refine s_end (hK _ ?_); clear hK K;refine AWP_seq ?_;refine a_join (α := Bool) (fun c => mk 34 [(2, .ptr 2 0), (3, .ptr 3 0), (4, .ptr 4 0), (13, dB c)] [(2, some (.box (IC na wa))), (3, some (.box (IC nb wb))), (4, some (.box [.d (.lit (.bool false)), .nil, .d (.lit (.bool false)), .nil]))] []) (fun c => (c = true → x = 0 ∨ y = 0) ∧ (c = false → x ≠ 0 ∧ y ≠ 0)) ?_ ?_
  · refine AWP_reg tok fun K hK => ?_;refine ldQ ?_;refine s_call rfl rfl (hx ▸ r1Sign_c na wa ha (by omega)) rfl rfl rfl rfl ?_;refine biQ ?_;refine mvQ ?_;refine s_split (fun he => ?_) (fun he => ?_)
    · have he : x = 0 := Int.sign_eq_zero_iff_zero.1 (by simpa using he)
      refine s_skip rfl ?_;refine s_skip rfl ?_;refine s_skip rfl ?_;refine piQ ?_;refine s_end (hK _ ?_); clear hK K;exact ⟨true, ⟨fun _ => Or.inl he, fun h => (by cases h)⟩, Wk.mk' ⟨rfl, rfl, rfl, rfl, trivial⟩ ⟨rfl, rfl, rfl, trivial⟩⟩
    · have he : x ≠ 0 := by intro h; subst h; simp at he
      refine ldQ ?_;refine s_call rfl rfl (hy ▸ r1Sign_c nb wb hb (by omega)) rfl rfl rfl rfl ?_;refine biQ ?_;refine piQ ?_;refine s_end (hK _ ?_); clear hK K;refine ⟨_, ⟨fun h => ?_, fun h => ?_⟩, Wk.mk' ⟨rfl, rfl, rfl, rfl, trivial⟩ ⟨rfl, rfl, rfl, trivial⟩⟩
      · exact Or.inr (Int.sign_eq_zero_iff_zero.1 (by simpa using h))
      · exact ⟨he, by intro h'; subst h'; simp at h⟩
  rintro c ⟨k1, k2⟩
  refine a_cond rfl (fun hc => ?_) (fun hc => ?_)
  · have h0 : Rat.divInt x y = 0 := by
      rcases k1 hc with h | h
      · rw [h, Rat.zero_divInt]
      · rw [h, Rat.divInt_zero]
    refine AWP_reg_seq tok fun K hK => ?_;refine s_call rfl rfl (r1Of_c 0 (by unfold I64; omega)) rfl rfl rfl rfl ?_;refine s_call rfl rfl (r2One_c) rfl rfl rfl rfl ?_;refine s_build rfl rfl rfl ?_;refine s_store rfl rfl rfl rfl rfl ?_;refine s_end (hK _ ?_); clear hK K;refine AWP_ret ?_
    repeat (with_reducible refine tq_ret ?_)
    exact post_ret (fin_mk (by rfl) (by rfl) (by rw [h0]; rfl))
  obtain ⟨hx0, h0⟩ := k2 hc
  refine AWP_skip ?_;show AWP _ _ _ _ _ _;refine a_join (α := (Bool × List Nat) × (Bool × List Nat)) (fun p => mk 34 [(2, .ptr 2 0), (3, .ptr 3 0), (4, .ptr 4 0)] [(2, some (.box (IC p.1.1 p.1.2))), (3, some (.box (IC p.2.1 p.2.2))), (4, some (.box [.d (.lit (.bool false)), .nil, .d (.lit (.bool false)), .nil]))] []) (fun p => wOK p.1.2 ∧ wOK p.2.2 ∧ p.1.2.length ≤ 268435456 ∧ p.2.2.length ≤ 268435456 ∧ zv p.1.1 p.1.2 = y.sign * x ∧ zv p.2.1 p.2.2 = (y.natAbs : Int)) ?_ ?_
  · refine AWP_reg_seq tok fun K hK => ?_;refine ldQ ?_;refine s_call rfl rfl (hy ▸ r1Sign_c nb wb hb (by omega)) rfl rfl rfl rfl ?_;refine biQ ?_;refine s_end (hK _ ?_); clear hK K;refine a_cond rfl (fun hd => ?_) (fun hd => ?_)
    · have hd : y < 0 := by
        have h1 : y.sign < 0 := of_decide_eq_true hd
        rcases Int.lt_trichotomy y 0 with h | h | h
        · exact h
        · exact absurd h h0
        · rw [Int.sign_eq_one_of_pos h] at h1; omega
      refine AWP_reg_seq tok fun K hK => ?_;refine ldQ ?_;refine s_call rfl rfl (hx ▸ r1Neg_c na wa ha (by omega)) rfl rfl rfl rfl ?_;refine s_store rfl rfl rfl rfl rfl ?_;refine s_end (hK _ ?_); clear hK K;show AWP _ _ _ _ _ _;refine AWP_reg tok fun K hK => ?_;refine ldQ ?_;refine s_call rfl rfl (hy ▸ r1Neg_c nb wb hb (by omega)) rfl rfl rfl rfl ?_;refine s_store rfl rfl rfl rfl rfl ?_;refine s_end (hK _ ?_); clear hK K;refine ⟨((decide (-x < 0), wof (-x).natAbs), (decide (-y < 0), wof (-y).natAbs)), ⟨wof_ok _, wof_ok _, ?_, ?_, ?_, ?_⟩, Wk.mk' ⟨rfl, rfl, rfl, trivial⟩ ⟨rfl, rfl, rfl, trivial⟩⟩
      · show zl (-x) ≤ _; rw [zl_neg]; exact lza
      · show zl (-y) ≤ _; rw [zl_neg]; exact lzb
      · simp only; rw [zv_ZC, Int.sign_eq_neg_one_of_neg hd]; omega
      · simp only; rw [zv_ZC]; omega
    · have hd : 0 < y := by
        have h1 : ¬ y.sign < 0 := of_decide_eq_false hd
        rcases Int.lt_trichotomy y 0 with h | h | h
        · rw [Int.sign_eq_neg_one_of_neg h] at h1; omega
        · exact absurd h h0
        · exact h
      refine AWP_skip ?_;refine ⟨((na, wa), (nb, wb)), ⟨ha, hb, la, lb, ?_, ?_⟩, Wk.mk' ⟨rfl, rfl, rfl, trivial⟩ ⟨rfl, rfl, rfl, trivial⟩⟩
      · simp only; rw [hx, Int.sign_eq_one_of_pos hd]; omega
      · simp only; rw [hy]; omega
  rintro ⟨⟨na', wa'⟩, ⟨nb', wb'⟩⟩ ⟨oa, ob, ka, kb, va, vb⟩
  simp only at oa ob ka kb va vb
  show AWP _ _ _ _ _ (mk 34 [(2, .ptr 2 0), (3, .ptr 3 0), (4, .ptr 4 0)] [(2, some (.box (IC na' wa'))), (3, some (.box (IC nb' wb'))), (4, some (.box [.d (.lit (.bool false)), .nil, .d (.lit (.bool false)), .nil]))] [])
  have hg : (Int.gcd (zv na' wa') (zv nb' wb') : Int) = (Int.gcd x y : Int) := by
    rw [va, vb]
    show ((Nat.gcd (y.sign * x).natAbs (y.natAbs : Int).natAbs : Nat) : Int) = _
    rw [Int.natAbs_mul, Int.natAbs_natCast]
    have : y.sign.natAbs = 1 := by
      rcases Int.lt_trichotomy y 0 with h | h | h
      · rw [Int.sign_eq_neg_one_of_neg h]; rfl
      · exact absurd h h0
      · rw [Int.sign_eq_one_of_pos h]; rfl
    rw [this, Nat.one_mul]; rfl
  have hgn : (Int.gcd x y : Int) ≠ 0 := by have := gcd_pos (x := x) h0; omega
  have hgl : (wof (Int.gcd x y : Int).natAbs).length ≤ 268435456 := Nat.le_trans (zl_gcd x h0) lzb
  refine AWP_reg_seq tok fun K hK => ?_;refine ldQ ?_;refine ldQ ?_;refine s_call rfl rfl (hg ▸ r1Gcd_c na' nb' wa' wb' oa ob ka kb) rfl rfl rfl rfl ?_;refine s_alloc rfl rfl rfl rfl rfl rfl ?_;refine s_store rfl rfl rfl rfl rfl ?_;refine s_end (hK _ ?_); clear hK K;refine a_keep [(2, .ptr 2 0), (3, .ptr 3 0), (4, .ptr 4 0), (5, .ptr 5 0)] [(2, some (.box (IC na' wa'))), (3, some (.box (IC nb' wb'))), (4, some (.box [.d (.lit (.bool false)), .nil, .d (.lit (.bool false)), .nil])), (5, some (.box (ZC (Int.gcd x y : Int))))] ⟨rfl, rfl, rfl, rfl, trivial⟩ ⟨rfl, rfl, rfl, rfl, trivial⟩ ?_;refine a_draw tok mixed (A := [[], [], [], [], [], [0, 1], [0, 1, 3, 4], []]) (an := [{}, {}, {}, { c := [29] }, { c := [29] }, {}, {}, {}]) rfl (by kernel_rfl) rfl fun K hK => ?_;refine ldQ ?_;refine ldQ ?_;refine s_call rfl rfl (r2part_q na' (decide ((Int.gcd x y : Int) < 0)) wa' (wof (Int.gcd x y : Int).natAbs) (y.sign * x) (Int.gcd x y : Int) (Rat.divInt x y).num oa (wof_ok _) ka hgl va (zv_ZC _) hgn (num_gcd x y).symm) rfl rfl rfl rfl ?_;refine ldQ ?_;refine ldQ ?_;refine s_call rfl rfl (r2part_q nb' (decide ((Int.gcd x y : Int) < 0)) wb' (wof (Int.gcd x y : Int).natAbs) (y.natAbs : Int) (Int.gcd x y : Int) ((Rat.divInt x y).den : Int) ob (wof_ok _) kb hgl vb (zv_ZC _) hgn (den_gcd h0).symm) rfl rfl rfl rfl ?_;refine s_build rfl rfl rfl ?_;refine s_store rfl rfl rfl rfl rfl ?_;refine s_end (hK _ ?_); clear hK K;refine AWP_ret ?_
  repeat (with_reducible refine tq_ret ?_)
  exact post_ret (fin_mk (by rfl) (by rfl) (by rfl))

theorem r2Of_c (n d : Int) (hn : I64 n) (hd : I64 d) : Con Tryz.prog 25 [dI n, dI d] { v := AG (QZ (Rat.divInt n d)) } := by
  have h1 := zl_i64 hn
  have h2 := zl_i64 hd
  have hz : Rat.divInt (zv (decide (n < 0)) (wof n.natAbs)) (zv (decide (d < 0)) (wof d.natAbs)) = Rat.divInt n d := by rw [zv_ZC, zv_ZC]
  refine con_intro (fn := Tryz.f25) tok Tryz.func25 (by kernel_rfl) rfl ?_
  intro w0 X
  rw [entry_mkE _ _ [(0, dI n), (1, dI d)] rfl rfl];refine AWP_reg_seq tok fun K hK => ?_;refine s_alloc rfl rfl rfl rfl rfl rfl ?_;refine s_end (hK _ ?_); clear hK K;refine AWP_reg_seq tok fun K hK => ?_;refine mvQ ?_;refine s_call rfl rfl (r1Of_c n hn) rfl rfl rfl rfl ?_;refine mvQ ?_;refine s_call rfl rfl (r1Of_c d hd) rfl rfl rfl rfl ?_;refine s_call rfl rfl (hz ▸ r2New_c (decide (n < 0)) (decide (d < 0)) (wof n.natAbs) (wof d.natAbs) (wof_ok _) (wof_ok _) (Nat.le_trans h1 (by decide)) (Nat.le_trans h2 (by decide))) rfl rfl rfl rfl ?_;refine s_store rfl rfl rfl rfl rfl ?_;refine s_end (hK _ ?_); clear hK K;refine AWP_ret ?_
  repeat (with_reducible refine tq_ret ?_)
  exact post_ret (fin_mk (by rfl) (by rfl) (by rfl))

end Go.Proofs.YtgopibpkgmafiaaGreat

/- Rotations as the program computes them. No condition. -/
namespace Go.Proofs.YtgopibpkgmafiaaGreat
attribute [local irreducible] lexA

end Go.Proofs.YtgopibpkgmafiaaGreat

/- The reference's rotations. No condition. -/
namespace Go.Proofs.YtgopibpkgmafiaaGreat
end Go.Proofs.YtgopibpkgmafiaaGreat

/- Data of the graph layer: rationals, rotations, links, positions as they stand. No condition. -/
namespace Go.Proofs.YtgopibpkgmafiaaGreat

structure RW where
  np : Bool
  wp : List Nat
  nq : Bool
  wq : List Nat
  deriving DecidableEq
def RW.dc (r : RW) : List DC := [.lit (.bool r.np), dW r.wp, .lit (.bool r.nq), dW r.wq]
abbrev RW.cs (r : RW) : List SC := QC r.np r.wp r.nq r.wq
structure RW.OK (k : Nat) (r : RW) : Prop where
  op : wOK r.wp
  oq : wOK r.wq
  lp : r.wp.length ≤ k
  lq : r.wq.length ≤ k
def RW.p (r : RW) : Int := zv r.np r.wp
def RW.q (r : RW) : Int := zv r.nq r.wq
def RW.v (r : RW) : Rat := qv r.np r.wp r.nq r.wq
def pzW (x y : Int) : RW := ⟨decide (x < 0), wof x.natAbs, decide (y < 0), wof y.natAbs⟩
def qzW (q : Rat) : RW := pzW q.num q.den
theorem qzW_v (q : Rat) : (qzW q).v = q := qv_QZ q
theorem pzW_ok {x y : Int} {k : Nat} (hx : zl x ≤ k) (hy : zl y ≤ k) : (pzW x y).OK k := ⟨wof_ok _, wof_ok _, hx, hy⟩
theorem qzW_ok {q : Rat} {k : Nat} (h : ql q ≤ k) : (qzW q).OK k := pzW_ok (ql_num_le h) (ql_den_le h)
theorem RW.OK.mono {r : RW} {k m : Nat} (h : r.OK k) (hk : Nat.ble k m = true) : r.OK m := ⟨h.op, h.oq, le_d h.lp hk, le_d h.lq hk⟩
theorem RW.OK.ql {r : RW} {k : Nat} (h : r.OK k) (hk : Nat.ble 1 k = true) : ql r.v ≤ k := ql_qv h.op h.oq h.lp h.lq (Nat.le_of_ble_eq_true hk)

structure LK where
  f : Int
  t : Int
  x : Int
  y : Int
  w : Int
  deriving DecidableEq
def LK.dc (l : LK) : List DC := [lI l.f, lI l.t, lI l.x, lI l.y, lI l.w]
structure SP where
  x : RW
  y : RW
  deriving DecidableEq
def SP.dc (s : SP) : List DC := [.lit (.bool s.x.np), dW s.x.wp, .lit (.bool s.x.nq), dW s.x.wq, .lit (.bool s.y.np), dW s.y.wp, .lit (.bool s.y.nq), dW s.y.wq]
def SP.cs (s : SP) : List SC := [.d (.lit (.bool s.x.np)), .d (dW s.x.wp), .d (.lit (.bool s.x.nq)), .d (dW s.x.wq), .d (.lit (.bool s.y.np)), .d (dW s.y.wp), .d (.lit (.bool s.y.nq)), .d (dW s.y.wq)]
structure PT where
  x : Int
  y : Int
  deriving DecidableEq
def PT.dc (p : PT) : List DC := [lI p.x, lI p.y]
def dRs (l : List RW) : DC := .sl (l.map RW.dc)
def dLs (l : List LK) : DC := .sl (l.map LK.dc)
def cI (n : Int) : List DC := [lI n]
def dIs (l : List Int) : DC := .sl (l.map cI)
def cM (l : List RW) : List DC := [dRs l]
def dMs (m : List (List RW)) : DC := .sl (m.map cM)
structure GR where
  nodes : List RW
  links : List LK
def GR.cs (g : GR) : List SC := [.d (dRs g.nodes), .d (dLs g.links)]

section
variable {T : Tab} {t e : TypeId} {ti ei : TI} {α : Type}
theorem x_m {k : IntKind} {n : Int} {i : Nat} {l : List α} (f : α → List DC) (h1 : T t = some ti) (h2 : ti.und = .slice e) (h3 : T e = some ei) (hn : n = (i : Int)) (hi : i < l.length) (hl : (f l[i]).length = ei.size) :
    effIndexAddr T t (V1 (.sl (l.map f))) (V1 (.lit (.int k n))) = .set (.pd (f l[i])) :=
  x_d h1 h2 h3 hn (by rw [List.getElem?_map, List.getElem?_eq_getElem hi]; rfl) hl
theorem len_m {S : Objs} {l : List α} (f : α → List DC) (h1 : T t = some ti) (h2 : ti.und = .slice e) : effCall T ⟨[], S, []⟩ (.builtin .len) [V1 (.sl (l.map f))] [t] = .set (dI l.length) :=
  len_d h1 h2 (by simp)
end
theorem take_eq_succ {α : Type} {a b : List α} {i : Nat} (ha : i < a.length) (hb : i < b.length) (h : a.take i = b.take i) (he : a[i] = b[i]) : a.take (i + 1) = b.take (i + 1) := by
  rw [List.take_succ_eq_append_getElem ha, List.take_succ_eq_append_getElem hb, h, he]
theorem take_eq_all {α : Type} {a b : List α} (hl : a.length = b.length) (h : a.take a.length = b.take a.length) : a = b := by
  rwa [List.take_of_length_le (Nat.le_refl _), List.take_of_length_le (by omega)] at h
theorem ne_of_get {α : Type} {a b : List α} {i : Nat} (ha : i < a.length) (hb : i < b.length) (he : a[i] ≠ b[i]) : a ≠ b := by
  intro h; subst h; exact he rfl
end Go.Proofs.YtgopibpkgmafiaaGreat

/- What is read at this program's types. No condition. -/
namespace Go.Proofs.YtgopibpkgmafiaaGreat
open Go.RowKit

def RW.W (r : RW) : Prop := wOK r.wp ∧ wOK r.wq
def SP.W (s : SP) : Prop := s.x.W ∧ s.y.W
def LK.I (l : LK) : Prop := I64 l.f ∧ I64 l.t ∧ I64 l.x ∧ I64 l.y ∧ I64 l.w
def PT.I (p : PT) : Prop := I64 p.x ∧ I64 p.y

theorem wf_i64 {n : Int} (h : (Lit.int .i64 n).wf = true) : I64 n := by
  simp [Lit.wf, IntKind.min, IntKind.max, IntKind.signed, IntKind.bits] at h
  exact ⟨by omega, by omega⟩
theorem wf_u32 {n : Int} (h : (Lit.int .u32 n).wf = true) : ∃ x : Nat, n = x ∧ x < 4294967296 := by
  simp [Lit.wf, IntKind.min, IntKind.max, IntKind.signed, IntKind.bits] at h
  exact ⟨n.toNat, by omega, by omega⟩
section
variable {w : World}
abbrev QI : List DC → Prop := fun ds => ∃ n, I64 n ∧ ds = [lI n]
theorem rd_I : Reads Tryz.prog w 3 QI := (rd_int tok rfl rfl).mono fun ds ⟨n, h, e⟩ => ⟨n, wf_i64 h, e⟩
theorem rd_W : Reads Tryz.prog w 28 (fun ds => ∃ ws : List Nat, wOK ws ∧ ds = [dW ws]) := by
  have h1 : Reads Tryz.prog w 54 (fun ds => ∃ x : Nat, x < 4294967296 ∧ ds = cW x) := (rd_int tok rfl rfl).mono fun ds ⟨n, h, e⟩ => by
    obtain ⟨x, rfl, hx⟩ := wf_u32 h
    exact ⟨x, hx, e⟩
  exact (rd_slice cW (fun x => x < 4294967296) tok rfl rfl rfl rfl h1).mono fun ds ⟨l, h, e⟩ => ⟨l, h, e⟩
abbrev QZ' : List DC → Prop := fun ds => ∃ (b : Bool) (ws : List Nat), wOK ws ∧ ds = [.lit (.bool b), dW ws]
theorem rd_Z : Reads Tryz.prog w 30 QZ' := by
  refine (rd_struct (qs := [fun ds => ∃ b, ds = [.lit (.bool b)], fun ds => ∃ ws : List Nat, wOK ws ∧ ds = [dW ws]]) tok rfl rfl rfl rfl ?_).mono fun ds h => ?_
  · exact ⟨rfl, rd_bool tok rfl rfl, _, rfl, rfl, rd_W, _, rfl, trivial⟩
  · obtain ⟨a, b, e, ⟨n, h1⟩, c, d, e', ⟨ws, hw, h2⟩, h3⟩ := h
    have h3 : d = [] := h3
    subst e e' h1 h2 h3
    exact ⟨n, ws, hw, rfl⟩
abbrev QR : List DC → Prop := fun ds => ∃ r : RW, r.W ∧ ds = r.dc
theorem rw_of : ∀ ds, QFs [QZ', QZ'] ds → QR ds := fun ds ⟨a, b, e, ⟨n, ws, hw, h1⟩, c, d, e', ⟨m, vs, hv, h2⟩, h3⟩ => by
    have h3 : d = [] := h3
    subst e e' h1 h2 h3
    exact ⟨⟨n, ws, m, vs⟩, ⟨hw, hv⟩, rfl⟩

theorem rd_Rot : Reads Tryz.prog w 56 QR := by
  refine (rd_struct (qs := [QZ', QZ']) tok rfl rfl rfl rfl ?_).mono rw_of;exact ⟨rfl, rd_Z, _, rfl, rfl, rd_Z, _, rfl, trivial⟩

structure TR where
  r : RW
  x : RW
  y : RW
  deriving DecidableEq
def TR.dc (t : TR) : List DC := t.r.dc ++ (t.x.dc ++ t.y.dc)
def TR.cs (t : TR) : List SC := [.d (.lit (.bool t.r.np)), .d (dW t.r.wp), .d (.lit (.bool t.r.nq)), .d (dW t.r.wq), .d (.lit (.bool t.x.np)), .d (dW t.x.wp), .d (.lit (.bool t.x.nq)), .d (dW t.x.wq), .d (.lit (.bool t.y.np)), .d (dW t.y.wp), .d (.lit (.bool t.y.nq)), .d (dW t.y.wq)]
def TR.W (t : TR) : Prop := t.r.W ∧ t.x.W ∧ t.y.W
abbrev QL : List DC → Prop := fun ds => ∃ l : LK, l.I ∧ ds = l.dc

theorem rd_L : Reads Tryz.prog w 58 QL := by
  refine (rd_struct (qs := [QI, QI, QI, QI, QI]) tok rfl rfl rfl rfl ?_).mono fun ds h => ?_
  · exact ⟨rfl, rd_I, _, rfl, rfl, rd_I, _, rfl, rfl, rd_I, _, rfl, rfl, rd_I, _, rfl, rfl, rd_I, _, rfl, trivial⟩
  · obtain ⟨a1, b1, e1, ⟨x1, h1, k1⟩, a2, b2, e2, ⟨x2, h2, k2⟩, a3, b3, e3, ⟨x3, h3, k3⟩, a4, b4, e4, ⟨x4, h4, k4⟩, a5, b5, e5, ⟨x5, h5, k5⟩, h6⟩ := h
    have h6 : b5 = [] := h6
    subst e1 e2 e3 e4 e5 k1 k2 k3 k4 k5 h6
    exact ⟨⟨x1, x2, x3, x4, x5⟩, ⟨h1, h2, h3, h4, h5⟩, rfl⟩

theorem rd_Rots : Reads Tryz.prog w 22 (fun ds => ∃ l : List RW, (∀ x ∈ l, x.W) ∧ ds = [.sl (l.map RW.dc)]) := rd_slice RW.dc RW.W tok rfl rfl rfl rfl rd_Rot

theorem rd_Links : Reads Tryz.prog w 23 (fun ds => ∃ l : List LK, (∀ x ∈ l, x.I) ∧ ds = [.sl (l.map LK.dc)]) := rd_slice LK.dc LK.I tok rfl rfl rfl rfl rd_L

def GR.W (g : GR) : Prop := (∀ r ∈ g.nodes, r.W) ∧ ∀ l ∈ g.links, l.I

theorem rd_G : Reads Tryz.prog w 25 (fun ds => ∃ g : GR, g.W ∧ ds = [dRs g.nodes, dLs g.links]) := by
  refine (rd_struct (qs := [fun ds => ∃ l : List RW, (∀ x ∈ l, x.W) ∧ ds = [.sl (l.map RW.dc)], fun ds => ∃ l : List LK, (∀ x ∈ l, x.I) ∧ ds = [.sl (l.map LK.dc)]]) tok rfl rfl rfl rfl ?_).mono fun ds h => ?_
  · exact ⟨rfl, rd_Rots, _, rfl, rfl, rd_Links, _, rfl, trivial⟩
  · obtain ⟨a, b, e, ⟨x, hx, h1⟩, c, d, e', ⟨y, hy, h2⟩, h3⟩ := h
    have h3 : d = [] := h3
    subst e e' h1 h2 h3
    exact ⟨⟨x, y⟩, ⟨hx, hy⟩, rfl⟩

end

section
variable {w : World} {H : Type} {enc : TypeId × Value → H} {sp : Nat → Bool} {v : Value} {d : DataW H} {ps : List MemPlace} {base : Nat}

set_option maxRecDepth 100000 in
theorem arg_G (hv : Value.okWide Tryz.prog w .any base 25 v) (hd : DataW.Trod enc Tryz.prog w 0 sp true 25 v d ps) : ∃ g : GR, g.W ∧ RelV w (fun _ => False) (fun _ => 0) v (AG g.cs) := by
  obtain ⟨ti, fs, a, b⟩ : ∃ ti fs, tab.ty 25 = some ti ∧ ti.und = .struct fs := ⟨_, _, rfl, rfl⟩
  obtain ⟨ds, ⟨g, hg, rfl⟩, hr⟩ := arg_agg tok a b rd_G hv hd (fun _ => 0)
  exact ⟨g, hg, hr⟩

end
end Go.Proofs.YtgopibpkgmafiaaGreat

/- Arrays of numbers as arguments. No condition. -/
namespace Go.Proofs.YtgopibpkgmafiaaGreat
open Go.RowKit

section
variable {P : Program} {w : World} {t e : TypeId}
end
section
variable {w : World} {H : Type} {enc : TypeId × Value → H} {sp : Nat → Bool} {v : Value} {d : DataW H} {ps : List MemPlace} {base : Nat}
end
end Go.Proofs.YtgopibpkgmafiaaGreat

/- Comparisons of the base package; sizes of numbers. No condition. -/
namespace Go.Proofs.YtgopibpkgmafiaaGreat
attribute [local irreducible] lexA

theorem bInt_c (na nb : Bool) (wa wb : List Nat) (la : wa.length ≤ 9223372036854775806) : Con Tryz.prog 21 [AG (IC na wa), AG (IC nb wb)] { v := dB (decide (na = nb ∧ wa = wb)) } := by
  refine con_intro (fn := Tryz.f21) tok Tryz.func21 (by kernel_rfl) rfl ?_
  intro w0 X
  rw [entry_mkE _ _ [(0, AG (IC na wa)), (1, AG (IC nb wb))] rfl rfl];refine AWP_reg_seq tok fun K hK => ?_;refine s_box rfl rfl rfl rfl rfl rfl ?_;refine s_box rfl rfl rfl rfl rfl rfl ?_;refine asQ ?_;refine s_end (hK _ ?_); clear hK K;refine AWP_seq ?_;refine a_join (α := Bool) (fun c => mk 38 [(2, .ptr 2 0), (3, .ptr 3 0), (19, dB c)] [(2, some (.box (IC na wa))), (3, some (.box (IC nb wb)))] []) (fun c => (c = true → ¬ (na = nb ∧ wa = wb)) ∧ (c = false → na = nb ∧ wa.length = wb.length)) ?_ ?_
  · refine AWP_reg tok fun K hK => ?_;refine faQ ?_;refine ldQ ?_;refine faQ ?_;refine ldQ ?_;refine biQ ?_;refine mvQ ?_;refine s_split (fun h => ?_) (fun h => ?_)
    · have h : na ≠ nb := by simpa using h
      refine s_skip rfl ?_;refine s_skip rfl ?_;refine s_skip rfl ?_;refine s_skip rfl ?_;refine s_skip rfl ?_;refine s_skip rfl ?_;refine s_skip rfl ?_;refine piQ ?_;refine s_end (hK _ ?_); clear hK K;exact ⟨true, ⟨fun _ h' => h h'.1, fun h => (by cases h)⟩, Wk.mk' ⟨rfl, rfl, rfl, trivial⟩ ⟨rfl, rfl, trivial⟩⟩
    · have h : na = nb := by simpa using h
      refine faQ ?_;refine ldQ ?_;refine s_blt rfl (len_w rfl rfl rfl) rfl ?_;refine faQ ?_;refine ldQ ?_;refine s_blt rfl (len_w rfl rfl rfl) rfl ?_;refine biQ ?_;refine piQ ?_;refine s_end (hK _ ?_); clear hK K;refine ⟨_, ⟨fun h' h2 => ?_, fun h' => ⟨h, ?_⟩⟩, Wk.mk' ⟨rfl, rfl, rfl, trivial⟩ ⟨rfl, rfl, trivial⟩⟩
      · rw [h2.2] at h'; simp at h'
      · simp at h'; omega
  rintro c ⟨k1, k2⟩
  refine a_cond rfl (fun hc => ?_) (fun hc => ?_)
  · refine AWP_reg_seq tok fun K hK => ?_;refine asQ ?_;refine s_end (hK _ ?_); clear hK K;refine AWP_ret ?_
    repeat (with_reducible refine tq_ret ?_)
    exact post_ret (fin_mk (by rfl) (by rfl) (by rw [decide_eq_false (k1 hc)]; rfl))
  obtain ⟨hn, hl⟩ := k2 hc
  refine AWP_skip ?_;show AWP _ _ _ _ _ _;refine AWP_seq ?_;refine AWP_reg_seq tok fun K hK => ?_;refine asQ ?_;refine s_end (hK _ ?_); clear hK K;refine AWP_block (a_loop (α := Nat) (fun i => mk 38 [(2, .ptr 2 0), (3, .ptr 3 0), (5, dI i)] [(2, some (.box (IC na wa))), (3, some (.box (IC nb wb)))] []) (fun i => i ≤ wa.length ∧ wa.take i = wb.take i) (fun i => wa.length - i) 0 ?_ ⟨Nat.zero_le _, rfl⟩ ?_)
  · exact Wk.mk' ⟨rfl, rfl, rfl, trivial⟩ ⟨rfl, rfl, trivial⟩
  rintro i ⟨hi, ht⟩
  refine AWP_seq ?_;refine AWP_reg_seq tok fun K hK => ?_;refine mvQ ?_;refine faQ ?_;refine ldQ ?_;refine s_blt rfl (len_w rfl rfl rfl) rfl ?_;refine biQ ?_;refine s_end (hK _ ?_); clear hK K;refine a_cond rfl (fun hg => ?_) (fun hg => ?_)
  · have hg : i < wa.length := by simp at hg; omega
    have hg' : i < wb.length := by omega
    refine AWP_skip ?_;show AWP _ _ _ _ _ _;refine AWP_seq ?_;refine AWP_block ?_;refine a_draw tok mixed (A := [[], [], [], [0], [0, 1, 2], [], [], [], [5], [5, 6, 7], [0, 1, 2, 3, 5, 6, 7, 8]]) (an := [{}, {}, {}, {}, {}, {}, {}, {}, {}, {}, {}]) rfl (by kernel_rfl) rfl fun K hK => ?_;refine faQ ?_;refine ldQ ?_;refine mvQ ?_;refine s_indexAddr rfl (x_w (i := i) rfl rfl rfl rfl rfl hg) rfl ?_;refine ldQ ?_;refine faQ ?_;refine ldQ ?_;refine mvQ ?_;refine s_indexAddr rfl (x_w (i := i) rfl rfl rfl rfl rfl hg') rfl ?_;refine ldQ ?_;refine biQ ?_;refine s_end (hK _ ?_); clear hK K;refine a_cond rfl (fun hd => ?_) (fun hd => ?_)
    · have hd : wa[i] ≠ wb[i] := by simp at hd; omega
      refine AWP_reg_seq tok fun K hK => ?_;refine asQ ?_;refine s_end (hK _ ?_); clear hK K;refine AWP_ret ?_
      repeat (with_reducible refine tq_ret ?_)
      exact post_ret (fin_mk (by rfl) (by rfl) (by rw [decide_eq_false (fun h' => ne_of_get hg hg' hd h'.2)]; rfl))
    · have hd : wa[i] = wb[i] := by simp at hd; omega
      refine AWP_skip ?_;show AWP _ _ _ _ _ _;refine AWP_reg tok fun K hK => ?_;refine mvQ ?_;refine s_bin rfl (e_add (c := ((i + 1 : Nat) : Int)) (by omega) (by omega)) rfl ?_;refine asQ ?_;refine s_end (hK _ ?_); clear hK K;exact ⟨i + 1, by omega, ⟨hg, take_eq_succ hg hg' ht hd⟩, Wk.mk' ⟨rfl, rfl, rfl, trivial⟩ ⟨rfl, rfl, trivial⟩⟩
  · have hg : i = wa.length := by simp at hg; omega
    subst hg
    refine AWP_exit ?_;show AWP _ _ _ _ _ _;refine AWP_reg_seq tok fun K hK => ?_;refine asQ ?_;refine s_end (hK _ ?_); clear hK K;refine AWP_ret ?_
    repeat (with_reducible refine tq_ret ?_)
    exact post_ret (fin_mk (by rfl) (by rfl) (by rw [decide_eq_true ⟨hn, take_eq_all hl ht⟩]; rfl))

theorem RW.eq_iff (a b : RW) : decide (a = b) = (decide (a.np = b.np ∧ a.wp = b.wp) && decide (a.nq = b.nq ∧ a.wq = b.wq)) := by
  obtain ⟨a1, a2, a3, a4⟩ := a
  obtain ⟨b1, b2, b3, b4⟩ := b
  rw [Bool.eq_iff_iff]
  simp [RW.mk.injEq, and_assoc]
theorem bRat_c (a b : RW) (la : a.wp.length ≤ 9223372036854775806) (lb : a.wq.length ≤ 9223372036854775806) : Con Tryz.prog 13 [AG a.cs, AG b.cs] { v := dB (decide (a = b)) } := by
  rw [RW.eq_iff];refine con_intro (fn := Tryz.f13) tok Tryz.func13 (by kernel_rfl) rfl ?_
  intro w0 X
  rw [entry_mkE _ _ [(0, AG a.cs), (1, AG b.cs)] rfl rfl];refine AWP_reg_seq tok fun K hK => ?_;refine s_box rfl rfl rfl rfl rfl rfl ?_;refine s_box rfl rfl rfl rfl rfl rfl ?_;refine asQ ?_;refine s_end (hK _ ?_); clear hK K;refine AWP_reg_seq tok fun K hK => ?_;refine faQ ?_;refine ldQ ?_;refine faQ ?_;refine ldQ ?_;refine s_call rfl rfl (bInt_c a.np b.np a.wp b.wp la) rfl rfl rfl rfl ?_;refine mvQ ?_;refine s_split (fun h => ?_) (fun h => ?_)
  · refine faQ ?_;refine ldQ ?_;refine faQ ?_;refine ldQ ?_;refine s_call rfl rfl (bInt_c a.nq b.nq a.wq b.wq lb) rfl rfl rfl rfl ?_;refine piQ ?_;refine asQ ?_;refine s_end (hK _ ?_); clear hK K;refine AWP_ret ?_
    repeat (with_reducible refine tq_ret ?_)
    exact post_ret (fin_mk (by rfl) (by rfl) (by rw [h, Bool.true_and]; rfl))
  · refine s_skip rfl ?_;refine s_skip rfl ?_;refine s_skip rfl ?_;refine s_skip rfl ?_;refine s_skip rfl ?_;refine piQ ?_;refine asQ ?_;refine s_end (hK _ ?_); clear hK K;refine AWP_ret ?_
    repeat (with_reducible refine tq_ret ?_)
    exact post_ret (fin_mk (by rfl) (by rfl) (by rw [h, Bool.false_and]; rfl))

theorem bInts_c (a b : List Int) (la : a.length ≤ 9223372036854775806) : Con Tryz.prog 22 [V1 (dIs a), V1 (dIs b)] { v := dB (decide (a = b)) } := by
  refine con_intro (fn := Tryz.f22) tok Tryz.func22 (by kernel_rfl) rfl ?_
  intro w0 X
  rw [entry_mkE _ _ [(0, V1 (dIs a)), (1, V1 (dIs b))] rfl rfl];refine AWP_reg_seq tok fun K hK => ?_;refine asQ ?_;refine s_end (hK _ ?_); clear hK K;refine AWP_seq ?_;refine AWP_reg_seq tok fun K hK => ?_;refine mvQ ?_;refine s_blt rfl (len_m cI rfl rfl) rfl ?_;refine mvQ ?_;refine s_blt rfl (len_m cI rfl rfl) rfl ?_;refine biQ ?_;refine s_end (hK _ ?_); clear hK K;refine a_cond rfl (fun hc => ?_) (fun hc => ?_)
  · have hc : a.length ≠ b.length := by simp at hc; omega
    refine AWP_reg_seq tok fun K hK => ?_;refine asQ ?_;refine s_end (hK _ ?_); clear hK K;refine AWP_ret ?_
    repeat (with_reducible refine tq_ret ?_)
    exact post_ret (fin_mk (by rfl) (by rfl) (by rw [decide_eq_false (fun h => hc (by rw [h]))]; rfl))
  have hl : a.length = b.length := by simp at hc; omega
  refine AWP_skip ?_;show AWP _ _ _ _ _ _;refine AWP_seq ?_;refine AWP_reg_seq tok fun K hK => ?_;refine asQ ?_;refine s_end (hK _ ?_); clear hK K;refine AWP_block (a_loop (α := Nat) (fun i => mk 26 [(0, V1 (dIs a)), (1, V1 (dIs b)), (5, dI i)] [] []) (fun i => i ≤ a.length ∧ a.take i = b.take i) (fun i => a.length - i) 0 ?_ ⟨Nat.zero_le _, rfl⟩ ?_)
  · exact Wk.mk' ⟨rfl, rfl, rfl, trivial⟩ trivial
  rintro i ⟨hi, ht⟩
  refine AWP_seq ?_;refine AWP_reg_seq tok fun K hK => ?_;refine mvQ ?_;refine mvQ ?_;refine s_blt rfl (len_m cI rfl rfl) rfl ?_;refine biQ ?_;refine s_end (hK _ ?_); clear hK K;refine a_cond rfl (fun hg => ?_) (fun hg => ?_)
  · have hg : i < a.length := by simp at hg; omega
    have hg' : i < b.length := by omega
    refine AWP_skip ?_;show AWP _ _ _ _ _ _;refine AWP_seq ?_;refine AWP_block ?_;refine a_draw tok mixed (A := [[], [], [], [0, 1], [], [], [], [4, 5], [0, 1, 2, 4, 5, 6]]) (an := [{}, {}, {}, {}, {}, {}, {}, {}, {}]) rfl (by kernel_rfl) rfl fun K hK => ?_;refine mvQ ?_;refine mvQ ?_;refine s_indexAddr rfl (x_m cI rfl rfl rfl rfl hg rfl) rfl ?_;refine ldQ ?_;refine mvQ ?_;refine mvQ ?_;refine s_indexAddr rfl (x_m cI rfl rfl rfl rfl hg' rfl) rfl ?_;refine ldQ ?_;refine biQ ?_;refine s_end (hK _ ?_); clear hK K;refine a_cond rfl (fun hd => ?_) (fun hd => ?_)
    · have hd : a[i] ≠ b[i] := by simpa using hd
      refine AWP_reg_seq tok fun K hK => ?_;refine asQ ?_;refine s_end (hK _ ?_); clear hK K;refine AWP_ret ?_
      repeat (with_reducible refine tq_ret ?_)
      exact post_ret (fin_mk (by rfl) (by rfl) (by rw [decide_eq_false (fun h' => ne_of_get hg hg' hd h')]; rfl))
    · have hd : a[i] = b[i] := by simpa using hd
      refine AWP_skip ?_;show AWP _ _ _ _ _ _;refine AWP_reg tok fun K hK => ?_;refine mvQ ?_;refine s_bin rfl (e_add (c := ((i + 1 : Nat) : Int)) (by omega) (by omega)) rfl ?_;refine asQ ?_;refine s_end (hK _ ?_); clear hK K;exact ⟨i + 1, by omega, ⟨hg, take_eq_succ hg hg' ht hd⟩, Wk.mk' ⟨rfl, rfl, rfl, trivial⟩ trivial⟩
  · have hg : i = a.length := by simp at hg; omega
    subst hg
    refine AWP_exit ?_;show AWP _ _ _ _ _ _;refine AWP_reg_seq tok fun K hK => ?_;refine asQ ?_;refine s_end (hK _ ?_); clear hK K;refine AWP_ret ?_
    repeat (with_reducible refine tq_ret ?_)
    exact post_ret (fin_mk (by rfl) (by rfl) (by rw [decide_eq_true (take_eq_all hl ht)]; rfl))

theorem SP.eq_iff (a b : SP) : a = b ↔ a.x = b.x ∧ a.y = b.y := by
  obtain ⟨a1, a2⟩ := a
  obtain ⟨b1, b2⟩ := b
  simp [SP.mk.injEq]

theorem bSize_c (n m : Int) (hm : -9223372036854775808 < m ∧ m ≤ 9223372036854775807) : Con Tryz.prog 94 [dI n, dI m] { v := dB (decide (-m ≤ n ∧ n ≤ m)) } := by
  have hw : IntKind.i64.wrap (0 - m) = -m := by rw [IntWalk.i64_in _ (by omega)]; omega
  refine con_intro (fn := Tryz.f94) tok Tryz.func94 (by kernel_rfl) rfl ?_
  intro w0 X
  rw [entry_mkE _ _ [(0, dI n), (1, dI m)] rfl rfl];refine AWP_reg_seq tok fun K hK => ?_;refine asQ ?_;refine s_end (hK _ ?_); clear hK K;refine AWP_reg_seq tok fun K hK => ?_;refine mvQ ?_;refine mvQ ?_;refine s_un rfl rfl rfl ?_;refine biQ ?_;refine mvQ ?_;refine s_split (fun h => ?_) (fun h => ?_)
  · have h : -m ≤ n := by have := of_decide_eq_true h; rw [hw] at this; exact this
    refine mvQ ?_;refine mvQ ?_;refine biQ ?_;refine piQ ?_;refine asQ ?_;refine s_end (hK _ ?_); clear hK K;refine AWP_ret ?_
    repeat (with_reducible refine tq_ret ?_)
    exact post_ret (fin_mk (by rfl) (by rfl) (by rw [show decide (-m ≤ n ∧ n ≤ m) = decide (n ≤ m) from decide_eq_decide.2 ⟨fun k => k.2, fun k => ⟨h, k⟩⟩]; rfl))
  · have h : ¬ -m ≤ n := by have := of_decide_eq_false h; rw [hw] at this; exact this
    refine s_skip rfl ?_;refine s_skip rfl ?_;refine s_skip rfl ?_;refine piQ ?_;refine asQ ?_;refine s_end (hK _ ?_); clear hK K;refine AWP_ret ?_
    repeat (with_reducible refine tq_ret ?_)
    exact post_ret (fin_mk (by rfl) (by rfl) (by rw [decide_eq_false (fun k => h k.1)]; rfl))
end Go.Proofs.YtgopibpkgmafiaaGreat

/- Validity and sizes of graphs; comparisons of the reference. No condition. -/
namespace Go.Proofs.YtgopibpkgmafiaaGreat
attribute [local irreducible] lexA

def inR (n lo hi : Int) : Bool := decide (lo ≤ n ∧ n ≤ hi)
def stepB (x y w : Int) : Bool := inR x (-1048576) 1048576 && inR y (-1048576) 1048576 && inR w 1 1048576
def linkB (n : Nat) (l : LK) : Bool := inR l.f 0 ((n : Int) - 1) && inR l.t 0 ((n : Int) - 1) && !(l.f == l.t) && stepB l.x l.y l.w
def validB (g : GR) : Bool := decide (1 ≤ g.nodes.length ∧ g.nodes.length ≤ 16 ∧ g.links.length ≤ 48) && g.links.all (linkB g.nodes.length)
def LK.cs (l : LK) : List SC := [.d (lI l.f), .d (lI l.t), .d (lI l.x), .d (lI l.y), .d (lI l.w)]
structure GV (g : GR) : Prop where
  n1 : 1 ≤ g.nodes.length
  n2 : g.nodes.length ≤ 16
  l : g.links.length ≤ 48
  lk : ∀ l ∈ g.links, linkB g.nodes.length l = true
theorem validB_iff {g : GR} : validB g = true ↔ GV g := by
  constructor
  · intro h
    rw [validB, Bool.and_eq_true, decide_eq_true_eq, List.all_eq_true] at h;exact ⟨h.1.1, h.1.2.1, h.1.2.2, h.2⟩
  · intro h
    rw [validB, Bool.and_eq_true, decide_eq_true_eq, List.all_eq_true];exact ⟨⟨h.n1, h.n2, h.l⟩, h.lk⟩
structure LV (n : Nat) (l : LK) : Prop where
  f : 0 ≤ l.f ∧ l.f < n
  t : 0 ≤ l.t ∧ l.t < n
  ne : l.f ≠ l.t
  x : -1048576 ≤ l.x ∧ l.x ≤ 1048576
  y : -1048576 ≤ l.y ∧ l.y ≤ 1048576
  w : 1 ≤ l.w ∧ l.w ≤ 1048576
theorem linkB_iff {n : Nat} {l : LK} : linkB n l = true ↔ LV n l := by
  constructor
  · intro h
    simp only [linkB, stepB, inR, Bool.and_eq_true, decide_eq_true_eq, Bool.not_eq_true', beq_eq_false_iff_ne] at h
    obtain ⟨⟨⟨h1, h2⟩, h3⟩, h4, h5⟩ := h
    exact ⟨⟨by omega, by omega⟩, ⟨by omega, by omega⟩, h3, h4.1, h4.2, h5⟩
  · rintro ⟨h1, h2, h3, h4, h5, h6⟩
    simp only [linkB, stepB, inR, Bool.and_eq_true, decide_eq_true_eq, Bool.not_eq_true', beq_eq_false_iff_ne];exact ⟨⟨⟨by omega, by omega⟩, h3⟩, ⟨h4, h5⟩, h6⟩

theorem within_c (n lo hi : Int) : Con Tryz.prog 49 [dI n, dI lo, dI hi] { v := dB (inR n lo hi) } := by
  refine con_intro (fn := Tryz.f49) tok Tryz.func49 (by kernel_rfl) rfl ?_
  intro w0 X
  rw [entry_mkE _ _ [(0, dI n), (1, dI lo), (2, dI hi)] rfl rfl];refine AWP_reg_seq tok fun K hK => ?_;refine asQ ?_;refine s_end (hK _ ?_); clear hK K;refine AWP_reg_seq tok fun K hK => ?_;refine mvQ ?_;refine mvQ ?_;refine biQ ?_;refine mvQ ?_;refine s_split (fun h0 => ?_) (fun h0 => ?_)
  · refine mvQ ?_;refine mvQ ?_;refine biQ ?_;refine piQ ?_;refine asQ ?_;refine s_end (hK _ ?_); clear hK K;refine AWP_ret ?_
    repeat (with_reducible refine tq_ret ?_)
    exact post_ret (fin_mk (by rfl) (by rfl) (by exact dB_eq (by simp at h0; simp only [inR]; simp [h0] <;> omega)))
  · refine s_skip rfl ?_;refine s_skip rfl ?_;refine s_skip rfl ?_;refine piQ ?_;refine asQ ?_;refine s_end (hK _ ?_); clear hK K;refine AWP_ret ?_
    repeat (with_reducible refine tq_ret ?_)
    exact post_ret (fin_mk (by rfl) (by rfl) (by exact dB_eq (by simp at h0; simp only [inR]; simp [h0] <;> omega)))

theorem step_c (x y w : Int) : Con Tryz.prog 50 [dI x, dI y, dI w] { v := dB (stepB x y w) } := by
  refine con_intro (fn := Tryz.f50) tok Tryz.func50 (by kernel_rfl) rfl ?_
  intro w0 X
  rw [entry_mkE _ _ [(0, dI x), (1, dI y), (2, dI w)] rfl rfl];refine AWP_reg_seq tok fun K hK => ?_;refine asQ ?_;refine s_end (hK _ ?_); clear hK K;refine AWP_regW_seq fun K hK => ?_;refine w_step tok rfl ?_;refine mvQ ?_;refine s_end ?_;refine w_step tok rfl ?_;refine s_call rfl rfl (within_c _ _ _) rfl rfl rfl rfl ?_;refine s_end ?_;refine w_step tok rfl ?_;refine mvQ ?_;refine s_end ?_;refine w_split (fun h0 => ?_) (fun h0 => ?_)
  · refine w_step tok rfl ?_;refine mvQ ?_;refine s_end ?_;refine w_step tok rfl ?_;refine s_call rfl rfl (within_c _ _ _) rfl rfl rfl rfl ?_;refine s_end ?_;refine w_step tok rfl ?_;refine piQ ?_;refine s_end ?_;refine w_step tok rfl ?_;refine mvQ ?_;refine s_end ?_;refine w_split (fun h1 => ?_) (fun h1 => ?_)
    · refine w_step tok rfl ?_;refine mvQ ?_;refine s_end ?_;refine w_step tok rfl ?_;refine s_call rfl rfl (within_c _ _ _) rfl rfl rfl rfl ?_;refine s_end ?_;refine w_step tok rfl ?_;refine piQ ?_;refine s_end ?_;refine w_step tok rfl ?_;refine asQ ?_;refine s_end ?_;refine w_end rfl (hK _ ?_); clear hK K;refine AWP_ret ?_
      repeat (with_reducible refine tq_ret ?_)
      exact post_ret (fin_mk (by rfl) (by rfl) (by exact dB_eq (by simp only [stepB, h0, h1, Bool.true_and, Bool.false_and])))
    · refine w_skip rfl rfl ?_;refine w_skip rfl rfl ?_;refine w_step tok rfl ?_;refine piQ ?_;refine s_end ?_;refine w_step tok rfl ?_;refine asQ ?_;refine s_end ?_;refine w_end rfl (hK _ ?_); clear hK K;refine AWP_ret ?_
      repeat (with_reducible refine tq_ret ?_)
      exact post_ret (fin_mk (by rfl) (by rfl) (by exact dB_eq (by simp only [stepB, h0, h1, Bool.true_and, Bool.false_and])))
  · refine w_skip rfl rfl ?_;refine w_skip rfl rfl ?_;refine w_step tok rfl ?_;refine piQ ?_;refine s_end ?_;refine w_step tok rfl ?_;refine mvQ ?_;refine s_end ?_;refine w_skip rfl rfl ?_;refine w_skip rfl rfl ?_;refine w_step tok rfl ?_;refine piQ ?_;refine s_end ?_;refine w_step tok rfl ?_;refine asQ ?_;refine s_end ?_;refine w_end rfl (hK _ ?_); clear hK K;refine AWP_ret ?_
    repeat (with_reducible refine tq_ret ?_)
    exact post_ret (fin_mk (by rfl) (by rfl) (by exact dB_eq (by simp only [stepB, h0, Bool.true_and, Bool.false_and])))

theorem gValid_c (g : GR) : Con Tryz.prog 26 [AG g.cs] { v := dB (validB g) } := by
  refine con_intro (fn := Tryz.f26) tok Tryz.func26 (by kernel_rfl) rfl ?_
  intro w0 X
  rw [entry_mkE _ _ [(0, AG g.cs)] rfl rfl];refine AWP_reg_seq tok fun K hK => ?_;refine s_box rfl rfl rfl rfl rfl rfl ?_;refine asQ ?_;refine s_end (hK _ ?_); clear hK K;refine AWP_reg_seq tok fun K hK => ?_;refine faQ ?_;refine ldQ ?_;refine s_blt rfl (len_m RW.dc rfl rfl) rfl ?_;refine asQ ?_;refine s_end (hK _ ?_); clear hK K;refine AWP_seq ?_;refine a_join (α := Bool) (fun c => mk 60 [(1, .ptr 1 0), (3, dI g.nodes.length), (20, dB c)] [(1, some (.box g.cs))] []) (fun c => c = !decide (1 ≤ g.nodes.length ∧ g.nodes.length ≤ 16 ∧ g.links.length ≤ 48)) ?_ ?_
  · refine AWP_regW fun K hK => ?_;refine w_step tok rfl ?_;refine mvQ ?_;refine s_end ?_;refine w_step tok rfl ?_;refine biQ ?_;refine s_end ?_;refine w_step tok rfl ?_;refine mvQ ?_;refine s_end ?_;refine w_split (fun h0 => ?_) (fun h0 => ?_)
    · refine w_skip rfl rfl ?_;refine w_skip rfl rfl ?_;refine w_step tok rfl ?_;refine piQ ?_;refine s_end ?_;refine w_step tok rfl ?_;refine mvQ ?_;refine s_end ?_;refine w_skip rfl rfl ?_;refine w_skip rfl rfl ?_;refine w_skip rfl rfl ?_;refine w_skip rfl rfl ?_;refine w_step tok rfl ?_;refine piQ ?_;refine s_end ?_;refine w_end rfl (hK _ ?_); clear hK K;exact ⟨_, (by simp only [decide_eq_true_eq, decide_eq_false_iff_not] at h0; rw [Bool.eq_iff_iff]; simp only [Bool.not_eq_true', decide_eq_false_iff_not, decide_eq_true_eq, true_iff, iff_true]; omega), Wk.mk' ⟨rfl, rfl, rfl, trivial⟩ ⟨rfl, trivial⟩⟩
    · refine w_step tok rfl ?_;refine mvQ ?_;refine s_end ?_;refine w_step tok rfl ?_;refine biQ ?_;refine s_end ?_;refine w_step tok rfl ?_;refine piQ ?_;refine s_end ?_;refine w_step tok rfl ?_;refine mvQ ?_;refine s_end ?_;refine w_split (fun h1 => ?_) (fun h1 => ?_)
      · refine w_skip rfl rfl ?_;refine w_skip rfl rfl ?_;refine w_skip rfl rfl ?_;refine w_skip rfl rfl ?_;refine w_step tok rfl ?_;refine piQ ?_;refine s_end ?_;refine w_end rfl (hK _ ?_); clear hK K;exact ⟨_, (by simp only [decide_eq_true_eq, decide_eq_false_iff_not] at h0 h1; rw [Bool.eq_iff_iff]; simp only [Bool.not_eq_true', decide_eq_false_iff_not, decide_eq_true_eq, true_iff, iff_true]; omega), Wk.mk' ⟨rfl, rfl, rfl, trivial⟩ ⟨rfl, trivial⟩⟩
      · refine w_step tok rfl ?_;refine faQ ?_;refine s_end ?_;refine w_step tok rfl ?_;refine ldQ ?_;refine s_end ?_;refine w_step tok rfl ?_;refine s_blt rfl (len_m LK.dc rfl rfl) rfl ?_;refine s_end ?_;refine w_step tok rfl ?_;refine biQ ?_;refine s_end ?_;refine w_step tok rfl ?_;refine piQ ?_;refine s_end ?_;refine w_end rfl (hK _ ?_); clear hK K;exact ⟨_, (by simp only [decide_eq_true_eq, decide_eq_false_iff_not] at h0 h1; rw [Bool.eq_iff_iff]; simp only [Bool.not_eq_true', decide_eq_false_iff_not, decide_eq_true_eq, true_iff, iff_true]; omega), Wk.mk' ⟨rfl, rfl, rfl, trivial⟩ ⟨rfl, trivial⟩⟩
  rintro c rfl
  refine a_cond rfl (fun hc => ?_) (fun hc => ?_)
  · refine AWP_reg_seq tok fun K hK => ?_;refine asQ ?_;refine s_end (hK _ ?_); clear hK K;refine AWP_ret ?_
    repeat (with_reducible refine tq_ret ?_)
    exact post_ret (fin_mk (by rfl) (by rfl) (by exact dB_eq (by rw [Bool.not_eq_true'] at hc; simp only [validB, hc, Bool.false_and])))
  have hc : 1 ≤ g.nodes.length ∧ g.nodes.length ≤ 16 ∧ g.links.length ≤ 48 := by simpa using hc
  refine AWP_skip ?_;show AWP _ _ _ _ _ _;refine AWP_seq ?_;refine AWP_reg_seq tok fun K hK => ?_;refine faQ ?_;refine ldQ ?_;refine s_blt rfl (len_m LK.dc rfl rfl) rfl ?_;refine mvQ ?_;refine s_end (hK _ ?_); clear hK K;refine AWP_block (a_loop (α := Nat) (fun i => mk 60 [(3, dI g.nodes.length), (22, V1 (dLs g.links)), (23, dI g.links.length), (24, dI i)] [] []) (fun i => i ≤ g.links.length ∧ (g.links.take i).all (linkB g.nodes.length) = true) (fun i => g.links.length - i) 0 ?_ ⟨Nat.zero_le _, rfl⟩ ?_)
  · exact Wk.mk' ⟨rfl, rfl, rfl, rfl, trivial⟩ trivial
  rintro i ⟨hi, ht⟩
  refine AWP_reg_seq tok fun K hK => ?_;refine biQ ?_;refine s_end (hK _ ?_); clear hK K;refine AWP_seq ?_;refine a_cond rfl (fun hg => ?_) (fun hg => ?_)
  · have hg : i < g.links.length := by simp at hg; omega
    obtain ⟨l, hl⟩ : ∃ l, l = g.links[i] := ⟨_, rfl⟩
    refine AWP_skip ?_;show AWP _ _ _ _ _ _;refine AWP_seq ?_;refine AWP_block ?_;refine AWP_reg_seq tok fun K hK => ?_;refine s_indexAddr rfl (x_m LK.dc rfl rfl rfl rfl hg rfl) rfl ?_;refine ldQ ?_;refine s_alloc rfl rfl rfl rfl rfl rfl ?_;refine s_store rfl rfl rfl rfl rfl ?_;refine s_end (hK _ ?_); clear hK K;rw [← hl];refine a_join (α := Bool) (fun c => mk 60 [(3, dI g.nodes.length), (22, V1 (dLs g.links)), (23, dI g.links.length), (24, dI i), (58, dB c)] [] []) (fun c => c = !(linkB g.nodes.length l)) ?_ ?_
    · refine AWP_regW fun K hK => ?_;refine w_step tok rfl ?_;refine faQ ?_;refine s_end ?_;refine w_step tok rfl ?_;refine ldQ ?_;refine s_end ?_;refine w_step tok rfl ?_;refine mvQ ?_;refine s_end ?_;refine w_step tok rfl ?_;refine s_bin rfl (e_sub rfl (by omega)) rfl ?_;refine s_end ?_;refine w_step tok rfl ?_;refine s_call rfl rfl (within_c _ _ _) rfl rfl rfl rfl ?_;refine s_end ?_;refine w_step tok rfl ?_;refine s_un rfl rfl rfl ?_;refine s_end ?_;refine w_step tok rfl ?_;refine mvQ ?_;refine s_end ?_;refine w_split (fun h0 => ?_) (fun h0 => ?_)
      · refine w_skip rfl rfl ?_;refine w_skip rfl rfl ?_;refine w_skip rfl rfl ?_;refine w_skip rfl rfl ?_;refine w_skip rfl rfl ?_;refine w_skip rfl rfl ?_;refine w_step tok rfl ?_;refine piQ ?_;refine s_end ?_;refine w_step tok rfl ?_;refine mvQ ?_;refine s_end ?_;refine w_skip rfl rfl ?_;refine w_skip rfl rfl ?_;refine w_skip rfl rfl ?_;refine w_skip rfl rfl ?_;refine w_skip rfl rfl ?_;refine w_step tok rfl ?_;refine piQ ?_;refine s_end ?_;refine w_step tok rfl ?_;refine mvQ ?_;refine s_end ?_;refine w_skip rfl rfl ?_;refine w_skip rfl rfl ?_;refine w_skip rfl rfl ?_;refine w_skip rfl rfl ?_;refine w_skip rfl rfl ?_;refine w_skip rfl rfl ?_;refine w_skip rfl rfl ?_;refine w_skip rfl rfl ?_;refine w_step tok rfl ?_;refine piQ ?_;refine s_end ?_;refine w_end rfl (hK _ ?_); clear hK K;exact ⟨_, (by simp only [Bool.not_eq_true', Bool.not_eq_false', Bool.not_eq_eq_eq_not, Bool.not_true, Bool.not_false] at h0; simp only [linkB, h0, Bool.true_and, Bool.false_and, Bool.not_true, Bool.not_false]), Wk.mk' ⟨rfl, rfl, rfl, rfl, rfl, trivial⟩ trivial⟩
      · refine w_step tok rfl ?_;refine faQ ?_;refine s_end ?_;refine w_step tok rfl ?_;refine ldQ ?_;refine s_end ?_;refine w_step tok rfl ?_;refine mvQ ?_;refine s_end ?_;refine w_step tok rfl ?_;refine s_bin rfl (e_sub rfl (by omega)) rfl ?_;refine s_end ?_;refine w_step tok rfl ?_;refine s_call rfl rfl (within_c _ _ _) rfl rfl rfl rfl ?_;refine s_end ?_;refine w_step tok rfl ?_;refine s_un rfl rfl rfl ?_;refine s_end ?_;refine w_step tok rfl ?_;refine piQ ?_;refine s_end ?_;refine w_step tok rfl ?_;refine mvQ ?_;refine s_end ?_;refine w_split (fun h1 => ?_) (fun h1 => ?_)
        · refine w_skip rfl rfl ?_;refine w_skip rfl rfl ?_;refine w_skip rfl rfl ?_;refine w_skip rfl rfl ?_;refine w_skip rfl rfl ?_;refine w_step tok rfl ?_;refine piQ ?_;refine s_end ?_;refine w_step tok rfl ?_;refine mvQ ?_;refine s_end ?_;refine w_skip rfl rfl ?_;refine w_skip rfl rfl ?_;refine w_skip rfl rfl ?_;refine w_skip rfl rfl ?_;refine w_skip rfl rfl ?_;refine w_skip rfl rfl ?_;refine w_skip rfl rfl ?_;refine w_skip rfl rfl ?_;refine w_step tok rfl ?_;refine piQ ?_;refine s_end ?_;refine w_end rfl (hK _ ?_); clear hK K;exact ⟨_, (by simp only [Bool.not_eq_true', Bool.not_eq_false', Bool.not_eq_eq_eq_not, Bool.not_true, Bool.not_false] at h0 h1; simp only [linkB, h0, h1, Bool.true_and, Bool.false_and, Bool.not_true, Bool.not_false]), Wk.mk' ⟨rfl, rfl, rfl, rfl, rfl, trivial⟩ trivial⟩
        · refine w_step tok rfl ?_;refine faQ ?_;refine s_end ?_;refine w_step tok rfl ?_;refine ldQ ?_;refine s_end ?_;refine w_step tok rfl ?_;refine faQ ?_;refine s_end ?_;refine w_step tok rfl ?_;refine ldQ ?_;refine s_end ?_;refine w_step tok rfl ?_;refine biQ ?_;refine s_end ?_;refine w_step tok rfl ?_;refine piQ ?_;refine s_end ?_;refine w_step tok rfl ?_;refine mvQ ?_;refine s_end ?_;refine w_split (fun h2 => ?_) (fun h2 => ?_)
          · refine w_skip rfl rfl ?_;refine w_skip rfl rfl ?_;refine w_skip rfl rfl ?_;refine w_skip rfl rfl ?_;refine w_skip rfl rfl ?_;refine w_skip rfl rfl ?_;refine w_skip rfl rfl ?_;refine w_skip rfl rfl ?_;refine w_step tok rfl ?_;refine piQ ?_;refine s_end ?_;refine w_end rfl (hK _ ?_); clear hK K;exact ⟨_, (by simp only [Bool.not_eq_true', Bool.not_eq_false', Bool.not_eq_eq_eq_not, Bool.not_true, Bool.not_false] at h0 h1 h2; simp only [linkB, h0, h1, h2, Bool.true_and, Bool.false_and, Bool.not_true, Bool.not_false]), Wk.mk' ⟨rfl, rfl, rfl, rfl, rfl, trivial⟩ trivial⟩
          · refine w_step tok rfl ?_;refine faQ ?_;refine s_end ?_;refine w_step tok rfl ?_;refine ldQ ?_;refine s_end ?_;refine w_step tok rfl ?_;refine faQ ?_;refine s_end ?_;refine w_step tok rfl ?_;refine ldQ ?_;refine s_end ?_;refine w_step tok rfl ?_;refine faQ ?_;refine s_end ?_;refine w_step tok rfl ?_;refine ldQ ?_;refine s_end ?_;refine w_step tok rfl ?_;refine s_call rfl rfl (step_c _ _ _) rfl rfl rfl rfl ?_;refine s_end ?_;refine w_step tok rfl ?_;refine s_un rfl rfl rfl ?_;refine s_end ?_;refine w_step tok rfl ?_;refine piQ ?_;refine s_end ?_;refine w_end rfl (hK _ ?_); clear hK K;exact ⟨_, (by simp only [Bool.not_eq_true', Bool.not_eq_false', Bool.not_eq_eq_eq_not, Bool.not_true, Bool.not_false] at h0 h1 h2; simp only [linkB, h0, h1, h2, Bool.true_and, Bool.false_and, Bool.not_true, Bool.not_false]), Wk.mk' ⟨rfl, rfl, rfl, rfl, rfl, trivial⟩ trivial⟩
    rintro c rfl
    refine a_cond rfl (fun hd => ?_) (fun hd => ?_)
    · refine AWP_reg_seq tok fun K hK => ?_;refine asQ ?_;refine s_end (hK _ ?_); clear hK K;refine AWP_ret ?_
      repeat (with_reducible refine tq_ret ?_)
      exact post_ret (fin_mk (by rfl) (by rfl) (by exact dB_eq (by rw [Bool.not_eq_true'] at hd; simp only [validB]; rw [Bool.and_eq_false_iff]; right; rw [List.all_eq_false]; exact ⟨l, hl ▸ List.getElem_mem hg, by rw [hd]; simp⟩)))
    · refine AWP_skip ?_;show AWP _ _ _ _ _ _;refine AWP_reg tok fun K hK => ?_;refine s_bin rfl (e_add rfl (by omega)) rfl ?_;refine mvQ ?_;refine s_end (hK _ ?_); clear hK K;refine ⟨i + 1, by omega, ⟨hg, ?_⟩, Wk.mk' ⟨rfl, rfl, rfl, rfl, trivial⟩ trivial⟩;rw [List.take_succ_eq_append_getElem hg, List.all_append, ht, ← hl]
      simpa using hd
  · have hg : i = g.links.length := by simp at hg; omega
    subst hg
    refine AWP_exit ?_;show AWP _ _ _ _ _ _;refine AWP_reg_seq tok fun K hK => ?_;refine asQ ?_;refine s_end (hK _ ?_); clear hK K;refine AWP_ret ?_
    repeat (with_reducible refine tq_ret ?_)
    exact post_ret (fin_mk (by rfl) (by rfl) (by exact dB_eq (by rw [List.take_length] at ht; simp only [validB, ht, decide_eq_true hc, Bool.true_and])))
end Go.Proofs.YtgopibpkgmafiaaGreat

/- The reference's validity, sizes and comparisons of graphs. No condition. -/
namespace Go.Proofs.YtgopibpkgmafiaaGreat
attribute [local irreducible] lexA

theorem e_ne (a b : Int) : (a != b) = decide (a ≠ b) := by
  rw [Bool.eq_iff_iff]; simp
theorem r28link_c (l : LK) (n : Nat) : Con Tryz.prog 59 [AG l.cs, dI n] { v := dB (linkB n l) } := by
  have e : linkB n l = (decide (l.f ≥ 0) && decide (l.f < n) && decide (l.t ≥ 0) && decide (l.t < n) && decide (l.f ≠ l.t) && (inR l.x (-1048576) 1048576 && inR l.y (-1048576) 1048576 && decide (l.w ≥ 1) && decide (l.w ≤ 1048576))) := by
    rw [Bool.eq_iff_iff, linkB_iff];simp only [Bool.and_eq_true, decide_eq_true_eq, inR]
    constructor
    · rintro ⟨h1, h2, h3, h4, h5, h6⟩
      exact ⟨⟨⟨⟨⟨h1.1, h1.2⟩, h2.1⟩, h2.2⟩, h3⟩, ⟨⟨h4, h5⟩, h6.1⟩, h6.2⟩
    · rintro ⟨⟨⟨⟨⟨h1, h1'⟩, h2⟩, h2'⟩, h3⟩, ⟨⟨h4, h5⟩, h6⟩, h6'⟩
      exact ⟨⟨h1, h1'⟩, ⟨h2, h2'⟩, h3, h4, h5, h6, h6'⟩
  rw [e];refine con_intro (fn := Tryz.f59) tok Tryz.func59 (by kernel_rfl) rfl ?_
  intro w0 X
  rw [entry_mkE _ _ [(0, AG l.cs), (1, dI n)] rfl rfl];refine AWP_reg_seq tok fun K hK => ?_;refine s_box rfl rfl rfl rfl rfl rfl ?_;refine asQ ?_;refine s_end (hK _ ?_); clear hK K;refine a_join (α := Bool) (fun c => mk 54 [(2, .ptr 2 0), (5, dB c)] [(2, some (.box l.cs))] []) (fun c => c = (decide (l.f ≥ 0) && decide (l.f < n) && decide (l.t ≥ 0) && decide (l.t < n) && decide (l.f ≠ l.t))) ?_ ?_
  · refine AWP_regW fun K hK => ?_;refine w_step tok rfl ?_;refine faQ ?_;refine s_end ?_;refine w_step tok rfl ?_;refine ldQ ?_;refine s_end ?_;refine w_step tok rfl ?_;refine biQ ?_;refine s_end ?_;refine w_step tok rfl ?_;refine mvQ ?_;refine s_end ?_;refine w_split (fun h0 => ?_) (fun h0 => ?_)
    · refine w_step tok rfl ?_;refine faQ ?_;refine s_end ?_;refine w_step tok rfl ?_;refine ldQ ?_;refine s_end ?_;refine w_step tok rfl ?_;refine mvQ ?_;refine s_end ?_;refine w_step tok rfl ?_;refine biQ ?_;refine s_end ?_;refine w_step tok rfl ?_;refine piQ ?_;refine s_end ?_;refine w_step tok rfl ?_;refine mvQ ?_;refine s_end ?_;refine w_split (fun h1 => ?_) (fun h1 => ?_)
      · refine w_step tok rfl ?_;refine faQ ?_;refine s_end ?_;refine w_step tok rfl ?_;refine ldQ ?_;refine s_end ?_;refine w_step tok rfl ?_;refine biQ ?_;refine s_end ?_;refine w_step tok rfl ?_;refine piQ ?_;refine s_end ?_;refine w_step tok rfl ?_;refine mvQ ?_;refine s_end ?_;refine w_split (fun h2 => ?_) (fun h2 => ?_)
        · refine w_step tok rfl ?_;refine faQ ?_;refine s_end ?_;refine w_step tok rfl ?_;refine ldQ ?_;refine s_end ?_;refine w_step tok rfl ?_;refine mvQ ?_;refine s_end ?_;refine w_step tok rfl ?_;refine biQ ?_;refine s_end ?_;refine w_step tok rfl ?_;refine piQ ?_;refine s_end ?_;refine w_step tok rfl ?_;refine mvQ ?_;refine s_end ?_;refine w_split (fun h3 => ?_) (fun h3 => ?_)
          · refine w_step tok rfl ?_;refine faQ ?_;refine s_end ?_;refine w_step tok rfl ?_;refine ldQ ?_;refine s_end ?_;refine w_step tok rfl ?_;refine faQ ?_;refine s_end ?_;refine w_step tok rfl ?_;refine ldQ ?_;refine s_end ?_;refine w_step tok rfl ?_;refine biQ ?_;refine s_end ?_;refine w_step tok rfl ?_;refine piQ ?_;refine s_end ?_;refine w_step tok rfl ?_;refine asQ ?_;refine s_end ?_;refine w_end rfl (hK _ ?_); clear hK K;exact ⟨_, (by simp only [h0, h1, h2, h3, Bool.true_and, Bool.false_and, e_ne]), Wk.mk' ⟨rfl, rfl, trivial⟩ ⟨rfl, trivial⟩⟩
          · refine w_skip rfl rfl ?_;refine w_skip rfl rfl ?_;refine w_skip rfl rfl ?_;refine w_skip rfl rfl ?_;refine w_skip rfl rfl ?_;refine w_step tok rfl ?_;refine piQ ?_;refine s_end ?_;refine w_step tok rfl ?_;refine asQ ?_;refine s_end ?_;refine w_end rfl (hK _ ?_); clear hK K;exact ⟨_, (by simp only [h0, h1, h2, h3, Bool.true_and, Bool.false_and, e_ne]), Wk.mk' ⟨rfl, rfl, trivial⟩ ⟨rfl, trivial⟩⟩
        · refine w_skip rfl rfl ?_;refine w_skip rfl rfl ?_;refine w_skip rfl rfl ?_;refine w_skip rfl rfl ?_;refine w_step tok rfl ?_;refine piQ ?_;refine s_end ?_;refine w_step tok rfl ?_;refine mvQ ?_;refine s_end ?_;refine w_skip rfl rfl ?_;refine w_skip rfl rfl ?_;refine w_skip rfl rfl ?_;refine w_skip rfl rfl ?_;refine w_skip rfl rfl ?_;refine w_step tok rfl ?_;refine piQ ?_;refine s_end ?_;refine w_step tok rfl ?_;refine asQ ?_;refine s_end ?_;refine w_end rfl (hK _ ?_); clear hK K;exact ⟨_, (by simp only [h0, h1, h2, Bool.true_and, Bool.false_and, e_ne]), Wk.mk' ⟨rfl, rfl, trivial⟩ ⟨rfl, trivial⟩⟩
      · refine w_skip rfl rfl ?_;refine w_skip rfl rfl ?_;refine w_skip rfl rfl ?_;refine w_step tok rfl ?_;refine piQ ?_;refine s_end ?_;refine w_step tok rfl ?_;refine mvQ ?_;refine s_end ?_;refine w_skip rfl rfl ?_;refine w_skip rfl rfl ?_;refine w_skip rfl rfl ?_;refine w_skip rfl rfl ?_;refine w_step tok rfl ?_;refine piQ ?_;refine s_end ?_;refine w_step tok rfl ?_;refine mvQ ?_;refine s_end ?_;refine w_skip rfl rfl ?_;refine w_skip rfl rfl ?_;refine w_skip rfl rfl ?_;refine w_skip rfl rfl ?_;refine w_skip rfl rfl ?_;refine w_step tok rfl ?_;refine piQ ?_;refine s_end ?_;refine w_step tok rfl ?_;refine asQ ?_;refine s_end ?_;refine w_end rfl (hK _ ?_); clear hK K;exact ⟨_, (by simp only [h0, h1, Bool.true_and, Bool.false_and, e_ne]), Wk.mk' ⟨rfl, rfl, trivial⟩ ⟨rfl, trivial⟩⟩
    · refine w_skip rfl rfl ?_;refine w_skip rfl rfl ?_;refine w_skip rfl rfl ?_;refine w_skip rfl rfl ?_;refine w_step tok rfl ?_;refine piQ ?_;refine s_end ?_;refine w_step tok rfl ?_;refine mvQ ?_;refine s_end ?_;refine w_skip rfl rfl ?_;refine w_skip rfl rfl ?_;refine w_skip rfl rfl ?_;refine w_step tok rfl ?_;refine piQ ?_;refine s_end ?_;refine w_step tok rfl ?_;refine mvQ ?_;refine s_end ?_;refine w_skip rfl rfl ?_;refine w_skip rfl rfl ?_;refine w_skip rfl rfl ?_;refine w_skip rfl rfl ?_;refine w_step tok rfl ?_;refine piQ ?_;refine s_end ?_;refine w_step tok rfl ?_;refine mvQ ?_;refine s_end ?_;refine w_skip rfl rfl ?_;refine w_skip rfl rfl ?_;refine w_skip rfl rfl ?_;refine w_skip rfl rfl ?_;refine w_skip rfl rfl ?_;refine w_step tok rfl ?_;refine piQ ?_;refine s_end ?_;refine w_step tok rfl ?_;refine asQ ?_;refine s_end ?_;refine w_end rfl (hK _ ?_); clear hK K;exact ⟨_, (by simp only [h0, Bool.true_and, Bool.false_and, e_ne]), Wk.mk' ⟨rfl, rfl, trivial⟩ ⟨rfl, trivial⟩⟩
  rintro c rfl
  refine AWP_regW_seq fun K hK => ?_;refine w_step tok rfl ?_;refine mvQ ?_;refine s_end ?_;refine w_step tok rfl ?_;refine mvQ ?_;refine s_end ?_;refine w_split (fun h0 => ?_) (fun h0 => ?_)
  · refine w_step tok rfl ?_;refine faQ ?_;refine s_end ?_;refine w_step tok rfl ?_;refine ldQ ?_;refine s_end ?_;refine w_step tok rfl ?_;refine s_call rfl rfl (bSize_c l.x 1048576 ⟨by decide, by decide⟩) rfl rfl rfl rfl ?_;refine s_end ?_;refine w_step tok rfl ?_;refine piQ ?_;refine s_end ?_;refine w_step tok rfl ?_;refine mvQ ?_;refine s_end ?_;refine w_split (fun h1 => ?_) (fun h1 => ?_)
    · refine w_step tok rfl ?_;refine faQ ?_;refine s_end ?_;refine w_step tok rfl ?_;refine ldQ ?_;refine s_end ?_;refine w_step tok rfl ?_;refine s_call rfl rfl (bSize_c l.y 1048576 ⟨by decide, by decide⟩) rfl rfl rfl rfl ?_;refine s_end ?_;refine w_step tok rfl ?_;refine piQ ?_;refine s_end ?_;refine w_step tok rfl ?_;refine mvQ ?_;refine s_end ?_;refine w_split (fun h2 => ?_) (fun h2 => ?_)
      · refine w_step tok rfl ?_;refine faQ ?_;refine s_end ?_;refine w_step tok rfl ?_;refine ldQ ?_;refine s_end ?_;refine w_step tok rfl ?_;refine biQ ?_;refine s_end ?_;refine w_step tok rfl ?_;refine piQ ?_;refine s_end ?_;refine w_step tok rfl ?_;refine mvQ ?_;refine s_end ?_;refine w_split (fun h3 => ?_) (fun h3 => ?_)
        · refine w_step tok rfl ?_;refine faQ ?_;refine s_end ?_;refine w_step tok rfl ?_;refine ldQ ?_;refine s_end ?_;refine w_step tok rfl ?_;refine biQ ?_;refine s_end ?_;refine w_step tok rfl ?_;refine piQ ?_;refine s_end ?_;refine w_step tok rfl ?_;refine asQ ?_;refine s_end ?_;refine w_end rfl (hK _ ?_); clear hK K;refine AWP_ret ?_
          repeat (with_reducible refine tq_ret ?_)
          exact post_ret (fin_mk (by rfl) (by rfl) (by exact dB_eq (by simp only [inR] at h0 h1 h2 h3 ⊢; simp only [h0, h1, h2, h3, Bool.true_and, Bool.false_and])))
        · refine w_skip rfl rfl ?_;refine w_skip rfl rfl ?_;refine w_skip rfl rfl ?_;refine w_step tok rfl ?_;refine piQ ?_;refine s_end ?_;refine w_step tok rfl ?_;refine asQ ?_;refine s_end ?_;refine w_end rfl (hK _ ?_); clear hK K;refine AWP_ret ?_
          repeat (with_reducible refine tq_ret ?_)
          exact post_ret (fin_mk (by rfl) (by rfl) (by exact dB_eq (by simp only [inR] at h0 h1 h2 h3 ⊢; simp only [h0, h1, h2, h3, Bool.true_and, Bool.false_and])))
      · refine w_skip rfl rfl ?_;refine w_skip rfl rfl ?_;refine w_skip rfl rfl ?_;refine w_step tok rfl ?_;refine piQ ?_;refine s_end ?_;refine w_step tok rfl ?_;refine mvQ ?_;refine s_end ?_;refine w_skip rfl rfl ?_;refine w_skip rfl rfl ?_;refine w_skip rfl rfl ?_;refine w_step tok rfl ?_;refine piQ ?_;refine s_end ?_;refine w_step tok rfl ?_;refine asQ ?_;refine s_end ?_;refine w_end rfl (hK _ ?_); clear hK K;refine AWP_ret ?_
        repeat (with_reducible refine tq_ret ?_)
        exact post_ret (fin_mk (by rfl) (by rfl) (by exact dB_eq (by simp only [inR] at h0 h1 h2 ⊢; simp only [h0, h1, h2, Bool.true_and, Bool.false_and])))
    · refine w_skip rfl rfl ?_;refine w_skip rfl rfl ?_;refine w_skip rfl rfl ?_;refine w_step tok rfl ?_;refine piQ ?_;refine s_end ?_;refine w_step tok rfl ?_;refine mvQ ?_;refine s_end ?_;refine w_skip rfl rfl ?_;refine w_skip rfl rfl ?_;refine w_skip rfl rfl ?_;refine w_step tok rfl ?_;refine piQ ?_;refine s_end ?_;refine w_step tok rfl ?_;refine mvQ ?_;refine s_end ?_;refine w_skip rfl rfl ?_;refine w_skip rfl rfl ?_;refine w_skip rfl rfl ?_;refine w_step tok rfl ?_;refine piQ ?_;refine s_end ?_;refine w_step tok rfl ?_;refine asQ ?_;refine s_end ?_;refine w_end rfl (hK _ ?_); clear hK K;refine AWP_ret ?_
      repeat (with_reducible refine tq_ret ?_)
      exact post_ret (fin_mk (by rfl) (by rfl) (by exact dB_eq (by simp only [inR] at h0 h1 ⊢; simp only [h0, h1, Bool.true_and, Bool.false_and])))
  · refine w_skip rfl rfl ?_;refine w_skip rfl rfl ?_;refine w_skip rfl rfl ?_;refine w_step tok rfl ?_;refine piQ ?_;refine s_end ?_;refine w_step tok rfl ?_;refine mvQ ?_;refine s_end ?_;refine w_skip rfl rfl ?_;refine w_skip rfl rfl ?_;refine w_skip rfl rfl ?_;refine w_step tok rfl ?_;refine piQ ?_;refine s_end ?_;refine w_step tok rfl ?_;refine mvQ ?_;refine s_end ?_;refine w_skip rfl rfl ?_;refine w_skip rfl rfl ?_;refine w_skip rfl rfl ?_;refine w_step tok rfl ?_;refine piQ ?_;refine s_end ?_;refine w_step tok rfl ?_;refine mvQ ?_;refine s_end ?_;refine w_skip rfl rfl ?_;refine w_skip rfl rfl ?_;refine w_skip rfl rfl ?_;refine w_step tok rfl ?_;refine piQ ?_;refine s_end ?_;refine w_step tok rfl ?_;refine asQ ?_;refine s_end ?_;refine w_end rfl (hK _ ?_); clear hK K;refine AWP_ret ?_
    repeat (with_reducible refine tq_ret ?_)
    exact post_ret (fin_mk (by rfl) (by rfl) (by exact dB_eq (by simp only [inR] at h0 ⊢; simp only [h0, Bool.true_and, Bool.false_and])))

theorem r28Valid_c (g : GR) (hm : g.links.length ≤ 9223372036854775806) : Con Tryz.prog 31 [AG g.cs] { v := dB (validB g) } := by
  refine con_intro (fn := Tryz.f31) tok Tryz.func31 (by kernel_rfl) rfl ?_
  intro w0 X
  rw [entry_mkE _ _ [(0, AG g.cs)] rfl rfl];refine AWP_reg_seq tok fun K hK => ?_;refine s_box rfl rfl rfl rfl rfl rfl ?_;refine asQ ?_;refine s_end (hK _ ?_); clear hK K;refine AWP_seq ?_;refine AWP_reg_seq tok fun K hK => ?_;refine asQ ?_;refine s_end (hK _ ?_); clear hK K;refine AWP_block (a_loop (α := Nat) (fun i => mk 37 [(1, .ptr 1 0), (3, dI i)] [(1, some (.box g.cs))] []) (fun i => i ≤ g.links.length ∧ (g.links.take i).all (linkB g.nodes.length) = true) (fun i => g.links.length - i) 0 ?_ ⟨Nat.zero_le _, rfl⟩ ?_)
  · exact Wk.mk' ⟨rfl, rfl, trivial⟩ ⟨rfl, trivial⟩
  rintro i ⟨hi, ht⟩
  refine AWP_seq ?_;refine AWP_reg_seq tok fun K hK => ?_;refine mvQ ?_;refine faQ ?_;refine ldQ ?_;refine s_blt rfl (len_m LK.dc rfl rfl) rfl ?_;refine biQ ?_;refine s_end (hK _ ?_); clear hK K;refine a_cond rfl (fun hg => ?_) (fun hg => ?_)
  · have hg : i < g.links.length := by simp at hg; omega
    obtain ⟨l, hl⟩ : ∃ l, l = g.links[i] := ⟨_, rfl⟩
    refine AWP_skip ?_;show AWP _ _ _ _ _ _;refine AWP_seq ?_;refine AWP_block ?_;refine a_draw tok mixed (A := [[], [], [], [0], [0, 1, 2], [], [], [5], [0, 1, 2, 3, 5, 6], [0, 1, 2, 3, 4, 5, 6, 7]]) (an := [{}, {}, {}, {}, {}, {}, {}, {}, {}, {}]) rfl (by kernel_rfl) rfl fun K hK => ?_;refine faQ ?_;refine ldQ ?_;refine mvQ ?_;refine s_indexAddr rfl (x_m LK.dc rfl rfl rfl rfl hg rfl) rfl ?_;refine ldQ ?_;refine faQ ?_;refine ldQ ?_;refine s_blt rfl (len_m RW.dc rfl rfl) rfl ?_;refine s_call rfl rfl (r28link_c g.links[i] _) rfl rfl rfl rfl ?_;refine s_un rfl rfl rfl ?_;refine s_end (hK _ ?_); clear hK K;rw [← hl];refine a_cond rfl (fun hd => ?_) (fun hd => ?_)
    · refine AWP_reg_seq tok fun K hK => ?_;refine asQ ?_;refine s_end (hK _ ?_); clear hK K;refine AWP_ret ?_
      repeat (with_reducible refine tq_ret ?_)
      exact post_ret (fin_mk (by rfl) (by rfl) (by exact dB_eq (by rw [Bool.not_eq_true'] at hd; simp only [validB]; rw [Bool.and_eq_false_iff]; right; rw [List.all_eq_false]; exact ⟨l, hl ▸ List.getElem_mem hg, by rw [hd]; simp⟩)))
    · refine AWP_skip ?_;show AWP _ _ _ _ _ _;refine AWP_reg tok fun K hK => ?_;refine mvQ ?_;refine s_bin rfl (e_add rfl (by omega)) rfl ?_;refine asQ ?_;refine s_end (hK _ ?_); clear hK K;refine ⟨i + 1, by omega, ⟨hg, ?_⟩, Wk.mk' ⟨rfl, rfl, trivial⟩ ⟨rfl, trivial⟩⟩;rw [List.take_succ_eq_append_getElem hg, List.all_append, ht, ← hl]
      simpa using hd
  · have hg : i = g.links.length := by simp at hg; omega
    subst hg
    refine AWP_exit ?_;show AWP _ _ _ _ _ _;rw [List.take_length] at ht
    have e : validB g = (decide (((g.nodes.length : Int)) ≥ 1) && decide (((g.nodes.length : Int)) ≤ 16) && decide (((g.links.length : Int)) ≤ 48)) := by
      rw [Bool.eq_iff_iff];simp only [validB, ht, Bool.and_true, Bool.and_eq_true, decide_eq_true_eq]
      omega
    rw [e];refine AWP_regW_seq fun K hK => ?_;refine w_step tok rfl ?_;refine faQ ?_;refine s_end ?_;refine w_step tok rfl ?_;refine ldQ ?_;refine s_end ?_;refine w_step tok rfl ?_;refine s_blt rfl (len_m RW.dc rfl rfl) rfl ?_;refine s_end ?_;refine w_step tok rfl ?_;refine biQ ?_;refine s_end ?_;refine w_step tok rfl ?_;refine mvQ ?_;refine s_end ?_;refine w_split (fun h0 => ?_) (fun h0 => ?_)
    · refine w_step tok rfl ?_;refine faQ ?_;refine s_end ?_;refine w_step tok rfl ?_;refine ldQ ?_;refine s_end ?_;refine w_step tok rfl ?_;refine s_blt rfl (len_m RW.dc rfl rfl) rfl ?_;refine s_end ?_;refine w_step tok rfl ?_;refine biQ ?_;refine s_end ?_;refine w_step tok rfl ?_;refine piQ ?_;refine s_end ?_;refine w_step tok rfl ?_;refine mvQ ?_;refine s_end ?_;refine w_split (fun h1 => ?_) (fun h1 => ?_)
      · refine w_step tok rfl ?_;refine faQ ?_;refine s_end ?_;refine w_step tok rfl ?_;refine ldQ ?_;refine s_end ?_;refine w_step tok rfl ?_;refine s_blt rfl (len_m LK.dc rfl rfl) rfl ?_;refine s_end ?_;refine w_step tok rfl ?_;refine biQ ?_;refine s_end ?_;refine w_step tok rfl ?_;refine piQ ?_;refine s_end ?_;refine w_step tok rfl ?_;refine asQ ?_;refine s_end ?_;refine w_end rfl (hK _ ?_); clear hK K;refine AWP_ret ?_
        repeat (with_reducible refine tq_ret ?_)
        exact post_ret (fin_mk (by rfl) (by rfl) (by exact dB_eq (by simp only [h0, h1, Bool.true_and, Bool.false_and])))
      · refine w_skip rfl rfl ?_;refine w_skip rfl rfl ?_;refine w_skip rfl rfl ?_;refine w_skip rfl rfl ?_;refine w_step tok rfl ?_;refine piQ ?_;refine s_end ?_;refine w_step tok rfl ?_;refine asQ ?_;refine s_end ?_;refine w_end rfl (hK _ ?_); clear hK K;refine AWP_ret ?_
        repeat (with_reducible refine tq_ret ?_)
        exact post_ret (fin_mk (by rfl) (by rfl) (by exact dB_eq (by simp only [h0, h1, Bool.true_and, Bool.false_and])))
    · refine w_skip rfl rfl ?_;refine w_skip rfl rfl ?_;refine w_skip rfl rfl ?_;refine w_skip rfl rfl ?_;refine w_step tok rfl ?_;refine piQ ?_;refine s_end ?_;refine w_step tok rfl ?_;refine mvQ ?_;refine s_end ?_;refine w_skip rfl rfl ?_;refine w_skip rfl rfl ?_;refine w_skip rfl rfl ?_;refine w_skip rfl rfl ?_;refine w_step tok rfl ?_;refine piQ ?_;refine s_end ?_;refine w_step tok rfl ?_;refine asQ ?_;refine s_end ?_;refine w_end rfl (hK _ ?_); clear hK K;refine AWP_ret ?_
      repeat (with_reducible refine tq_ret ?_)
      exact post_ret (fin_mk (by rfl) (by rfl) (by exact dB_eq (by simp only [h0, Bool.true_and, Bool.false_and])))

end Go.Proofs.YtgopibpkgmafiaaGreat

/- Displacements, residuals, costs. No condition. -/
namespace Go.Proofs.YtgopibpkgmafiaaGreat
attribute [local irreducible] lexA

structure SP.OK (k : Nat) (s : SP) : Prop where
  x : s.x.OK k
  y : s.y.OK k
theorem SP.OK.mono {s : SP} {k m : Nat} (h : s.OK k) (hk : Nat.ble k m = true) : s.OK m := ⟨h.x.mono hk, h.y.mono hk⟩
theorem ql_i64 {n : Int} (h : I64 n) : ql (n : Rat) ≤ 2 := by rw [ql_int]; exact Nat.max_le.2 ⟨zl_i64 h, by decide⟩

theorem LV.lt {n : Nat} {l : LK} (h : LV n l) : ∃ i j : Nat, i < n ∧ j < n ∧ l.f = i ∧ l.t = j ∧ i ≠ j := by
  obtain ⟨⟨a, b⟩, ⟨c, d⟩, e, _⟩ := h
  exact ⟨l.f.toNat, l.t.toNat, by omega, by omega, by omega, by omega, by omega⟩
def rot0 : RW := pzW 0 1
def rw00 : RW := ⟨false, [], false, []⟩
end Go.Proofs.YtgopibpkgmafiaaGreat

/- Residuals, costs, moved positions. No condition. -/
namespace Go.Proofs.YtgopibpkgmafiaaGreat
attribute [local irreducible] lexA

structure GS (g : GR) (s : List SP) : Prop where
  gv : GV g
  hs : s.length = g.nodes.length
theorem qOfI_c (n : Int) (hn : I64 n) : Con Tryz.prog 29 [dI n, dI 1] { v := AG (qzW n).cs } := by
  have c := qOf_c n 1 hn ⟨by decide, by decide⟩
  rw [divInt_one] at c;exact c

end Go.Proofs.YtgopibpkgmafiaaGreat

/- The residual of a link; moved positions. No condition. -/
namespace Go.Proofs.YtgopibpkgmafiaaGreat
attribute [local irreducible] lexA

end Go.Proofs.YtgopibpkgmafiaaGreat

/- Chains. No condition. -/
namespace Go.Proofs.YtgopibpkgmafiaaGreat
attribute [local irreducible] lexA

def thW (a b : RW) : RW := pzW (thP a.p a.q b.p b.q) (thQ a.p a.q b.p b.q)
def cn (ts : List RW) : Nat → RW
  | 0 => rot0
  | i + 1 => thW (cn ts i) (ts.getD i rot0)
def PT.at (st : List PT) (i : Nat) : PT := st.getD i ⟨0, 0⟩
end Go.Proofs.YtgopibpkgmafiaaGreat

/- The components of a graph. No condition. -/
namespace Go.Proofs.YtgopibpkgmafiaaGreat
attribute [local irreducible] lexA

def cN (x : Nat) : List DC := [lI x]
def dNs (r : List Nat) : DC := .sl (r.map cN)
section
variable {T : Tab} {t e : TypeId} {ti ei : TI} {i : Nat}
theorem x_N {k : IntKind} {n : Int} {r : List Nat} (h1 : T t = some ti) (h2 : ti.und = .slice e) (h3 : T e = some ei) (h4 : ei.size = 1) (hn : n = (i : Int)) (hi : i < r.length) :
    effIndexAddr T t (V1 (dNs r)) (V1 (.lit (.int k n))) = .set (.pd (cN (r.getD i 0))) := by
  rw [getD_get hi]; exact x_m cN h1 h2 h3 hn hi (by rw [h4]; rfl)
theorem l_N {S : Objs} {id : Nat} {r : List Nat} (h1 : T t = some ti) (h4 : ti.size = 1) (h5 : ti.agg = false) (hS : S id = some (.arr 1 (r.map cN))) (hi : i < r.length) :
    effLoad T ⟨[], S, []⟩ t (.pe id 1 i 0) = .set (dI (r.getD i 0 : Nat)) := by
  rw [getD_get hi]; exact l_o h1 hS (by rw [List.getElem?_map, List.getElem?_eq_getElem hi]; rfl) (by rw [h4]; rfl) (by rw [h5]; rfl)
theorem st_N {S : Objs} {rb : List Nat} {id : Nat} {y : Int} {z : Nat} {r : List Nat} (h1 : T t = some ti) (h4 : ti.size = 1) (hS : S id = some (.arr 1 (r.map cN))) (hi : i < r.length) (hy : y = (z : Int)) :
    effStore T ⟨[], S, rb⟩ t (.pe id 1 i 0) (dI y) = .upd (updO S id (.arr 1 ((r.set i z).map cN))) rb := by
  subst hy
  rw [st_o (ds := cN z) h1 hS (by simpa using hi) (fun el hel => by rw [List.getElem?_map, List.getElem?_eq_getElem hi] at hel; cases hel; rw [h4]; rfl) rfl (by rw [h4]; rfl) (by rw [h4]; rfl)];rw [List.map_set]
theorem mk_a {k k' : IntKind} {n m : Int} {l sz : Nat} {z : List DC} (h1 : T t = some ti) (h2 : ti.und = .slice e) (h3 : T e = some ei) (h4 : ei.size = sz) (h5 : zeroO ei l = .arr sz (List.replicate l z)) (h6 : ei.bytes ≤ 256) (h0 : sz ≠ 0)
    (hn : n = (l : Int)) (hm : m = (l : Int)) (hc : l ≤ 1099511627776) :
    effMakeSlice T t (V1 (.lit (.int k n))) (V1 (.lit (.int k' m))) = .new (.arr sz (List.replicate l z)) (fun d => .val (.one (.own d sz 0 l))) := by
  subst hn hm h4
  simp only [effMakeSlice, h1, h2, h3, intOfS];rw [if_pos ⟨Int.natCast_nonneg _, by omega, Nat.ble_eq_true_of_le (by simp only [Int.toNat_natCast]; omega), h6, h0⟩];simp only [Int.toNat_natCast, h5]
theorem mk_N {k k' : IntKind} {n m : Int} {l : Nat} (h1 : T t = some ti) (h2 : ti.und = .slice e) (h3 : T e = some ei) (h4 : ei.size = 1) (h5 : zeroO ei l = .arr 1 (List.replicate l [lI 0])) (h6 : ei.bytes ≤ 256)
    (hn : n = (l : Int)) (hm : m = (l : Int)) (hc : l ≤ 1099511627776) :
    effMakeSlice T t (V1 (.lit (.int k n))) (V1 (.lit (.int k' m))) = .new (.arr 1 ((List.replicate l 0).map cN)) (fun d => .val (.one (.own d 1 0 l))) := by
  rw [List.map_replicate];exact mk_a h1 h2 h3 h4 h5 h6 (by decide) hn hm hc
end

theorem find_c (r : List Nat) (v : Nat) (h : RG r) (hv : v < r.length) : Con Tryz.prog 83 [dI v, .pd [dNs r]] { v := dI (fd r v) } := by
  refine con_intro (fn := Tryz.f83) tok Tryz.func83 (by kernel_rfl) rfl ?_
  intro w0 X
  rw [entry_mkE _ _ [(0, dI v), (1, .pd [dNs r])] rfl rfl];refine AWP_reg_seq tok fun K hK => ?_;refine asQ ?_;refine s_end (hK _ ?_); clear hK K;refine AWP_seq ?_;refine AWP_block (a_loop (α := Nat) (fun u => mk 15 [(0, dI u), (1, .pd [dNs r])] [] []) (fun u => u < r.length ∧ fd r u = fd r v) (fun u => u) v ?_ ⟨hv, rfl⟩ ?_)
  · exact Wk.mk' ⟨rfl, rfl, trivial⟩ trivial
  rintro u ⟨hu, he⟩
  refine AWP_seq ?_;refine AWP_reg_seq tok fun K hK => ?_;refine ldQ ?_;refine mvQ ?_;refine s_indexAddr rfl (x_N rfl rfl rfl rfl rfl hu) rfl ?_;refine ldQ ?_;refine mvQ ?_;refine biQ ?_;refine s_end (hK _ ?_); clear hK K;refine a_cond rfl (fun hc => ?_) (fun hc => ?_)
  · have hc : r.getD u 0 ≠ u := by simp only [e_ne, decide_eq_true_eq] at hc; omega
    have hlt : r.getD u 0 < u := by have := h u; omega
    refine AWP_skip ?_;show AWP _ _ _ _ _ _;refine AWP_block ?_;refine AWP_reg tok fun K hK => ?_;refine ldQ ?_;refine mvQ ?_;refine s_indexAddr rfl (x_N rfl rfl rfl rfl rfl hu) rfl ?_;refine ldQ ?_;refine asQ ?_;refine s_end (hK _ ?_); clear hK K;refine ⟨r.getD u 0, hlt, ⟨by omega, ?_⟩, Wk.mk' ⟨rfl, rfl, trivial⟩ trivial⟩;rw [← he, fd_eq h u, if_neg hc]
  · have hc : r.getD u 0 = u := by simp only [e_ne, decide_eq_false_iff_not] at hc; omega
    have e : fd r v = u := by rw [← he, fd_eq h u, if_pos hc]
    rw [e];refine AWP_exit ?_;show AWP _ _ _ _ _ _;refine AWP_reg_seq tok fun K hK => ?_;refine mvQ ?_;refine asQ ?_;refine s_end (hK _ ?_); clear hK K;refine AWP_ret ?_
    repeat (with_reducible refine tq_ret ?_)
    exact post_ret (fin_mk (by rfl) (by rfl) (by rfl))

def natC : List DC → Nat
  | [.lit (.int _ n)] => n.toNat
  | _ => 0
theorem natC_cN (x : Nat) : natC (cN x) = x := by simp [natC, cN]
open Classical in
noncomputable def tabP : Tab :=
  { tab with
    clo := fun f args => match args with
      | [.val (.one (.d (.lit (.int .i64 v)))), .pd [.sl es]] =>
        if f = 83 ∧ es = (es.map natC).map cN ∧ RG (es.map natC) ∧ 0 ≤ v ∧ v.toNat < es.length then some (dI (fd (es.map natC) v.toNat)) else none
      | _ => none }
theorem tokP : TOK Tryz.prog tabP := by
  refine ⟨tok.ty, ?_, tok.eqs⟩
  intro f args x h
  simp only [tabP] at h
  split at h
  · split at h
    · next hc =>
      obtain ⟨rfl, he, hr, h0, hl⟩ := hc
      cases h
      refine ⟨?_, rfl, rfl, rfl⟩
      rename_i v es
      have := find_c (es.map natC) v.toNat hr (by simpa using hl)
      rw [dNs, ← he, Int.toNat_of_nonneg h0] at this;exact this
    · cases h
  · cases h
theorem clo_N {S : Objs} {id a n : Nat} {v : Int} {u : Nat} {r : List Nat} (hi : S id = some (.box [.own a 1 0 n])) (ha : S a = some (.arr 1 (r.map cN))) (hn : n = r.length) (hr : RG r) (hv : v = (u : Int)) (hu : u < r.length) :
    effClo tabP ⟨[], S, []⟩ (.clo 83 id) [dI v] = .set (dI (fd r u)) := by
  subst hn hv
  have hm : ((r.map cN).map natC) = r := by rw [List.map_map]; exact (List.map_congr_left fun x _ => natC_cN x).trans (List.map_id r)
  have hd : capOf ⟨[], S, []⟩ id = some [dNs r] := by
    simp only [capOf, hi, dataCs, dataC, ha, List.length_map, Nat.zero_add, Nat.le_refl, and_self, if_true, dataL, SC.data?, List.drop_zero];rw [List.take_of_length_le (by simp)]; rfl
  have hc : tabP.clo 83 [dI u, .pd [dNs r]] = some (dI (fd r u)) := by
    simp only [tabP, dNs];rw [if_pos ⟨rfl, by rw [hm], by rw [hm]; exact hr, Int.natCast_nonneg _, by simpa using hu⟩, hm, Int.toNat_natCast]
  simp only [effClo, hd];simp only [argsOf, argOf, dataC]
  show (match tabP.clo _ [dI u, .pd [dNs r]] with | some v => Eff.set v | none => Eff.stuck) = _
  rw [hc]
end Go.Proofs.YtgopibpkgmafiaaGreat

/- Parts. No condition. -/
namespace Go.Proofs.YtgopibpkgmafiaaGreat
attribute [local irreducible] lexA

def partsL (n : Nat) (ls : List LK) : List Nat := ls.foldl (fun r l => uni r l.f.toNat l.t.toNat) (List.range n)
def partsR (g : GR) : List Nat := partsL g.nodes.length g.links
def partsV (g : GR) : List Nat × Int := if validB g then ((num (partsR g) g.nodes.length).1, 0) else ([], 1)
theorem partsL_ok (n : Nat) (ls : List LK) : RG (partsL n ls) ∧ (partsL n ls).length = n := by
  have : ∀ (ls : List LK) (r : List Nat), RG r → RG (ls.foldl (fun r l => uni r l.f.toNat l.t.toNat) r) ∧ (ls.foldl (fun r l => uni r l.f.toNat l.t.toNat) r).length = r.length := by
    intro ls
    induction ls with
    | nil => intro r h; exact ⟨h, rfl⟩
    | cons l ls ih =>
      intro r h
      rw [List.foldl_cons]
      have := ih _ (RG_uni h l.f.toNat l.t.toNat)
      rw [uni_length] at this;exact this
  have h := this ls (List.range n) (RG_range n)
  rw [List.length_range] at h;exact h
theorem partsL_snoc (n : Nat) {ls : List LK} {i : Nat} (hi : i < ls.length) : partsL n (ls.take (i + 1)) = uni (partsL n (ls.take i)) ls[i].f.toNat ls[i].t.toNat := by
  rw [List.take_succ_eq_append_getElem hi, partsL, List.foldl_append]; rfl
theorem set_zero {l : List Nat} {i n x : Nat} (hl : l.length = i) (hi : i < n) : (l ++ List.replicate (n - i) 0).set i x = (l ++ [x]) ++ List.replicate (n - (i + 1)) 0 := by
  subst hl
  obtain ⟨k, hk⟩ : ∃ k, n - l.length = k + 1 := ⟨n - l.length - 1, by omega⟩
  rw [hk, List.set_append_right _ _ (Nat.le_refl _), Nat.sub_self, List.replicate_succ, List.set_cons_zero, List.append_assoc, show n - (l.length + 1) = k by omega]; rfl
theorem getD_zero {l : List Nat} {i n : Nat} (hi : i < l.length) : (l ++ List.replicate n 0).getD i 0 = l.getD i 0 := by
  rw [List.getD_eq_getElem?_getD, List.getElem?_append_left hi, ← List.getD_eq_getElem?_getD]

theorem mm_max {T : Tab} {S : Objs} (a b : Nat) {ts : List TypeId} : effCall T ⟨[], S, []⟩ (.builtin .max) [dI a, dI b] ts = .set (dI (max a b : Nat)) := by
  have : (if (b : Int) > (a : Int) then (b : Int) else (a : Int)) = ((max a b : Nat) : Int) := by split <;> omega
  simp only [effCall, effMM, intOfS, if_true, setLit, this]
theorem mm_min {T : Tab} {S : Objs} (a b : Nat) {ts : List TypeId} : effCall T ⟨[], S, []⟩ (.builtin .min) [dI a, dI b] ts = .set (dI (min a b : Nat)) := by
  have : (if (b : Int) < (a : Int) then (b : Int) else (a : Int)) = ((min a b : Nat) : Int) := by split <;> omega
  simp only [effCall, effMM, intOfS, if_true, Bool.false_eq_true, if_false, setLit, this]

theorem gParts_c (g : GR) : Con Tryz.prog 51 [AG g.cs] { v := .tup [.one (.d (dNs (partsV g).1)), .one (.d (lI (partsV g).2))] } := by
  refine con_intro (fn := Tryz.f51) tokP Tryz.func51 (by kernel_rfl) rfl ?_
  intro w0 X
  rw [entry_mkE _ _ [(0, AG g.cs)] rfl rfl];refine AWP_reg_seq tokP fun K hK => ?_;refine s_box rfl rfl rfl rfl rfl rfl ?_;refine asQ ?_;refine asQ ?_;refine s_end (hK _ ?_); clear hK K;refine AWP_seq ?_;refine AWP_reg_seq tokP fun K hK => ?_;refine ldQ ?_;refine s_call rfl rfl (gValid_c g) rfl rfl rfl rfl ?_;refine s_un rfl rfl rfl ?_;refine s_end (hK _ ?_); clear hK K;refine a_cond rfl (fun hc => ?_) (fun hc => ?_)
  · rw [Bool.not_eq_true'] at hc
    have e : partsV g = ([], 1) := by rw [partsV, if_neg (by rw [hc]; simp)]
    rw [e];refine AWP_reg_seq tokP fun K hK => ?_;refine asQ ?_;refine asQ ?_;refine s_end (hK _ ?_); clear hK K;refine AWP_ret ?_
    repeat (with_reducible refine tq_ret ?_)
    exact post_ret (fin_mk (by rfl) (by rfl) (by rfl))
  rw [Bool.not_eq_false'] at hc
  have gv := validB_iff.1 hc
  have e : partsV g = ((num (partsR g) g.nodes.length).1, 0) := by rw [partsV, if_pos hc]
  rw [e]
  obtain ⟨n, hn⟩ : ∃ n, n = g.nodes.length := ⟨_, rfl⟩
  have n16 := gv.n2
  have l48 := gv.l
  rw [← hn] at n16 ⊢;refine AWP_skip ?_;show AWP _ _ _ _ _ _;refine AWP_reg_seq tokP fun K hK => ?_;refine faQ ?_;refine ldQ ?_;refine s_blt rfl (len_m (l := g.nodes) RW.dc rfl rfl) rfl ?_;refine s_makeSlice (sz := _) (es := _) (f := _) (v := _) rfl (mk_N (l := n) rfl rfl rfl rfl rfl (Nat.le_of_ble_eq_true rfl) (by rw [hn]) (by rw [hn]) (by omega)) rfl rfl ?_;refine s_alloc rfl rfl rfl rfl rfl rfl ?_;refine s_storeB rfl rfl rfl rfl rfl ?_;refine s_end (hK _ ?_); clear hK K;refine AWP_seq ?_;refine AWP_reg_seq tokP fun K hK => ?_;refine ldQ ?_;refine s_blt rfl rfl rfl ?_;refine mvQ ?_;refine s_end (hK _ ?_); clear hK K;refine AWP_block (a_loop (α := Nat) (fun i => mk 86 [(1, .ptr 1 0), (4, .ptr 4 0), (23, dI n), (24, dI i)] [(1, some (.box g.cs)), (4, some (.box [.own 21 1 0 n])), (21, some (.arr 1 ((List.range i ++ List.replicate (n - i) 0).map cN)))] [4]) (fun i => i ≤ n) (fun i => n - i) 0 ?_ (Nat.zero_le _) ?_)
  · exact Wk.mk' ⟨rfl, rfl, rfl, rfl, trivial⟩ ⟨rfl, rfl, rfl, trivial⟩
  intro i hi
  refine AWP_reg_seq tokP fun K hK => ?_;refine biQ ?_;refine s_end (hK _ ?_); clear hK K;refine AWP_seq ?_;refine a_cond rfl (fun hg => ?_) (fun hg => ?_)
  · have hg : i < n := by simp at hg; omega
    have h1 : i < (List.range i ++ List.replicate (n - i) 0).length := by simp; omega
    have h2 := set_zero (x := i) (l := List.range i) List.length_range hg
    rw [← List.range_succ] at h2;generalize List.range i ++ List.replicate (n - i) 0 = r at h1 h2 ⊢;refine AWP_skip ?_;show AWP _ _ _ _ _ _;refine AWP_seq ?_;refine AWP_block ?_;refine AWP_reg_seq tokP fun K hK => ?_;refine mvQ ?_;refine asQ ?_;refine s_end (hK _ ?_); clear hK K;refine AWP_reg tokP fun K hK => ?_;refine ldQ ?_;refine mvQ ?_;refine mvQ ?_;refine s_indexAddr rfl (x_o (i := i) (j := i) rfl rfl rfl rfl rfl hg (by omega)) rfl ?_;refine s_store rfl (st_N rfl rfl rfl h1 rfl) rfl rfl rfl ?_;refine s_end (hK _ ?_); clear hK K;show AWP _ _ _ _ _ _;refine AWP_reg tokP fun K hK => ?_;refine s_bin rfl (e_add (c := ((i + 1 : Nat) : Int)) (by omega) (by omega)) rfl ?_;refine mvQ ?_;refine s_end (hK _ ?_); clear hK K;refine ⟨i + 1, by omega, hg, Wk.mk' ⟨rfl, rfl, rfl, rfl, trivial⟩ ⟨rfl, rfl, ?_, trivial⟩⟩;rw [← h2]; rfl
  have hg : i = n := by simp at hg; omega
  subst hg
  rw [Nat.sub_self, List.replicate_zero, List.append_nil];refine AWP_exit ?_;show AWP _ _ _ _ _ _;refine AWP_reg_seq tokP fun K hK => ?_;refine s_makeFunc rfl rfl rfl ?_;refine asQ ?_;refine s_end (hK _ ?_); clear hK K;refine AWP_seq ?_;refine AWP_reg_seq tokP fun K hK => ?_;refine faQ ?_;refine ldQ ?_;refine s_blt rfl (len_m LK.dc rfl rfl) rfl ?_;refine mvQ ?_;refine s_end (hK _ ?_); clear hK K;refine AWP_block (a_loop (α := Nat) (fun k => mk 86 [(4, .ptr 4 0), (6, .clo 83 4), (34, V1 (dLs g.links)), (35, dI g.links.length), (36, dI k)] [(4, some (.box [.own 21 1 0 i])), (21, some (.arr 1 ((partsL i (g.links.take k)).map cN)))] [4]) (fun k => k ≤ g.links.length) (fun k => g.links.length - k) 0 ?_ (Nat.zero_le _) ?_)
  · exact Wk.mk' ⟨rfl, rfl, rfl, rfl, rfl, trivial⟩ ⟨rfl, rfl, trivial⟩
  intro k hk
  refine AWP_reg_seq tokP fun K hK => ?_;refine biQ ?_;refine s_end (hK _ ?_); clear hK K;refine AWP_seq ?_;refine a_cond rfl (fun hg => ?_) (fun hg => ?_)
  · have hg : k < g.links.length := by simp at hg; omega
    obtain ⟨l, hl⟩ : ∃ l, l = g.links[k] := ⟨_, rfl⟩
    have lv := linkB_iff.1 (gv.lk l (hl ▸ List.getElem_mem hg))
    rw [← hn] at lv
    obtain ⟨a, b, ha, hb, ea, eb, _⟩ := lv.lt
    have hsn := partsL_snoc i hg
    rw [← hl, ea, eb, Int.toNat_natCast, Int.toNat_natCast] at hsn
    obtain ⟨rg, rl⟩ := partsL_ok i (g.links.take k)
    generalize partsL i (g.links.take k) = r at rg rl hsn ⊢
    have fa := fd_le rg a
    have fb := fd_le rg b
    refine AWP_skip ?_;show AWP _ _ _ _ _ _;refine AWP_seq ?_;refine AWP_block ?_;refine AWP_reg_seq tokP fun K hK => ?_;refine s_indexAddr rfl (x_m LK.dc rfl rfl rfl rfl hg rfl) rfl ?_;refine ldQ ?_;refine s_alloc rfl rfl rfl rfl rfl rfl ?_;refine s_store rfl rfl rfl rfl rfl ?_;refine s_end (hK _ ?_); clear hK K;rw [← hl];refine a_draw tokP mixed (A := [[], [], [], [1], [], [], [], [0, 1, 2, 5], [4, 5, 6], []]) (an := [{}, {}, {}, {}, { c := [43] }, { c := [43] }, { c := [43] }, {}, {}, {}]) rfl (by kernel_rfl) rfl fun K hK => ?_;refine mvQ ?_;refine faQ ?_;refine ldQ ?_;refine s_clo rfl (clo_N rfl rfl rl.symm rg ea (by omega)) rfl ?_;refine mvQ ?_;refine faQ ?_;refine ldQ ?_;refine s_clo rfl (clo_N rfl rfl rl.symm rg eb (by omega)) rfl ?_;refine asQ ?_;refine asQ ?_;refine s_end (hK _ ?_); clear hK K;refine AWP_reg tokP fun K hK => ?_;refine ldQ ?_;refine mvQ ?_;refine mvQ ?_;refine s_blt rfl (mm_max (fd r a) (fd r b)) rfl ?_;refine mvQ ?_;refine mvQ ?_;refine s_blt rfl (mm_min (fd r a) (fd r b)) rfl ?_;refine s_indexAddr rfl (x_o (i := max (fd r a) (fd r b)) (j := max (fd r a) (fd r b)) rfl rfl rfl rfl rfl (by omega) (by omega)) rfl ?_;refine s_store rfl (st_N (z := min (fd r a) (fd r b)) rfl rfl rfl (by omega) rfl) rfl rfl rfl ?_;refine s_end (hK _ ?_); clear hK K;show AWP _ _ _ _ _ _;refine AWP_reg tokP fun K hK => ?_;refine s_bin rfl (e_add (c := ((k + 1 : Nat) : Int)) (by omega) (by omega)) rfl ?_;refine mvQ ?_;refine s_end (hK _ ?_); clear hK K;refine ⟨k + 1, by omega, hg, Wk.mk' ⟨rfl, rfl, rfl, rfl, rfl, trivial⟩ ⟨rfl, ?_, trivial⟩⟩;rw [hsn]; rfl
  have hg : k = g.links.length := by simp at hg; omega
  subst hg
  rw [List.take_length];refine AWP_exit ?_;show AWP _ _ _ _ _ _
  have e2 : partsR g = partsL i g.links := by rw [partsR, ← hn]
  rw [e2]
  obtain ⟨rg, rl⟩ := partsL_ok i g.links
  generalize partsL i g.links = r at rg rl ⊢;refine AWP_reg_seq tokP fun K hK => ?_;refine ldQ ?_;refine s_blt rfl rfl rfl ?_;refine s_makeSlice (sz := _) (es := _) (f := _) (v := _) rfl (mk_N (l := i) rfl rfl rfl rfl rfl (Nat.le_of_ble_eq_true rfl) rfl rfl (by omega)) rfl rfl ?_;refine asQ ?_;refine s_end (hK _ ?_); clear hK K;refine AWP_reg_seq tokP fun K hK => ?_;refine asQ ?_;refine s_end (hK _ ?_); clear hK K;refine AWP_seq ?_;refine AWP_reg_seq tokP fun K hK => ?_;refine mvQ ?_;refine s_blt rfl rfl rfl ?_;refine mvQ ?_;refine s_end (hK _ ?_); clear hK K;refine AWP_block (a_loop (α := Nat) (fun v => mk 86 [(6, .clo 83 4), (11, .val (.one (.own 59 1 0 i))), (12, dI (num r v).2), (61, dI i), (62, dI v)] [(4, some (.box [.own 21 1 0 i])), (21, some (.arr 1 (r.map cN))), (59, some (.arr 1 (((num r v).1 ++ List.replicate (i - v) 0).map cN)))] [4]) (fun v => v ≤ i) (fun v => i - v) 0 ?_ (Nat.zero_le _) ?_)
  · exact Wk.mk' ⟨rfl, rfl, rfl, rfl, rfl, trivial⟩ ⟨rfl, rfl, rfl, trivial⟩
  intro v hv
  refine AWP_reg_seq tokP fun K hK => ?_;refine biQ ?_;refine s_end (hK _ ?_); clear hK K;refine AWP_seq ?_;refine a_cond rfl (fun hg => ?_) (fun hg => ?_)
  · have hg : v < i := by simp at hg; omega
    have fv := fd_le rg v
    have h1 : v < ((num r v).1 ++ List.replicate (i - v) 0).length := by simp [num_length]; omega
    have h2 : ∀ x, ((num r v).1 ++ List.replicate (i - v) 0).set v x = _ := fun x => set_zero (x := x) (num_length r v) hg
    have hs : num r (v + 1) = if fd r v = v then ((num r v).1 ++ [(num r v).2], (num r v).2 + 1) else ((num r v).1 ++ [(num r v).1.getD (fd r v) 0], (num r v).2) := rfl
    have h3 : fd r v ≠ v → ((num r v).1 ++ List.replicate (i - v) 0).getD (fd r v) 0 = (num r v).1.getD (fd r v) 0 := fun h => getD_zero (by rw [num_length]; omega)
    have h4 := num_le r v
    generalize (num r v).1 ++ List.replicate (i - v) 0 = o at h1 h2 h3 ⊢;refine AWP_skip ?_;show AWP _ _ _ _ _ _;refine AWP_seq ?_;refine AWP_block ?_;refine AWP_reg_seq tokP fun K hK => ?_;refine mvQ ?_;refine asQ ?_;refine s_end (hK _ ?_); clear hK K;refine AWP_seq ?_;refine AWP_reg_seq tokP fun K hK => ?_;refine mvQ ?_;refine mvQ ?_;refine s_clo rfl (clo_N rfl rfl rl.symm rg rfl (by omega)) rfl ?_;refine asQ ?_;refine s_end (hK _ ?_); clear hK K;refine AWP_reg_seq tokP fun K hK => ?_;refine mvQ ?_;refine mvQ ?_;refine biQ ?_;refine s_end (hK _ ?_); clear hK K;refine a_cond rfl (fun hd => ?_) (fun hd => ?_)
    · have hd : fd r v ≠ v := by simp only [e_ne, decide_eq_true_eq] at hd; omega
      rw [if_neg hd] at hs;refine AWP_reg_seq tokP fun K hK => ?_;refine mvQ ?_;refine mvQ ?_;refine mvQ ?_;refine mvQ ?_;refine s_indexAddr rfl (x_o (i := fd r v) (j := fd r v) rfl rfl rfl rfl rfl (by omega) (by omega)) rfl ?_;refine s_load rfl (l_N rfl rfl rfl rfl (by omega)) rfl ?_;refine s_indexAddr rfl (x_o (i := v) (j := v) rfl rfl rfl rfl rfl hg (by omega)) rfl ?_;refine s_store rfl (st_N rfl rfl rfl h1 rfl) rfl rfl rfl ?_;refine s_end (hK _ ?_); clear hK K;refine AWP_exit ?_;show AWP _ _ _ _ _ _;refine AWP_reg tokP fun K hK => ?_;refine s_bin rfl (e_add (c := ((v + 1 : Nat) : Int)) (by omega) (by omega)) rfl ?_;refine mvQ ?_;refine s_end (hK _ ?_); clear hK K;refine ⟨v + 1, by omega, hg, Wk.mk' ⟨rfl, rfl, ?_, rfl, rfl, trivial⟩ ⟨rfl, rfl, ?_, trivial⟩⟩
      · rw [hs]; rfl
      · rw [hs, ← h2, ← h3 hd]; rfl
    · have hd : fd r v = v := by simp only [e_ne, decide_eq_false_iff_not] at hd; omega
      rw [if_pos hd] at hs;refine AWP_skip ?_;show AWP _ _ _ _ _ _;refine AWP_reg_seq tokP fun K hK => ?_;refine mvQ ?_;refine mvQ ?_;refine mvQ ?_;refine s_indexAddr rfl (x_o (i := v) (j := v) rfl rfl rfl rfl rfl hg (by omega)) rfl ?_;refine s_store rfl (st_N rfl rfl rfl h1 rfl) rfl rfl rfl ?_;refine s_end (hK _ ?_); clear hK K;refine AWP_reg tokP fun K hK => ?_;refine mvQ ?_;refine s_bin rfl (e_add (c := (((num r v).2 + 1 : Nat) : Int)) (by omega) (by omega)) rfl ?_;refine asQ ?_;refine s_end (hK _ ?_); clear hK K;show AWP _ _ _ _ _ _;refine AWP_reg tokP fun K hK => ?_;refine s_bin rfl (e_add (c := ((v + 1 : Nat) : Int)) (by omega) (by omega)) rfl ?_;refine mvQ ?_;refine s_end (hK _ ?_); clear hK K;refine ⟨v + 1, by omega, hg, Wk.mk' ⟨rfl, rfl, ?_, rfl, rfl, trivial⟩ ⟨rfl, rfl, ?_, trivial⟩⟩
      · rw [hs]; rfl
      · rw [hs, ← h2]; rfl
  have hg : v = i := by simp at hg; omega
  subst hg
  rw [Nat.sub_self, List.replicate_zero, List.append_nil];refine AWP_exit ?_;show AWP _ _ _ _ _ _;refine a_fz [11] [59] 59 [(11, V1 (dNs (num r v).1))] [] rfl ?_ trivial ?_
  · exact ⟨frz_own rfl (by simp [num_length]), trivial⟩
  refine AWP_reg_seq tokP fun K hK => ?_;refine mvQ ?_;refine asQ ?_;refine asQ ?_;refine s_end (hK _ ?_); clear hK K;refine AWP_ret ?_
  repeat (with_reducible refine tq_ret ?_)
  exact post_ret (fin_mk (by rfl) (by rfl) (by rfl))
end Go.Proofs.YtgopibpkgmafiaaGreat

/- Laplacian matrices. No condition. -/
namespace Go.Proofs.YtgopibpkgmafiaaGreat

def updM (M : Nat → Nat → Int) (a b : Nat) (x : Int) : Nat → Nat → Int := fun i j => if i = a ∧ j = b then x else M i j
def lapS (M : Nat → Nat → Int) (f t : Nat) (w : Int) : Nat → Nat → Int :=
  let M1 := updM M f f (M f f + w)
  let M2 := updM M1 t t (M1 t t + w)
  let M3 := updM M2 f t (M2 f t - w)
  updM M3 t f (M3 t f - w)
def lapM (ls : List LK) : Nat → Nat → Int := ls.foldl (fun M l => lapS M l.f.toNat l.t.toNat l.w) (fun _ _ => 0)
theorem lapM_snoc {ls : List LK} {i : Nat} (hi : i < ls.length) : lapM (ls.take (i + 1)) = lapS (lapM (ls.take i)) ls[i].f.toNat ls[i].t.toNat ls[i].w := by
  rw [List.take_succ_eq_append_getElem hi, lapM, List.foldl_append]; rfl
def lapD (f t : Nat) (w : Int) (i j : Nat) : Int := if i = j then (if f = i ∨ t = i then w else 0) else (if (f = i ∧ t = j) ∨ (f = j ∧ t = i) then -w else 0)
theorem lapS_eq {M : Nat → Nat → Int} {f t : Nat} {w : Int} (h : f ≠ t) (i j : Nat) : lapS M f t w i j = M i j + lapD f t w i j := by
  simp only [lapS, updM, lapD]
  by_cases h1 : i = t ∧ j = f
  · obtain ⟨rfl, rfl⟩ := h1
    rw [if_pos ⟨rfl, rfl⟩, if_neg (by omega), if_neg (by omega), if_neg (by omega), if_neg (fun e => h e.symm), if_pos (Or.inr ⟨rfl, rfl⟩)]; omega
  · rw [if_neg h1]
    by_cases h2 : i = f ∧ j = t
    · obtain ⟨rfl, rfl⟩ := h2
      rw [if_pos ⟨rfl, rfl⟩, if_neg (by omega), if_neg (by omega), if_neg h, if_pos (Or.inl ⟨rfl, rfl⟩)]; omega
    · rw [if_neg h2]
      by_cases h3 : i = t ∧ j = t
      · obtain ⟨rfl, rfl⟩ := h3
        rw [if_pos ⟨rfl, rfl⟩, if_neg (by omega), if_pos rfl, if_pos (Or.inr rfl)]
      · rw [if_neg h3]
        by_cases h4 : i = f ∧ j = f
        · obtain ⟨rfl, rfl⟩ := h4
          rw [if_pos ⟨rfl, rfl⟩, if_pos rfl, if_pos (Or.inl rfl)]
        · rw [if_neg h4]
          by_cases h5 : i = j
          · subst h5; rw [if_pos rfl, if_neg (by omega)]; omega
          · rw [if_neg h5, if_neg (by omega)]; omega
theorem lapD_le {f t : Nat} {w : Int} (hw : 0 ≤ w ∧ w ≤ 1048576) (i j : Nat) : -1048576 ≤ lapD f t w i j ∧ lapD f t w i j ≤ 1048576 := by
  unfold lapD; split <;> split <;> omega
theorem lapM_le {n : Nat} (ls : List LK) (h : ∀ l ∈ ls, LV n l) (i j : Nat) : -(1048576 * (ls.length : Int)) ≤ lapM ls i j ∧ lapM ls i j ≤ 1048576 * (ls.length : Int) := by
  have : ∀ k, k ≤ ls.length → -(1048576 * (k : Int)) ≤ lapM (ls.take k) i j ∧ lapM (ls.take k) i j ≤ 1048576 * (k : Int) := by
    intro k
    induction k with
    | zero => intro _; simp [lapM]
    | succ k ih =>
      intro hk
      have h1 := ih (by omega)
      have lv := h ls[k] (List.getElem_mem (by omega))
      have hne : ls[k].f.toNat ≠ ls[k].t.toNat := by have := lv.f; have := lv.t; have := lv.ne; omega
      have hw := lv.w
      have h2 := lapD_le (f := ls[k].f.toNat) (t := ls[k].t.toNat) (w := ls[k].w) ⟨by omega, by omega⟩ i j
      rw [lapM_snoc (by omega), lapS_eq hne]
      omega
  have h := this ls.length (Nat.le_refl _)
  rwa [List.take_length] at h
def rowI (n : Nat) (r : Nat → Int) : List (List DC) := (List.range n).map fun j => [.lit (.int .i64 (r j))]
theorem rowI_length (n : Nat) (r : Nat → Int) : (rowI n r).length = n := by simp [rowI]
theorem rowI_get {n j : Nat} {r : Nat → Int} (h : j < n) : (rowI n r)[j]? = some [.lit (.int .i64 (r j))] := by simp [rowI, h]
theorem rowI_set {n j : Nat} {r r' : Nat → Int} {x : Int} (hx : r' j = x) (hr : ∀ k, k ≠ j → r' k = r k) : (rowI n r).set j [.lit (.int .i64 x)] = rowI n r' := by
  apply List.ext_getElem?
  intro k
  rw [List.getElem?_set]
  by_cases hk : j = k
  · subst hk
    rw [if_pos rfl, rowI_length]
    by_cases hn : j < n
    · rw [if_pos hn, rowI_get hn, hx]
    · rw [if_neg hn, List.getElem?_eq_none (by rw [rowI_length]; omega)]
  · rw [if_neg hk];simp only [rowI, List.getElem?_map]
    rcases Nat.lt_or_ge k n with hn | hn
    · rw [List.getElem?_range hn]; simp [hr k (Ne.symm hk)]
    · rw [List.getElem?_eq_none (by simpa using hn)]; rfl
theorem rowI_zero (n : Nat) : rowI n (fun _ => 0) = List.replicate n [.lit (.int .i64 0)] := by
  apply List.ext_getElem?
  intro k
  rw [List.getElem?_replicate]
  rcases Nat.lt_or_ge k n with h | h
  · rw [if_pos h, rowI_get h]
  · rw [if_neg (by omega), List.getElem?_eq_none (by rw [rowI_length]; omega)]
theorem rowI_updM {n f t : Nat} {M : Nat → Nat → Int} {x : Int} (i : Nat) : rowI n (updM M f t x i) = if i = f then (rowI n (M f)).set t [.lit (.int .i64 x)] else rowI n (M i) := by
  by_cases h : i = f
  · subst h
    rw [if_pos rfl];exact (rowI_set (by simp [updM]) (fun k hk => by simp [updM, hk])).symm
  · rw [if_neg h]
    have : updM M f t x i = M i := by funext j; simp [updM, h]
    rw [this]
end Go.Proofs.YtgopibpkgmafiaaGreat

/- Laplacians are symmetric, and their rows have the sum 0. No condition. -/
namespace Go.Proofs.YtgopibpkgmafiaaGreat

theorem lapD_symm (f t : Nat) (w : Int) (i j : Nat) : lapD f t w i j = lapD f t w j i := by
  simp only [lapD]
  repeat' split
  all_goals omega
theorem LV.fn {n : Nat} {l : LK} (h : LV n l) : l.f.toNat ≠ l.t.toNat ∧ l.f.toNat < n ∧ l.t.toNat < n := by
  have := h.f; have := h.t; have := h.ne; omega
theorem lapM_symm {n : Nat} (ls : List LK) (h : ∀ l ∈ ls, LV n l) (i j : Nat) : lapM ls i j = lapM ls j i := by
  have : ∀ k, k ≤ ls.length → lapM (ls.take k) i j = lapM (ls.take k) j i := by
    intro k
    induction k with
    | zero => intro _; rfl
    | succ k ih =>
      intro hk
      have lv := (h ls[k] (List.getElem_mem (by omega))).fn
      rw [lapM_snoc (by omega), lapS_eq lv.1, lapS_eq lv.1, lapD_symm, ih (by omega)]
  have h := this ls.length (Nat.le_refl _)
  rwa [List.take_length] at h
end Go.Proofs.YtgopibpkgmafiaaGreat

/- The Laplacian. No condition. -/
namespace Go.Proofs.YtgopibpkgmafiaaGreat
attribute [local irreducible] lexA

theorem st_I {T : Tab} {t : TypeId} {ti : TI} {S : Objs} {rb : List Nat} {id i n : Nat} {y : Int} {r : Nat → Int} (h1 : T t = some ti) (h4 : ti.size = 1) (hS : S id = some (.arr 1 (rowI n r))) (hi : i < n) :
    effStore T ⟨[], S, rb⟩ t (.pe id 1 i 0) (dI y) = .upd (updO S id (.arr 1 ((rowI n r).set i [.lit (.int .i64 y)]))) rb :=
  st_o (ds := [.lit (.int .i64 y)]) h1 hS (by rw [rowI_length]; exact hi) (fun el hel => by rw [rowI_get hi] at hel; cases hel; rw [h4]; rfl) rfl (by rw [h4]; rfl) (by rw [h4]; rfl)
def lapR (n : Nat) (M : Nat → Nat → Int) (i : Nat) : List RW := (List.range n).map fun j => qzW (M i j : Int)
def lapQ (n : Nat) (M : Nat → Nat → Int) : List (List RW) := (List.range n).map (lapR n M)
theorem updM_le {M : Nat → Nat → Int} {f t : Nat} {x c : Int} (h : ∀ a b, -c ≤ M a b ∧ M a b ≤ c) (hx : -c ≤ x ∧ x ≤ c) : ∀ a b, -c ≤ updM M f t x a b ∧ updM M f t x a b ≤ c := by
  intro a b; simp only [updM]; split
  · exact hx
  · exact h a b

theorem glap_c (g : GR) (gv : GV g) : Con Tryz.prog 66 [AG g.cs] { v := V1 (dMs (lapQ g.nodes.length (lapM g.links))) } := by
  refine con_intro (fn := Tryz.f66) tok Tryz.func66 (by kernel_rfl) rfl ?_
  intro w0 X
  rw [entry_mkE _ _ [(0, AG g.cs)] rfl rfl];refine AWP_reg_seq tok fun K hK => ?_;refine s_box rfl rfl rfl rfl rfl rfl ?_;refine asQ ?_;refine s_end (hK _ ?_); clear hK K
  obtain ⟨n, hn⟩ : ∃ n, n = g.nodes.length := ⟨_, rfl⟩
  have n16 := gv.n2
  have l48 := gv.l
  rw [← hn] at n16 ⊢;refine AWP_reg_seq tok fun K hK => ?_;refine faQ ?_;refine ldQ ?_;refine s_blt rfl (len_m (l := g.nodes) RW.dc rfl rfl) rfl ?_;refine asQ ?_;refine s_end (hK _ ?_); clear hK K;rw [← hn];refine AWP_reg_seq tok fun K hK => ?_;refine mvQ ?_;refine s_makeBox (f := _) (v := _) rfl (mk_box (l := n) rfl rfl rfl rfl rfl (Nat.le_of_ble_eq_true rfl) rfl rfl (by omega)) rfl rfl ?_;refine asQ ?_;refine s_end (hK _ ?_); clear hK K;refine AWP_seq ?_;refine AWP_reg_seq tok fun K hK => ?_;refine mvQ ?_;refine s_blt rfl rfl rfl ?_;refine mvQ ?_;refine s_end (hK _ ?_); clear hK K;refine AWP_block (a_loop (α := Nat) (fun i => mk 118 [(1, .ptr 1 0), (3, dI n), (4, .val (.one (.own 17 1 0 n))), (19, dI n), (20, dI i)] (((17, some (.box (gridC 1000 1 n i ++ List.replicate (n - i) .nil))) :: [(1, some (.box g.cs))]) ++ rowsO 1000 1 i (fun _ => rowI n (fun _ => 0))) [17]) (fun i => i ≤ n) (fun i => n - i) 0 ?_ (Nat.zero_le _) ?_)
  · refine Wk.trans ?_ (Wk.rbE (rb := []) rfl);exact Wk.gkeep ⟨rfl, rfl, rfl, rfl, rfl, trivial⟩ ⟨rfl, rfl, trivial⟩ rfl (fun q hq => by rw [so_cons, if_neg (by omega), so_cons, if_neg (by omega)]; rfl)
  intro i hi
  refine AWP_reg_seq tok fun K hK => ?_;refine biQ ?_;refine s_end (hK _ ?_); clear hK K;refine AWP_seq ?_;refine a_cond rfl (fun hg => ?_) (fun hg => ?_)
  · have hg : i < n := by simp at hg; omega
    have nr : ∀ d, d < 1000 → (gridC 1000 1 n i ++ List.replicate (n - i) SC.nil).all (SC.noRef d) = true := fun d hd => by
      rw [List.all_append, gridC_noRef (Or.inl hd), rep_noRef]; rfl
    have hlen : i < (gridC 1000 1 n i ++ List.replicate (n - i) SC.nil).length := by rw [List.length_append, gridC_length, List.length_replicate]; omega
    have hset : ∀ c : SC, (gridC 1000 1 n i ++ List.replicate (n - i) SC.nil).set i c = gridC 1000 1 n i ++ c :: List.replicate (n - (i + 1)) SC.nil := fun c => by
      rw [rep_succ hg]; exact set_mid (gridC_length _ _ _ _)
    generalize gridC 1000 1 n i ++ List.replicate (n - i) SC.nil = cs at nr hlen hset ⊢;refine AWP_skip ?_;show AWP _ _ _ _ _ _;refine AWP_seq ?_;refine AWP_block ?_;refine AWP_reg_seq tok fun K hK => ?_;refine mvQ ?_;refine asQ ?_;refine s_end (hK _ ?_); clear hK K;refine AWP_reg tok fun K hK => ?_;refine mvQ ?_;refine mvQ ?_;refine mvQ ?_;refine s_makeSlice (sz := _) (es := _) (f := _) (v := _) rfl (mk_N (l := n) rfl rfl rfl rfl rfl (Nat.le_of_ble_eq_true rfl) rfl rfl (by omega)) (nr_grid rfl rfl (nr 26 (by decide))) rfl ?_;refine s_indexAddr rfl (x_o (i := i) (j := i) rfl rfl rfl rfl rfl hg (Nat.zero_add _)) rfl ?_;refine s_storeB rfl (st_box rfl rfl rfl hlen) rfl rfl rfl ?_;refine s_end (hK _ ?_); clear hK K;show AWP _ _ _ _ _ _;refine AWP_reg tok fun K hK => ?_;refine s_bin rfl (e_add (c := ((i + 1 : Nat) : Int)) (by omega) (by omega)) rfl ?_;refine mvQ ?_;refine s_end (hK _ ?_); clear hK K;rw [hset];refine ⟨i + 1, by omega, hg, Wk.trans (Wk.rbE (rb' := [17]) rfl) (Wk.gpush (d := 26) (gid := 17) (S1 := [(1, some (.box g.cs))]) ⟨rfl, rfl, rfl, rfl, rfl, trivial⟩ rfl ?_ ⟨rfl, trivial⟩ rfl (by decide) (by decide) (by decide) rfl rfl rfl ?_ ?_ (fun a _ => by split <;> rfl))⟩
    · simp only [List.all_cons, List.all_nil, SV.noRef, VV.noRef, SC.noRef, Bool.and_true, Bool.true_and, bne_iff_ne, ne_eq, Bool.and_eq_true]; omega
    · rw [rowI_zero, List.map_replicate]; rfl
    · intro q hq
      rw [so_cons, if_neg (by omega), so_cons, if_neg (by omega), so_hi rfl hq]
  have hg : n = i := by simp at hg; omega
  subst hg
  rw [Nat.sub_self, List.replicate_zero, List.append_nil];refine AWP_exit ?_;show AWP _ _ _ _ _ _;refine AWP_seq ?_;refine AWP_reg_seq tok fun K hK => ?_;refine faQ ?_;refine ldQ ?_;refine s_blt rfl (len_m LK.dc rfl rfl) rfl ?_;refine mvQ ?_;refine s_end (hK _ ?_); clear hK K
  have bnd : ∀ k, k ≤ g.links.length → ∀ a b, -67108864 ≤ lapM (g.links.take k) a b ∧ lapM (g.links.take k) a b ≤ 67108864 := fun k hk a b => by
    have := lapM_le (n := n) (g.links.take k) (fun l hl => linkB_iff.1 (hn ▸ gv.lk l (List.mem_of_mem_take hl))) a b
    rw [List.length_take] at this
    omega
  refine AWP_block (a_loop (α := Nat) (fun k => mk 118 [(3, dI n), (4, .val (.one (.own 17 1 0 n))), (30, V1 (dLs g.links)), (31, dI g.links.length), (32, dI k)] ([(17, some (.box (gridC 1000 1 n n))), (1, some (.box g.cs))] ++ rowsO 1000 1 n (fun a => rowI n (lapM (g.links.take k) a))) [17]) (fun k => k ≤ g.links.length) (fun k => g.links.length - k) 0 ?_ (Nat.zero_le _) ?_)
  · exact Wk.gkeep ⟨rfl, rfl, rfl, rfl, rfl, trivial⟩ ⟨rfl, rfl, trivial⟩ rfl (fun q hq => so_hi rfl hq)
  intro k hk
  refine AWP_reg_seq tok fun K hK => ?_;refine biQ ?_;refine s_end (hK _ ?_); clear hK K;refine AWP_seq ?_;refine a_cond rfl (fun hg => ?_) (fun hg => ?_)
  · have hg : k < g.links.length := by simp at hg; omega
    obtain ⟨l, hl⟩ : ∃ l, l = g.links[k] := ⟨_, rfl⟩
    have lv := linkB_iff.1 (gv.lk l (hl ▸ List.getElem_mem hg))
    rw [← hn] at lv
    obtain ⟨i, j, hi, hj, e1, e2, hne⟩ := lv.lt
    have hsn := lapM_snoc hg
    rw [← hl, e1, e2, Int.toNat_natCast, Int.toNat_natCast] at hsn
    have hb0 := bnd k hk
    have hw := lv.w
    generalize lapM (g.links.take k) = M at hsn hb0 ⊢
    have hb : ∀ a b, -100000000 ≤ M a b ∧ M a b ≤ 100000000 := fun a b => by have := hb0 a b; omega
    have b1 := hb i i
    obtain ⟨M1, hM1⟩ : ∃ M1, M1 = updM M i i (M i i + l.w) := ⟨_, rfl⟩
    have hb1 : ∀ a b, -200000000 ≤ M1 a b ∧ M1 a b ≤ 200000000 := hM1 ▸ updM_le (fun a b => by have := hb a b; omega) (by omega)
    have b2 := hb1 j j
    obtain ⟨M2, hM2⟩ : ∃ M2, M2 = updM M1 j j (M1 j j + l.w) := ⟨_, rfl⟩
    have hb2 : ∀ a b, -300000000 ≤ M2 a b ∧ M2 a b ≤ 300000000 := hM2 ▸ updM_le (fun a b => by have := hb1 a b; omega) (by omega)
    have b3 := hb2 i j
    obtain ⟨M3, hM3⟩ : ∃ M3, M3 = updM M2 i j (M2 i j - l.w) := ⟨_, rfl⟩
    have hb3 : ∀ a b, -400000000 ≤ M3 a b ∧ M3 a b ≤ 400000000 := hM3 ▸ updM_le (fun a b => by have := hb2 a b; omega) (by omega)
    obtain ⟨M4, hM4⟩ : ∃ M4, M4 = updM M3 j i (M3 j i - l.w) := ⟨_, rfl⟩
    have hfin : lapM (g.links.take (k + 1)) = M4 := by rw [hsn, hM4, hM3, hM2, hM1]; rfl
    refine AWP_skip ?_;show AWP _ _ _ _ _ _;refine AWP_seq ?_;refine AWP_block ?_;refine AWP_reg_seq tok fun K hK => ?_;refine s_indexAddr rfl (x_m LK.dc rfl rfl rfl rfl hg rfl) rfl ?_;refine ldQ ?_;refine s_alloc rfl rfl rfl rfl rfl (nr_grid rfl rfl (gridC_noRef (Or.inl (by decide)))) ?_;refine s_store rfl rfl rfl rfl rfl ?_;refine s_end (hK _ ?_); clear hK K;rw [← hl];refine AWP_wk (Wk.gkeep (B := 1000) (S0 := [(7, some (.box l.cs)), (17, some (.box (gridC 1000 1 n n))), (1, some (.box g.cs))]) (E' := [(3, dI n), (4, .val (.one (.own 17 1 0 n))), (7, .ptr 7 0), (30, V1 (dLs g.links)), (31, dI g.links.length), (32, dI k)]) ⟨rfl, rfl, rfl, rfl, rfl, rfl, trivial⟩ ⟨rfl, rfl, rfl, trivial⟩ rfl (fun q hq => by rw [so_cons, if_neg (by omega), so_cons, if_neg (by omega), so_hi rfl hq])) ?_
    have q11 := hb i i
    refine a_draw tok mixed (A := [[], [], [], [1], [0, 1, 2], [], [], [0, 1, 2, 3, 5], [0, 1, 2, 3, 4, 5, 6], [], [], [0, 1, 2, 3, 4, 5, 6, 7, 9], [], []]) (an := [{}, {}, {}, {}, {}, {}, {}, {}, {}, {}, {}, {}, {}, {}]) rfl (by kernel_rfl) rfl fun K hK => ?_;refine mvQ ?_;refine faQ ?_;refine ldQ ?_;refine s_indexAddr rfl (x_o (i := i) (j := i) rfl rfl rfl rfl e1 hi (Nat.zero_add _)) rfl ?_;refine s_load rfl (l_box rfl rfl rfl rfl (gridC_get hi)) rfl ?_;refine faQ ?_;refine ldQ ?_;refine s_indexAddr rfl (x_o (i := i) (j := i) rfl rfl rfl rfl e1 hi (Nat.zero_add _)) rfl ?_;refine s_load rfl (l_o rfl (so_row rfl hi) (rowI_get hi) rfl rfl) rfl ?_;refine faQ ?_;refine ldQ ?_;refine s_bin rfl (e_add rfl (by omega)) rfl ?_;refine s_indexAddr rfl (x_o (i := i) (j := i) rfl rfl rfl rfl e1 hi (Nat.zero_add _)) rfl ?_;refine s_store rfl (st_I rfl rfl (so_row rfl hi) hi) rfl rfl rfl ?_;refine s_end (hK _ ?_); clear hK K;refine AWP_wk (Wk.gset (B := 1000) (S0 := [(7, some (.box l.cs)), (17, some (.box (gridC 1000 1 n n))), (1, some (.box g.cs))]) (E' := [(3, dI n), (4, .val (.one (.own 17 1 0 n))), (7, .ptr 7 0), (30, V1 (dLs g.links)), (31, dI g.links.length), (32, dI k)]) (R' := fun a => rowI n (M1 a)) ⟨rfl, rfl, rfl, rfl, rfl, rfl, trivial⟩ rfl hi (fun a _ => by rw [hM1]; exact rowI_updM a)) ?_
    have q12 := hb1 j j
    refine a_draw tok mixed (A := [[], [], [], [1], [0, 1, 2], [], [], [0, 1, 2, 3, 5], [0, 1, 2, 3, 4, 5, 6], [], [], [0, 1, 2, 3, 4, 5, 6, 7, 9], [], []]) (an := [{}, {}, {}, {}, {}, {}, {}, {}, {}, {}, {}, {}, {}, {}]) rfl (by kernel_rfl) rfl fun K hK => ?_;refine mvQ ?_;refine faQ ?_;refine ldQ ?_;refine s_indexAddr rfl (x_o (i := j) (j := j) rfl rfl rfl rfl e2 hj (Nat.zero_add _)) rfl ?_;refine s_load rfl (l_box rfl rfl rfl rfl (gridC_get hj)) rfl ?_;refine faQ ?_;refine ldQ ?_;refine s_indexAddr rfl (x_o (i := j) (j := j) rfl rfl rfl rfl e2 hj (Nat.zero_add _)) rfl ?_;refine s_load rfl (l_o rfl (so_row rfl hj) (rowI_get hj) rfl rfl) rfl ?_;refine faQ ?_;refine ldQ ?_;refine s_bin rfl (e_add rfl (by omega)) rfl ?_;refine s_indexAddr rfl (x_o (i := j) (j := j) rfl rfl rfl rfl e2 hj (Nat.zero_add _)) rfl ?_;refine s_store rfl (st_I rfl rfl (so_row rfl hj) hj) rfl rfl rfl ?_;refine s_end (hK _ ?_); clear hK K;refine AWP_wk (Wk.gset (B := 1000) (S0 := [(7, some (.box l.cs)), (17, some (.box (gridC 1000 1 n n))), (1, some (.box g.cs))]) (E' := [(3, dI n), (4, .val (.one (.own 17 1 0 n))), (7, .ptr 7 0), (30, V1 (dLs g.links)), (31, dI g.links.length), (32, dI k)]) (R' := fun a => rowI n (M2 a)) ⟨rfl, rfl, rfl, rfl, rfl, rfl, trivial⟩ rfl hj (fun a _ => by rw [hM2]; exact rowI_updM a)) ?_
    have q13 := hb2 i j
    refine a_draw tok mixed (A := [[], [], [], [1], [0, 1, 2], [], [], [0, 1, 2, 3, 5], [0, 1, 2, 3, 4, 5, 6], [], [], [0, 1, 2, 3, 4, 5, 6, 7, 9], [], []]) (an := [{}, {}, {}, {}, {}, {}, {}, {}, {}, {}, {}, {}, {}, {}]) rfl (by kernel_rfl) rfl fun K hK => ?_;refine mvQ ?_;refine faQ ?_;refine ldQ ?_;refine s_indexAddr rfl (x_o (i := i) (j := i) rfl rfl rfl rfl e1 hi (Nat.zero_add _)) rfl ?_;refine s_load rfl (l_box rfl rfl rfl rfl (gridC_get hi)) rfl ?_;refine faQ ?_;refine ldQ ?_;refine s_indexAddr rfl (x_o (i := j) (j := j) rfl rfl rfl rfl e2 hj (Nat.zero_add _)) rfl ?_;refine s_load rfl (l_o rfl (so_row rfl hi) (rowI_get hj) rfl rfl) rfl ?_;refine faQ ?_;refine ldQ ?_;refine s_bin rfl (e_sub rfl (by omega)) rfl ?_;refine s_indexAddr rfl (x_o (i := j) (j := j) rfl rfl rfl rfl e2 hj (Nat.zero_add _)) rfl ?_;refine s_store rfl (st_I rfl rfl (so_row rfl hi) hj) rfl rfl rfl ?_;refine s_end (hK _ ?_); clear hK K;refine AWP_wk (Wk.gset (B := 1000) (S0 := [(7, some (.box l.cs)), (17, some (.box (gridC 1000 1 n n))), (1, some (.box g.cs))]) (E' := [(3, dI n), (4, .val (.one (.own 17 1 0 n))), (7, .ptr 7 0), (30, V1 (dLs g.links)), (31, dI g.links.length), (32, dI k)]) (R' := fun a => rowI n (M3 a)) ⟨rfl, rfl, rfl, rfl, rfl, rfl, trivial⟩ rfl hi (fun a _ => by rw [hM3]; exact rowI_updM a)) ?_
    have q14 := hb3 j i
    refine a_draw1 tok mixed (A := [[], [], [], [1], [0, 1, 2], [], [], [0, 1, 2, 3, 5], [0, 1, 2, 3, 4, 5, 6], [], [], [0, 1, 2, 3, 4, 5, 6, 7, 9], [], []]) (an := [{}, {}, {}, {}, {}, {}, {}, {}, {}, {}, {}, {}, {}, {}]) rfl (by kernel_rfl) rfl fun K hK => ?_;refine mvQ ?_;refine faQ ?_;refine ldQ ?_;refine s_indexAddr rfl (x_o (i := j) (j := j) rfl rfl rfl rfl e2 hj (Nat.zero_add _)) rfl ?_;refine s_load rfl (l_box rfl rfl rfl rfl (gridC_get hj)) rfl ?_;refine faQ ?_;refine ldQ ?_;refine s_indexAddr rfl (x_o (i := i) (j := i) rfl rfl rfl rfl e1 hi (Nat.zero_add _)) rfl ?_;refine s_load rfl (l_o rfl (so_row rfl hj) (rowI_get hi) rfl rfl) rfl ?_;refine faQ ?_;refine ldQ ?_;refine s_bin rfl (e_sub rfl (by omega)) rfl ?_;refine s_indexAddr rfl (x_o (i := i) (j := i) rfl rfl rfl rfl e1 hi (Nat.zero_add _)) rfl ?_;refine s_store rfl (st_I rfl rfl (so_row rfl hj) hi) rfl rfl rfl ?_;refine s_end (hK _ ?_); clear hK K;refine AWP_wk (Wk.gset (B := 1000) (S0 := [(7, some (.box l.cs)), (17, some (.box (gridC 1000 1 n n))), (1, some (.box g.cs))]) (E' := [(3, dI n), (4, .val (.one (.own 17 1 0 n))), (7, .ptr 7 0), (30, V1 (dLs g.links)), (31, dI g.links.length), (32, dI k)]) (R' := fun a => rowI n (M4 a)) ⟨rfl, rfl, rfl, rfl, rfl, rfl, trivial⟩ rfl hj (fun a _ => by rw [hM4]; exact rowI_updM a)) ?_;show AWP _ _ _ _ _ _;refine AWP_reg tok fun K hK => ?_;refine s_bin rfl (e_add (c := ((k + 1 : Nat) : Int)) (by omega) (by omega)) rfl ?_;refine mvQ ?_;refine s_end (hK _ ?_); clear hK K;refine ⟨k + 1, by omega, hg, ?_⟩;rw [hfin];exact Wk.gkeep (B := 1000) ⟨rfl, rfl, rfl, rfl, rfl, trivial⟩ ⟨rfl, rfl, trivial⟩ rfl (fun q hq => so_hi rfl hq)
  have hg : k = g.links.length := by simp at hg; omega
  subst hg
  have hb := bnd _ hk
  rw [List.take_length] at hb ⊢;generalize lapM g.links = M at hb ⊢;refine AWP_exit ?_;show AWP _ _ _ _ _ _;refine AWP_wk (Wk.gkeep (B := 1000) (E' := [(3, dI n), (4, .val (.one (.own 17 1 0 n)))]) (S0 := (17, some (.box (gridC 1000 1 n n))) :: []) ⟨rfl, rfl, trivial⟩ ⟨rfl, trivial⟩ rfl (fun q hq => so_hi rfl hq)) ?_;refine AWP_wk (Wk.gfreeze (fun i hi => ?_) rfl (by decide) (fun i hi => rfl) (fun i hi => rowI_length n (M i))) ?_
  · simp only [List.all_cons, List.all_nil, SV.noRef, VV.noRef, SC.noRef, Bool.and_true, Bool.true_and, bne_iff_ne, ne_eq]; omega
  refine AWP_wk (Wk.toArr (gid := 17) (E' := [(3, dI n), (4, .val (.one (.own 17 1 0 n)))]) (S1 := []) (l := (List.range n).map fun i => .sl (rowI n (M i))) ⟨rfl, rfl, trivial⟩ (by rw [List.map_map]; rfl) trivial rfl) ?_;refine AWP_wk (Wk.rbA (id := 17) rfl) ?_;refine a_fz [3, 4] [17] 17 [(3, dI n), (4, V1 (.sl (((List.range n).map fun i => DC.sl (rowI n (M i))).map fun c => [c])))] [] rfl ?_ trivial ?_
  · exact ⟨rfl, frz_own rfl (by simp), trivial⟩
  refine AWP_reg_seq tok fun K hK => ?_;refine mvQ ?_;refine s_makeBox (f := _) (v := _) rfl (mk_box (l := n) rfl rfl rfl rfl rfl (Nat.le_of_ble_eq_true rfl) rfl rfl (by omega)) rfl rfl ?_;refine asQ ?_;refine s_end (hK _ ?_); clear hK K;refine AWP_seq ?_;refine AWP_reg_seq tok fun K hK => ?_;refine mvQ ?_;refine s_blt rfl (len_d (n := n) rfl rfl (by simp)) rfl ?_;refine mvQ ?_;refine s_end (hK _ ?_); clear hK K
  obtain ⟨F, hF⟩ : ∃ F : Nat → DC, F = fun i => dRs (lapR n M i) := ⟨_, rfl⟩
  refine AWP_block (a_loop (α := Nat) (fun i => mk 118 [(8, .val (.one (.own 90 1 0 n))), (91, V1 (.sl (((List.range n).map fun i => DC.sl (rowI n (M i))).map fun c => [c]))), (92, dI n), (93, dI i)] [(90, some (.box (outN F n i)))] [90]) (fun i => i ≤ n) (fun i => n - i) 0 ?_ (Nat.zero_le _) ?_)
  · refine Wk.trans ?_ (Wk.rbE (rb := []) rfl);exact Wk.mk' ⟨rfl, rfl, rfl, rfl, trivial⟩ ⟨rfl, trivial⟩
  intro i hi
  refine AWP_reg_seq tok fun K hK => ?_;refine biQ ?_;refine s_end (hK _ ?_); clear hK K;refine AWP_seq ?_;refine a_cond rfl (fun hg => ?_) (fun hg => ?_)
  · have hg : i < n := by simp at hg; omega
    have hget : (((List.range n).map fun i => DC.sl (rowI n (M i))).map fun c => [c])[i]? = some [.sl (rowI n (M i))] := by simp [hg]
    refine AWP_skip ?_;show AWP _ _ _ _ _ _;refine AWP_seq ?_;refine AWP_block ?_;refine AWP_reg_seq tok fun K hK => ?_;refine mvQ ?_;refine s_indexAddr rfl (x_d rfl rfl rfl rfl hget rfl) rfl ?_;refine ldQ ?_;refine asQ ?_;refine asQ ?_;refine s_end (hK _ ?_); clear hK K;refine AWP_reg_seq tok fun K hK => ?_;refine mvQ ?_;refine s_blt rfl (len_d rfl rfl (rowI_length n (M i))) rfl ?_;refine mvQ ?_;refine s_end (hK _ ?_); clear hK K;rw [outN_C hg];refine AWP_block (a_loop (α := Nat) (fun j => mk 118 [(8, .val (.one (.own 90 1 0 n))), (9, dI i), (91, V1 (.sl (((List.range n).map fun i => DC.sl (rowI n (M i))).map fun c => [c]))), (92, dI n), (93, dI i), (98, V1 (.sl (rowI n (M i)))), (99, dI n), (100, dI j)] [(90, some (.box (outC F n i (ownC 105 4 j)))), (105, arrN 4 (((List.range j).map fun j => qzW (M i j : Int)).map RW.dc) j)] [90]) (fun j => j ≤ n) (fun j => n - j) 0 ?_ (Nat.zero_le _) ?_)
    · exact Wk.mk' ⟨rfl, rfl, rfl, rfl, rfl, rfl, rfl, rfl, trivial⟩ ⟨rfl, rfl, trivial⟩
    intro j hj
    refine AWP_reg_seq tok fun K hK => ?_;refine biQ ?_;refine s_end (hK _ ?_); clear hK K;refine AWP_seq ?_;refine a_cond rfl (fun hf => ?_) (fun hf => ?_)
    · have hf : j < n := by simp at hf; omega
      have hgj := rowI_get (r := M i) hf
      have bj := hb i j
      have cq := qOfI_c (M i j) ⟨by omega, by omega⟩
      have n1 : ((List.range j).map fun j => qzW (M i j : Int)).map RW.dc ++ [(qzW (M i j : Int)).dc] = ((List.range (j + 1)).map fun j => qzW (M i j : Int)).map RW.dc := by
        rw [List.range_succ, List.map_append, List.map_append]; rfl
      have z1 : (((List.range j).map fun j => qzW (M i j : Int)).map RW.dc).length = j := by simp
      generalize ((List.range j).map fun j => qzW (M i j : Int)).map RW.dc = es at n1 z1 ⊢;refine AWP_skip ?_;show AWP _ _ _ _ _ _;refine AWP_seq ?_;refine AWP_block ?_;refine AWP_reg_seq tok fun K hK => ?_;refine s_indexAddr rfl (x_d rfl rfl rfl rfl hgj rfl) rfl ?_;refine ldQ ?_;refine asQ ?_;refine s_end (hK _ ?_); clear hK K;generalize M i j = x at cq n1 ⊢
      rcases j with _ | j
      · refine a_draw1 tok mixed (A := [[], [], [], [], [], [2, 3], [], [], [6], [2, 3, 4, 6], [], []]) (an := [{}, {}, {}, {}, {}, {}, {}, {}, {}, {}, {}, {}]) rfl (by kernel_rfl) rfl fun K hK => ?_;refine mvQ ?_;refine mvQ ?_;refine mvQ ?_;refine mvQ ?_;refine s_indexAddr rfl (x_o (i := i) (j := i) rfl rfl rfl rfl rfl hg (Nat.zero_add _)) rfl ?_;refine s_load rfl (l_box rfl rfl rfl rfl outC_get) rfl ?_;refine mvQ ?_;refine s_call rfl rfl (cq) rfl rfl rfl rfl ?_;refine s_buildSlice rfl rfl (nr_grid rfl rfl (outC_noRef rfl)) rfl ?_;refine s_append rfl (ap_nil rfl rfl rfl rfl rfl (by decide) (Nat.le_of_ble_eq_true rfl) rfl (by simp) rfl (by simp) (by simp)) (nr_grid rfl rfl (outC_noRef rfl)) rfl rfl ?_;refine s_indexAddr rfl (x_o (i := i) (j := i) rfl rfl rfl rfl rfl hg (Nat.zero_add _)) rfl ?_;refine s_storeB rfl (st_box rfl rfl rfl (by rw [outC_length hg]; exact hg)) rfl rfl rfl ?_;refine s_end (hK _ ?_); clear hK K;rw [outC_set];show AWP _ _ _ _ _ _;refine AWP_reg tok fun K hK => ?_;refine s_bin rfl (e_add (c := ((0 + 1 : Nat) : Int)) (by omega) (by omega)) rfl ?_;refine mvQ ?_;refine s_end (hK _ ?_); clear hK K;refine ⟨0 + 1, by omega, hf, Wk.trans (Wk.rbE (rb' := [90]) rfl) (Wk.rnB [8, 9, 91, 92, 93, 98, 99, 100] [90, 113] 113 105 rfl rfl (nr_grid rfl rfl (outC_noRef rfl)) ⟨rfl, rfl, rfl, rfl, rfl, rfl, rfl, rfl, trivial⟩ ⟨?_, ?_, trivial⟩ rfl)⟩
        · show some (OO.box ((outC F n i (.own 113 4 0 _)).map (renC 113 105))) = _
          rw [outC_ren]
          first
            | rfl
            | (rw [List.length_append, z1]; rfl)
        · first
            | (rw [← n1, List.length_eq_zero_iff.1 z1]; rfl)
            | (rw [← n1]; rfl)
      · refine a_draw1 tok mixed (A := [[], [], [], [], [], [2, 3], [], [], [6], [2, 3, 4, 6], [], []]) (an := [{}, {}, {}, {}, {}, {}, {}, {}, {}, {}, {}, {}]) rfl (by kernel_rfl) rfl fun K hK => ?_;refine mvQ ?_;refine mvQ ?_;refine mvQ ?_;refine mvQ ?_;refine s_indexAddr rfl (x_o (i := i) (j := i) rfl rfl rfl rfl rfl hg (Nat.zero_add _)) rfl ?_;refine s_load rfl (l_box rfl rfl rfl rfl outC_get) rfl ?_;refine mvQ ?_;refine s_call rfl rfl (cq) rfl rfl rfl rfl ?_;refine s_buildSlice rfl rfl (nr_grid rfl rfl (outC_noRef rfl)) rfl ?_;refine s_append rfl (ap_o rfl rfl rfl rfl rfl rfl (by decide) (Nat.le_of_ble_eq_true rfl) rfl (by simp) rfl rfl z1.symm (by simp <;> omega)) (nr_grid rfl rfl (outC_noRef rfl)) rfl rfl ?_;refine s_indexAddr rfl (x_o (i := i) (j := i) rfl rfl rfl rfl rfl hg (Nat.zero_add _)) rfl ?_;refine s_storeB rfl (st_box rfl rfl rfl (by rw [outC_length hg]; exact hg)) rfl rfl rfl ?_;refine s_end (hK _ ?_); clear hK K;rw [outC_set];show AWP _ _ _ _ _ _;refine AWP_reg tok fun K hK => ?_;refine s_bin rfl (e_add (c := ((j + 1 + 1 : Nat) : Int)) (by omega) (by omega)) rfl ?_;refine mvQ ?_;refine s_end (hK _ ?_); clear hK K;refine ⟨j + 1 + 1, by omega, hf, Wk.trans (Wk.rbE (rb' := [90]) rfl) (Wk.rnB [8, 9, 91, 92, 93, 98, 99, 100] [90, 113] 113 105 rfl rfl (nr_grid rfl rfl (outC_noRef rfl)) ⟨rfl, rfl, rfl, rfl, rfl, rfl, rfl, rfl, trivial⟩ ⟨?_, ?_, trivial⟩ rfl)⟩
        · show some (OO.box ((outC F n i (.own 113 4 0 _)).map (renC 113 105))) = _
          rw [outC_ren]
          first
            | rfl
            | (rw [List.length_append, z1]; rfl)
        · first
            | (rw [← n1, List.length_eq_zero_iff.1 z1]; rfl)
            | (rw [← n1]; rfl)
    have hf : j = n := by simp at hf; omega
    subst hf
    refine AWP_exit ?_;show AWP _ _ _ _ _ _
    obtain ⟨m, rfl⟩ : ∃ m, j = m + 1 := ⟨j - 1, by omega⟩
    refine a_fz [8, 91, 92, 93] [90, 105] 105 [(8, .val (.one (.own 90 1 0 (m + 1)))), (91, V1 (.sl (((List.range (m + 1)).map fun i => DC.sl (rowI (m + 1) (M i))).map fun c => [c]))), (92, dI (m + 1 : Nat)), (93, dI i)] [(90, some (.box (outN F (m + 1) (i + 1))))] rfl ⟨rfl, rfl, rfl, rfl, trivial⟩ ⟨?_, trivial⟩ ?_
    · show some (OO.box ((outC F (m + 1) i (.own 105 4 0 (m + 1))).map (frzC 105 4 _))) = _
      have hz : m + 1 = (((List.range (m + 1)).map fun j => qzW (M i j : Int)).map RW.dc).length := by simp
      rw [← outC_N]
      have : outC F (m + 1) i (.own 105 4 0 (m + 1)) = outC F (m + 1) i (.own 105 4 0 (((List.range (m + 1)).map fun j => qzW (M i j : Int)).map RW.dc).length) := by rw [← hz]
      rw [this, outC_frz, hF]; rfl
    refine AWP_reg tok fun K hK => ?_;refine s_bin rfl (e_add (c := ((i + 1 : Nat) : Int)) (by omega) (by omega)) rfl ?_;refine mvQ ?_;refine s_end (hK _ ?_); clear hK K;exact ⟨i + 1, by omega, hg, Wk.mk' ⟨rfl, rfl, rfl, rfl, trivial⟩ ⟨rfl, trivial⟩⟩
  have hg : n = i := by simp at hg; omega
  subst hg
  rw [outN_all];refine AWP_exit ?_;show AWP _ _ _ _ _ _;refine AWP_wk (Wk.toArr (gid := 90) (E' := [(8, .val (.one (.own 90 1 0 n)))]) (S1 := []) (l := (List.range n).map F) ⟨rfl, trivial⟩ rfl trivial rfl) ?_;refine AWP_wk (Wk.rbA (id := 90) rfl) ?_;refine a_fz [8] [90] 90 [(8, V1 (dMs (lapQ n M)))] [] rfl ?_ trivial ?_
  · refine ⟨?_, trivial⟩
    have : ((List.range n).map F).map (fun c => [c]) = (lapQ n M).map cM := by rw [lapQ, List.map_map, List.map_map, hF]; rfl
    rw [dMs, ← this];exact frz_own rfl (by simp)
  refine AWP_reg_seq tok fun K hK => ?_;refine mvQ ?_;refine asQ ?_;refine s_end (hK _ ?_); clear hK K;refine AWP_ret ?_
  repeat (with_reducible refine tq_ret ?_)
  exact post_ret (fin_mk (by rfl) (by rfl) (by rfl))
end Go.Proofs.YtgopibpkgmafiaaGreat

/- The normal equations. No condition. -/
namespace Go.Proofs.YtgopibpkgmafiaaGreat
attribute [local irreducible] lexA

theorem ql_zero : ql (0 : Rat) ≤ 1 := by decide
end Go.Proofs.YtgopibpkgmafiaaGreat

/- The law's fixed examples. No condition. -/
namespace Go.Proofs.YtgopibpkgmafiaaGreat
attribute [local irreducible] lexA

def RS (r : RW) : Prop := r.wp.length ≤ 9223372036854775806 ∧ r.wq.length ≤ 9223372036854775806
theorem rat_same (a : RW) (h : RS a) : Con Tryz.prog 13 [AG a.cs, AG a.cs] { v := dB true } := by
  have c := bRat_c a a h.1 h.2
  rwa [decide_eq_true rfl] at c
theorem ints_same (a : List Int) (hl : a.length ≤ 9223372036854775806) : Con Tryz.prog 22 [V1 (dIs a), V1 (dIs a)] { v := dB true } := by
  have c := bInts_c a a hl
  rwa [decide_eq_true rfl] at c

end Go.Proofs.YtgopibpkgmafiaaGreat

/- The fixed examples hold. No condition. -/
namespace Go.Proofs.YtgopibpkgmafiaaGreat
end Go.Proofs.YtgopibpkgmafiaaGreat

/- Rotations and transforms over what stands in the cells. No condition. -/
namespace Go.Proofs.YtgopibpkgmafiaaGreat
attribute [local irreducible] lexA

/-! ### Rationals -/
theorem qMul_t (a b : RW) (z : Rat) (ha : a.OK 16777216) (hb : b.OK 16777216) (h : a.v * b.v = z) : Con Tryz.prog 28 [AG a.cs, AG b.cs] { v := AG (qzW z).cs } := by
  subst h
  exact qMul_q a.v b.v _ _ _ _ _ _ _ _ ha.op ha.oq hb.op hb.oq ha.lp ha.lq hb.lp hb.lq rfl rfl
theorem qSub_t (a b : RW) (z : Rat) (ha : a.OK 16777215) (hb : b.OK 16777215) (h : a.v - b.v = z) : Con Tryz.prog 97 [AG a.cs, AG b.cs] { v := AG (qzW z).cs } := by
  subst h
  exact qSub_q a.v b.v _ _ _ _ _ _ _ _ ha.op ha.oq hb.op hb.oq ha.lp ha.lq hb.lp hb.lq rfl rfl
theorem qNeg_t (a : RW) (ha : a.OK 16777216) : Con Tryz.prog 72 [AG a.cs] { v := AG (qzW (-a.v)).cs } :=
  qNeg_c _ _ _ _ ha.op ha.oq (le_d ha.lp rfl) (le_d ha.lq rfl)
theorem qNorm_t (a : RW) (ha : a.OK 16777216) : Con Tryz.prog 57 [AG a.cs] { v := AG (qzW a.v).cs } :=
  qNorm_c _ _ _ _ ha.op ha.oq (le_d ha.lp rfl) (le_d ha.lq rfl)

/-! ### Rotations -/

end Go.Proofs.YtgopibpkgmafiaaGreat

/- Comparisons of numbers; powers, orders, marks of rotations. No condition. -/
namespace Go.Proofs.YtgopibpkgmafiaaGreat
attribute [local irreducible] lexA

section
variable {T : Tab} {t : TypeId}
end

def zcmp (x y : Int) : Int := if x < y then -1 else if y < x then 1 else 0
theorem zcmp_eq (x y : Int) : (zcmp x y == 0) = decide (x = y) := by
  unfold zcmp
  by_cases h : x < y
  · rw [if_pos h, decide_eq_false (by omega)]; rfl
  · rw [if_neg h]
    by_cases h' : y < x
    · rw [if_pos h', decide_eq_false (by omega)]; rfl
    · rw [if_neg h', decide_eq_true (by omega)]; rfl
theorem zcmp_sgn {x y : Int} (h : x.sign = y.sign) : x.sign * ncmp x.natAbs y.natAbs = zcmp x y := by
  unfold zcmp ncmp
  rcases Int.lt_trichotomy x 0 with hx | hx | hx
  · have e1 : x.sign = -1 := Int.sign_eq_neg_one_iff_neg.2 hx
    have hy : y < 0 := Int.sign_eq_neg_one_iff_neg.1 (h ▸ e1)
    rw [e1]
    repeat' split
    all_goals omega
  · have e1 : x.sign = 0 := by rw [hx]; rfl
    have hy : y = 0 := Int.sign_eq_zero_iff_zero.1 (h ▸ e1)
    rw [hx, hy]; rfl
  · have e1 : x.sign = 1 := Int.sign_eq_one_iff_pos.2 hx
    have hy : 0 < y := Int.sign_eq_one_iff_pos.1 (h ▸ e1)
    rw [e1]
    repeat' split
    all_goals omega
theorem sgn_cases (x : Int) : (x < 0 ∧ x.sign = -1) ∨ (x = 0 ∧ x.sign = 0) ∨ (0 < x ∧ x.sign = 1) := by
  rcases Int.lt_trichotomy x 0 with hx | hx | hx
  · exact Or.inl ⟨hx, Int.sign_eq_neg_one_iff_neg.2 hx⟩
  · exact Or.inr (Or.inl ⟨hx, by rw [hx]; rfl⟩)
  · exact Or.inr (Or.inr ⟨hx, Int.sign_eq_one_iff_pos.2 hx⟩)
theorem zcmp_lt {x y : Int} (h : x.sign < y.sign) : zcmp x y = -1 := by
  have := sgn_cases x
  have := sgn_cases y
  unfold zcmp; rw [if_pos (by omega)]
theorem zcmp_gt {x y : Int} (h : x.sign > y.sign) : zcmp x y = 1 := by
  have := sgn_cases x
  have := sgn_cases y
  unfold zcmp; rw [if_neg (by omega), if_pos (by omega)]

theorem iCmp_z (na nb : Bool) (wa wb : List Nat) (x y : Int) (ha : wOK wa) (hb : wOK wb) (la : wa.length ≤ 536870912) (lb : wb.length ≤ 536870912) (hx : zv na wa = x) (hy : zv nb wb = y) :
    Con Tryz.prog 58 [AG (IC na wa), AG (IC nb wb)] { v := dI (zcmp x y) } := by
  have c1 := iSign_c na wa ha (by omega)
  have c2 := iSign_c nb wb hb (by omega)
  have hwa := wl_len ha
  have hwb := wl_len hb
  have ea : (zv na wa).natAbs = wv wa := zv_abs ..
  have eb : (zv nb wb).natAbs = wv wb := zv_abs ..
  rw [hx] at c1 ea;rw [hy] at c2 eb;refine con_intro (fn := Tryz.f58) tok Tryz.func58 (by kernel_rfl) rfl ?_
  intro w0 X
  rw [entry_mkE _ _ [(0, AG (IC na wa)), (1, AG (IC nb wb))] rfl rfl];refine AWP_reg_seq tok fun K hK => ?_;refine s_box rfl rfl rfl rfl rfl rfl ?_;refine s_box rfl rfl rfl rfl rfl rfl ?_;refine asQ ?_;refine s_end (hK _ ?_); clear hK K;refine a_draw tok mixed (A := [[], [], [], [0], [2], []]) (an := [{}, {}, { c := [8] }, {}, {}, {}]) rfl (by kernel_rfl) rfl fun K hK => ?_;refine ldQ ?_;refine s_call rfl rfl (c1) rfl rfl rfl rfl ?_;refine ldQ ?_;refine s_call rfl rfl (c2) rfl rfl rfl rfl ?_;refine asQ ?_;refine asQ ?_;refine s_end (hK _ ?_); clear hK K;refine AWP_seq ?_;refine AWP_block ?_;refine AWP_reg_seq tok fun K hK => ?_;refine mvQ ?_;refine mvQ ?_;refine biQ ?_;refine asQ ?_;refine s_end (hK _ ?_); clear hK K;refine a_cond rfl (fun hc => ?_) (fun hc => ?_)
  · refine AWP_reg_seq tok fun K hK => ?_;refine asQ ?_;refine s_end (hK _ ?_); clear hK K;refine AWP_ret ?_
    repeat (with_reducible refine tq_ret ?_)
    exact post_ret (fin_mk (by rfl) (by rfl) (by rw [zcmp_lt (of_decide_eq_true hc)]; rfl))
  · refine AWP_reg_seq tok fun K hK => ?_;refine mvQ ?_;refine mvQ ?_;refine biQ ?_;refine asQ ?_;refine s_end (hK _ ?_); clear hK K;refine a_cond rfl (fun hd => ?_) (fun hd => ?_)
    · refine AWP_reg_seq tok fun K hK => ?_;refine asQ ?_;refine s_end (hK _ ?_); clear hK K;refine AWP_ret ?_
      repeat (with_reducible refine tq_ret ?_)
      exact post_ret (fin_mk (by rfl) (by rfl) (by rw [zcmp_gt (of_decide_eq_true hd)]; rfl))
    · have hs : x.sign = y.sign := by
        have h1 := of_decide_eq_false hc
        have h2 := of_decide_eq_false hd
        omega
      refine AWP_skip ?_;show AWP _ _ _ _ _ _
      have e : effBin tab .mul 3 (dI x.sign) (dI (ncmp (wv (wof (wv wa))) (wv (wof (wv wb))))) = .set (dI (zcmp x y)) := by
        rw [wv_wof, wv_wof];refine e_mul (by rw [← ea, ← eb]; exact zcmp_sgn hs) ?_
        unfold zcmp; repeat' split
        all_goals omega
      refine a_draw tok mixed (A := [[], [], [], [1], [], [], [1, 2, 4], [1, 2, 4, 5], [1, 2, 3, 4, 5, 6], []]) (an := [{}, {}, {}, {}, { c := [22] }, { c := [22] }, {}, {}, {}, {}]) rfl (by kernel_rfl) rfl fun K hK => ?_;refine mvQ ?_;refine faQ ?_;refine ldQ ?_;refine s_call rfl rfl (trimZ_c wa ha (by omega)) rfl rfl rfl rfl ?_;refine faQ ?_;refine ldQ ?_;refine s_call rfl rfl (trimZ_c wb hb (by omega)) rfl rfl rfl rfl ?_;refine s_call rfl rfl (compare_c _ _ (wof_ok _) (wof_ok _) (wof_top _) (wof_top _) (by omega) (by omega)) rfl rfl rfl rfl ?_;refine s_bin rfl e rfl ?_;refine asQ ?_;refine s_end (hK _ ?_); clear hK K;refine AWP_ret ?_
      repeat (with_reducible refine tq_ret ?_)
      exact post_ret (fin_mk (by rfl) (by rfl) (by rfl))
theorem iCmpZ_c (x y : Int) (hx : zl x ≤ 536870912) (hy : zl y ≤ 536870912) : Con Tryz.prog 58 [AG (ZC x), AG (ZC y)] { v := dI (zcmp x y) } :=
  iCmp_z _ _ _ _ x y (wof_ok _) (wof_ok _) hx hy (zv_ZC x) (zv_ZC y)
def qcmp (x y : Rat) : Int := zcmp (x.num * y.den) (y.num * x.den)
theorem qcmp_eq (x y : Rat) : (qcmp x y == 0) = decide (x = y) := by
  unfold qcmp
  rw [zcmp_eq];refine decide_eq_decide.2 ⟨fun h => ?_, fun h => by rw [h]⟩
  have hx := Rat.num_divInt_den x
  have hy := Rat.num_divInt_den y
  rw [← hx, ← hy];exact (Rat.divInt_eq_divInt_iff (by have := x.den_nz; omega) (by have := y.den_nz; omega)).2 h

theorem qCmp_t (a b : RW) (ha : a.OK 16777216) (hb : b.OK 16777216) : Con Tryz.prog 30 [AG a.cs, AG b.cs] { v := dI (qcmp a.v b.v) } := by
  have c1 := qNorm_t a ha
  have c2 := qNorm_t b hb
  have h1 := ha.ql rfl
  have h2 := hb.ql rfl
  generalize a.v = x at *;generalize b.v = y at *
  have n1 := ql_num_le h1
  have n2 := ql_num_le h2
  have d1 := ql_den_le h1
  have d2 := ql_den_le h2
  have c3 := iMulZ_c x.num y.den (le_d n1 rfl) (le_d d2 rfl)
  have c4 := iMulZ_c y.num x.den (le_d n2 rfl) (le_d d1 rfl)
  have c5 := iCmpZ_c (x.num * y.den) (y.num * x.den) (le_d (zl_mul_le n1 d2) rfl) (le_d (zl_mul_le n2 d1) rfl)
  refine con_intro (fn := Tryz.f30) tok Tryz.func30 (by kernel_rfl) rfl ?_
  intro w0 X
  rw [entry_mkE _ _ [(0, AG a.cs), (1, AG b.cs)] rfl rfl];refine AWP_reg_seq tok fun K hK => ?_;refine s_box rfl rfl rfl rfl rfl rfl ?_;refine s_box rfl rfl rfl rfl rfl rfl ?_;refine asQ ?_;refine s_end (hK _ ?_); clear hK K;refine a_draw tok mixed (A := [[], [], [], [0], [2], []]) (an := [{}, {}, { c := [6] }, {}, {}, {}]) rfl (by kernel_rfl) rfl fun K hK => ?_;refine ldQ ?_;refine s_call rfl rfl (c1) rfl rfl rfl rfl ?_;refine ldQ ?_;refine s_call rfl rfl (c2) rfl rfl rfl rfl ?_;refine s_store rfl rfl rfl rfl rfl ?_;refine s_store rfl rfl rfl rfl rfl ?_;refine s_end (hK _ ?_); clear hK K;refine a_draw tok mixed (A := [[], [], [], [], [0, 2], [], [], [], [], [0, 1, 2, 3, 5, 7], [0, 1, 2, 3, 5, 6, 7, 8], []]) (an := [{}, {}, {}, {}, {}, { c := [13] }, { c := [13] }, { c := [13] }, { c := [13] }, {}, {}, {}]) rfl (by kernel_rfl) rfl fun K hK => ?_;refine faQ ?_;refine ldQ ?_;refine faQ ?_;refine ldQ ?_;refine s_call rfl rfl (c3) rfl rfl rfl rfl ?_;refine faQ ?_;refine ldQ ?_;refine faQ ?_;refine ldQ ?_;refine s_call rfl rfl (c4) rfl rfl rfl rfl ?_;refine s_call rfl rfl (c5) rfl rfl rfl rfl ?_;refine asQ ?_;refine s_end (hK _ ?_); clear hK K;refine AWP_ret ?_
  repeat (with_reducible refine tq_ret ?_)
  exact post_ret (fin_mk (by rfl) (by rfl) (by rfl))

end Go.Proofs.YtgopibpkgmafiaaGreat

/- Displacements are as long as the steps of their links. No condition. -/
namespace Go.Proofs.YtgopibpkgmafiaaGreat
attribute [local irreducible] lexA

end Go.Proofs.YtgopibpkgmafiaaGreat

/- The cost stays the same, if all positions are moved. No condition. -/
namespace Go.Proofs.YtgopibpkgmafiaaGreat
attribute [local irreducible] lexA

section
variable {T : Tab} {t : TypeId} {a b : Int}
theorem e_eqI (h : a = b) : effBin T .eql t (dI a) (dI b) = .set (dB true) := by
  subst h
  show Eff.set (dB (a == a)) = _
  rw [beq_self_eq_true]
end
end Go.Proofs.YtgopibpkgmafiaaGreat

/- The components stay the same, if links are turned round. No condition. -/
namespace Go.Proofs.YtgopibpkgmafiaaGreat
attribute [local irreducible] lexA

end Go.Proofs.YtgopibpkgmafiaaGreat

/- The reference's chain is the chain. No condition. -/
namespace Go.Proofs.YtgopibpkgmafiaaGreat
attribute [local irreducible] lexA

end Go.Proofs.YtgopibpkgmafiaaGreat

/- Any chain is that of the reference. No condition. -/
namespace Go.Proofs.YtgopibpkgmafiaaGreat
attribute [local irreducible] lexA
open Go.RowKit

end Go.Proofs.YtgopibpkgmafiaaGreat

/- The positions of a chain that are added up from its displacements have the cost 0. No condition. -/
namespace Go.Proofs.YtgopibpkgmafiaaGreat
attribute [local irreducible] lexA

section
variable {ts : List RW} {st : List PT} {w : Int}
end
end Go.Proofs.YtgopibpkgmafiaaGreat

/- The Laplacian of any graph is that of the reference, symmetric, with rows whose sums are 0. No condition. -/
namespace Go.Proofs.YtgopibpkgmafiaaGreat
attribute [local irreducible] lexA

def lapV (g : GR) : List (List RW) × Int := if validB g then (lapQ g.nodes.length (lapM g.links), 0) else ([], 1)
theorem gLap_c (g : GR) : Con Tryz.prog 35 [AG g.cs] { v := .tup [.one (.d (dMs (lapV g).1)), .one (.d (lI (lapV g).2))] } := by
  refine con_intro (fn := Tryz.f35) tok Tryz.func35 (by kernel_rfl) rfl ?_
  intro w0 X
  rw [entry_mkE _ _ [(0, AG g.cs)] rfl rfl];refine AWP_reg_seq tok fun K hK => ?_;refine s_box rfl rfl rfl rfl rfl rfl ?_;refine asQ ?_;refine asQ ?_;refine s_end (hK _ ?_); clear hK K;refine AWP_seq ?_;refine AWP_reg_seq tok fun K hK => ?_;refine ldQ ?_;refine s_call rfl rfl (gValid_c g) rfl rfl rfl rfl ?_;refine s_un rfl rfl rfl ?_;refine s_end (hK _ ?_); clear hK K;refine a_cond rfl (fun hc => ?_) (fun hc => ?_)
  · rw [Bool.not_eq_true'] at hc
    have e : lapV g = ([], 1) := by rw [lapV, if_neg (by rw [hc]; simp)]
    rw [e];refine AWP_reg_seq tok fun K hK => ?_;refine asQ ?_;refine asQ ?_;refine s_end (hK _ ?_); clear hK K;refine AWP_ret ?_
    repeat (with_reducible refine tq_ret ?_)
    exact post_ret (fin_mk (by rfl) (by rfl) (by rfl))
  · rw [Bool.not_eq_false'] at hc
    have e : lapV g = (lapQ g.nodes.length (lapM g.links), 0) := by rw [lapV, if_pos hc]
    have c := glap_c g (validB_iff.1 hc)
    rw [e];generalize lapQ g.nodes.length (lapM g.links) = m at c ⊢;refine AWP_skip ?_;show AWP _ _ _ _ _ _;refine AWP_reg_seq tok fun K hK => ?_;refine ldQ ?_;refine s_call rfl rfl (c) rfl rfl rfl rfl ?_;refine asQ ?_;refine asQ ?_;refine s_end (hK _ ?_); clear hK K;refine AWP_ret ?_
    repeat (with_reducible refine tq_ret ?_)
    exact post_ret (fin_mk (by rfl) (by rfl) (by rfl))

end Go.Proofs.YtgopibpkgmafiaaGreat

/- The reference's displacements, residuals and costs. No condition. -/
namespace Go.Proofs.YtgopibpkgmafiaaGreat
attribute [local irreducible] lexA

end Go.Proofs.YtgopibpkgmafiaaGreat

/- The reference's components. No condition. -/
namespace Go.Proofs.YtgopibpkgmafiaaGreat
attribute [local irreducible] lexA

def prs (ls : List LK) : List (Nat × Nat) := ls.map fun l => (l.f.toNat, l.t.toNat)
theorem partsL_uniL (n : Nat) (ls : List LK) : partsL n ls = uniL n (prs ls) := by
  rw [partsL, uniL, prs, List.foldl_map]
theorem rxs_snoc (ps : List (Nat × Nat)) (p : Nat × Nat) (L : List Nat) : rxs (ps ++ [p]) L = rx1 (rxs ps L) p := by
  rw [rxs, List.foldl_append]; rfl
theorem prs_snoc {ls : List LK} {j : Nat} (h : j < ls.length) : prs (ls.take (j + 1)) = prs (ls.take j) ++ [(ls[j].f.toNat, ls[j].t.toNat)] := by
  rw [prs, List.take_succ_eq_append_getElem h, List.map_append]; rfl

theorem r28Parts_c (g : GR) (hl : g.links.length ≤ 9223372036854775806) : Con Tryz.prog 60 [AG g.cs] { v := .tup [.one (.d (dNs (partsV g).1)), .one (.d (lI (partsV g).2))] } := by
  refine con_intro (fn := Tryz.f60) tok Tryz.func60 (by kernel_rfl) rfl ?_
  intro w0 X
  rw [entry_mkE _ _ [(0, AG g.cs)] rfl rfl];refine AWP_reg_seq tok fun K hK => ?_;refine s_box rfl rfl rfl rfl rfl rfl ?_;refine asQ ?_;refine asQ ?_;refine s_end (hK _ ?_); clear hK K;refine AWP_seq ?_;refine AWP_reg_seq tok fun K hK => ?_;refine ldQ ?_;refine s_call rfl rfl (r28Valid_c g hl) rfl rfl rfl rfl ?_;refine s_un rfl rfl rfl ?_;refine s_end (hK _ ?_); clear hK K;refine a_cond rfl (fun hc => ?_) (fun hc => ?_)
  · rw [Bool.not_eq_true'] at hc
    have e : partsV g = ([], 1) := by rw [partsV, if_neg (by rw [hc]; simp)]
    rw [e];refine AWP_reg_seq tok fun K hK => ?_;refine asQ ?_;refine asQ ?_;refine s_end (hK _ ?_); clear hK K;refine AWP_ret ?_
    repeat (with_reducible refine tq_ret ?_)
    exact post_ret (fin_mk (by rfl) (by rfl) (by rfl))
  rw [Bool.not_eq_false'] at hc
  have gv := validB_iff.1 hc
  obtain ⟨m, hm⟩ : ∃ m, g.nodes.length = m + 1 := ⟨g.nodes.length - 1, by have := gv.n1; omega⟩
  have n16 := gv.n2
  have l48 := gv.l
  have hps : ∀ p ∈ prs g.links, p.1 < m + 1 ∧ p.2 < m + 1 := by
    intro p hp
    obtain ⟨l, hl', rfl⟩ := List.mem_map.1 hp
    have lv := (linkB_iff.1 (gv.lk l hl')).fn
    rw [hm] at lv;exact lv.2
  have hmin := rxN_min (m + 1) (prs g.links) hps
  have hle : ∀ v, v < m + 1 → (rxN (prs g.links) (m + 1) (List.range (m + 1))).getD v 0 ≤ v := fun v hv => by
    rw [hmin v hv]; exact fd_le (uniL_ok _ _).1 v
  have e : partsV g = ((numF (fun v => (rxN (prs g.links) (m + 1) (List.range (m + 1))).getD v 0) (m + 1)).1, 0) := by
    rw [partsV, if_pos hc, partsR, hm, partsL_uniL, ← numF_fd, numF_congr fun u hu => (hmin u hu).symm]
  have hN : ∀ r, (rxN (prs g.links) r (List.range (m + 1))).length = m + 1 := fun r => by rw [rxN_length, List.length_range]
  have eall : g.links.take g.links.length = g.links := List.take_length
  rw [e];refine AWP_skip ?_;show AWP _ _ _ _ _ _;refine AWP_reg_seq tok fun K hK => ?_;refine asQ ?_;refine s_end (hK _ ?_); clear hK K;refine AWP_seq ?_;refine AWP_reg_seq tok fun K hK => ?_;refine asQ ?_;refine s_end (hK _ ?_); clear hK K;refine AWP_block (a_loop (α := Nat) (fun i => mk 106 [(1, .ptr 1 0), (4, ownN 200 1 i), (5, dI i)] [(1, some (.box g.cs)), (200, arrN 1 ((List.range i).map cN) i)] []) (fun i => i ≤ m + 1) (fun i => m + 1 - i) 0 ?_ (Nat.zero_le _) ?_)
  · exact Wk.mk' ⟨rfl, rfl, rfl, trivial⟩ ⟨rfl, rfl, trivial⟩
  intro i hi
  refine AWP_seq ?_;refine AWP_reg_seq tok fun K hK => ?_;refine mvQ ?_;refine faQ ?_;refine ldQ ?_;refine s_blt rfl (len_m RW.dc rfl rfl) rfl ?_;refine biQ ?_;refine s_end (hK _ ?_); clear hK K;refine a_cond rfl (fun hg => ?_) (fun hg => ?_)
  · have hg : i < m + 1 := by simp at hg; omega
    have n1 : (List.range i).map cN ++ [cN i] = (List.range (i + 1)).map cN := by rw [List.range_succ, List.map_append]; rfl
    have z1 : ((List.range i).map cN).length = i := by simp
    generalize (List.range i).map cN = es at n1 z1 ⊢;refine AWP_skip ?_;show AWP _ _ _ _ _ _;refine AWP_seq ?_;refine AWP_block ?_
    rcases i with _ | i
    · refine AWP_reg tok fun K hK => ?_;refine mvQ ?_;refine mvQ ?_;refine s_buildSlice rfl rfl rfl rfl ?_;refine s_append rfl (ap_nil rfl rfl rfl rfl rfl (by decide) (Nat.le_of_ble_eq_true rfl) rfl (by simp) rfl (by simp) (by simp)) rfl rfl rfl ?_;refine asQ ?_;refine s_end (hK _ ?_); clear hK K;show AWP _ _ _ _ _ _;refine AWP_reg tok fun K hK => ?_;refine mvQ ?_;refine s_bin rfl (e_add (c := ((0 + 1 : Nat) : Int)) (by omega) (by omega)) rfl ?_;refine asQ ?_;refine s_end (hK _ ?_); clear hK K;refine ⟨0 + 1, by omega, hg, Wk.rn [1, 5, 4] [1, 25] 25 200 rfl rfl rfl ⟨rfl, ?_, rfl, trivial⟩ ⟨rfl, ?_, trivial⟩⟩
      · first
          | rfl
          | (show SV.val (.one (.own 200 1 0 _)) = _
             rw [List.length_append, z1]; rfl)
      · first
          | (rw [← n1, List.length_eq_zero_iff.1 z1]; rfl)
          | (rw [← n1]; rfl)
    · refine AWP_reg tok fun K hK => ?_;refine mvQ ?_;refine mvQ ?_;refine s_buildSlice rfl rfl rfl rfl ?_;refine s_append rfl (ap_o rfl rfl rfl rfl rfl rfl (by decide) (Nat.le_of_ble_eq_true rfl) rfl (by simp) rfl rfl z1.symm (by simp <;> omega)) rfl rfl rfl ?_;refine asQ ?_;refine s_end (hK _ ?_); clear hK K;show AWP _ _ _ _ _ _;refine AWP_reg tok fun K hK => ?_;refine mvQ ?_;refine s_bin rfl (e_add (c := ((i + 1 + 1 : Nat) : Int)) (by omega) (by omega)) rfl ?_;refine asQ ?_;refine s_end (hK _ ?_); clear hK K;refine ⟨i + 1 + 1, by omega, hg, Wk.rn [1, 5, 4] [1, 25] 25 200 rfl rfl rfl ⟨rfl, ?_, rfl, trivial⟩ ⟨rfl, ?_, trivial⟩⟩
      · first
          | rfl
          | (show SV.val (.one (.own 200 1 0 _)) = _
             rw [List.length_append, z1]; rfl)
      · first
          | (rw [← n1, List.length_eq_zero_iff.1 z1]; rfl)
          | (rw [← n1]; rfl)
  have hi' : i = m + 1 := by simp at hg; omega
  subst hi'
  clear hg hi;refine AWP_exit ?_;show AWP _ _ _ _ _ _;refine AWP_seq ?_;refine AWP_reg_seq tok fun K hK => ?_;refine asQ ?_;refine s_end (hK _ ?_); clear hK K;refine AWP_block (a_loop (α := Nat) (fun r => mk 106 [(1, .ptr 1 0), (4, .val (.one (.own 200 1 0 (m + 1)))), (6, dI r)] [(1, some (.box g.cs)), (200, some (.arr 1 ((rxN (prs g.links) r (List.range (m + 1))).map cN)))] []) (fun r => r ≤ m + 1) (fun r => m + 1 - r) 0 ?_ (Nat.zero_le _) ?_)
  · exact Wk.mk' ⟨rfl, rfl, rfl, trivial⟩ ⟨rfl, rfl, trivial⟩
  intro r hr
  refine AWP_seq ?_;refine AWP_reg_seq tok fun K hK => ?_;refine mvQ ?_;refine faQ ?_;refine ldQ ?_;refine s_blt rfl (len_m RW.dc rfl rfl) rfl ?_;refine biQ ?_;refine s_end (hK _ ?_); clear hK K;refine a_cond rfl (fun hg => ?_) (fun hg => ?_)
  · have hg : r < m + 1 := by simp at hg; omega
    have hL := hN r
    have hR : rxN (prs g.links) (r + 1) (List.range (m + 1)) = rxs (prs g.links) (rxN (prs g.links) r (List.range (m + 1))) := rfl
    generalize rxN (prs g.links) r (List.range (m + 1)) = L0 at hL hR ⊢;refine AWP_skip ?_;show AWP _ _ _ _ _ _;refine AWP_seq ?_;refine AWP_block ?_;refine AWP_reg_seq tok fun K hK => ?_;refine asQ ?_;refine s_end (hK _ ?_); clear hK K;refine AWP_block (a_loop (α := Nat) (fun j => mk 106 [(1, .ptr 1 0), (4, .val (.one (.own 200 1 0 (m + 1)))), (6, dI r), (7, dI j)] [(1, some (.box g.cs)), (200, some (.arr 1 ((rxs (prs (g.links.take j)) L0).map cN)))] []) (fun j => j ≤ g.links.length) (fun j => g.links.length - j) 0 ?_ (Nat.zero_le _) ?_)
    · exact Wk.mk' ⟨rfl, rfl, rfl, rfl, trivial⟩ ⟨rfl, rfl, trivial⟩
    intro j hj
    refine AWP_seq ?_;refine AWP_reg_seq tok fun K hK => ?_;refine mvQ ?_;refine faQ ?_;refine ldQ ?_;refine s_blt rfl (len_m LK.dc rfl rfl) rfl ?_;refine biQ ?_;refine s_end (hK _ ?_); clear hK K;refine a_cond rfl (fun hx => ?_) (fun hx => ?_)
    · have hx : j < g.links.length := by simp at hx; omega
      have lv := linkB_iff.1 (gv.lk _ (List.getElem_mem hx))
      rw [hm] at lv
      have hsn : rxs (prs (g.links.take (j + 1))) L0 = rx1 (rxs (prs (g.links.take j)) L0) (g.links[j].f.toNat, g.links[j].t.toNat) := by
        rw [prs_snoc hx, rxs_snoc]
      obtain ⟨l, el⟩ : ∃ l, l = g.links[j] := ⟨_, rfl⟩
      rw [← el] at lv hsn
      have hlen : (rxs (prs (g.links.take j)) L0).length = m + 1 := by rw [rxs_length, hL]
      generalize rxs (prs (g.links.take j)) L0 = L at hsn hlen ⊢
      have e1 : l.f = ((l.f.toNat : Nat) : Int) := by have := lv.f; omega
      have e2 : l.t = ((l.t.toNat : Nat) : Int) := by have := lv.t; omega
      have hf : l.f.toNat < m + 1 := lv.fn.2.1
      have ht : l.t.toNat < m + 1 := lv.fn.2.2
      generalize l.f.toNat = f at hsn e1 hf;generalize l.t.toNat = t at hsn e2 ht
      have hf' : f < L.length := by omega
      have ht' : t < L.length := by omega
      have ht2 : t < (L.set f (min (L.getD f 0) (L.getD t 0))).length := by rw [List.length_set]; exact ht'
      refine AWP_skip ?_;show AWP _ _ _ _ _ _;refine AWP_seq ?_;refine AWP_block ?_;refine a_draw tok mixed (A := [[], [], [], [], [1], [1, 2, 3], [1, 2, 3, 4], [1, 2, 3, 4, 5], [0, 1, 2, 3, 4, 5, 6], [], [], [], [], [10], [10, 11, 12], [10, 11, 12, 13], [10, 11, 12, 13, 14], [9, 10, 11, 12, 13, 14, 15], [0, 1, 2, 3, 4, 5, 6, 7, 9, 10, 11, 12, 13, 14, 15, 16], []]) (an := [{}, {}, {}, {}, {}, {}, {}, {}, {}, {}, {}, {}, {}, {}, {}, {}, {}, {}, {}, {}]) rfl (by kernel_rfl) rfl fun K hK => ?_;refine mvQ ?_;refine faQ ?_;refine ldQ ?_;refine mvQ ?_;refine s_indexAddr rfl (x_m LK.dc rfl rfl rfl rfl hx rfl) rfl ?_;refine faQ ?_;refine s_load rfl (by rw [← el]; rfl) rfl ?_;refine s_indexAddr rfl (x_o (i := f) (j := f) rfl rfl rfl rfl e1 hf (Nat.zero_add _)) rfl ?_;refine s_load rfl (l_N rfl rfl rfl rfl hf') rfl ?_;refine mvQ ?_;refine faQ ?_;refine ldQ ?_;refine mvQ ?_;refine s_indexAddr rfl (x_m LK.dc rfl rfl rfl rfl hx rfl) rfl ?_;refine faQ ?_;refine s_load rfl (by rw [← el]; rfl) rfl ?_;refine s_indexAddr rfl (x_o (i := t) (j := t) rfl rfl rfl rfl e2 ht (Nat.zero_add _)) rfl ?_;refine s_load rfl (l_N rfl rfl rfl rfl ht') rfl ?_;refine s_blt rfl (mm_min _ _) rfl ?_;refine asQ ?_;refine s_end (hK _ ?_); clear hK K;refine AWP_reg_seq tok fun K hK => ?_;refine mvQ ?_;refine faQ ?_;refine ldQ ?_;refine mvQ ?_;refine s_indexAddr rfl (x_m LK.dc rfl rfl rfl rfl hx rfl) rfl ?_;refine faQ ?_;refine s_load rfl (by rw [← el]; rfl) rfl ?_;refine mvQ ?_;refine s_indexAddr rfl (x_o (i := f) (j := f) rfl rfl rfl rfl e1 hf (Nat.zero_add _)) rfl ?_;refine s_store rfl (st_N rfl rfl rfl hf' rfl) rfl rfl rfl ?_;refine s_end (hK _ ?_); clear hK K;refine AWP_reg tok fun K hK => ?_;refine mvQ ?_;refine faQ ?_;refine ldQ ?_;refine mvQ ?_;refine s_indexAddr rfl (x_m LK.dc rfl rfl rfl rfl hx rfl) rfl ?_;refine faQ ?_;refine s_load rfl (by rw [← el]; rfl) rfl ?_;refine mvQ ?_;refine s_indexAddr rfl (x_o (i := t) (j := t) rfl rfl rfl rfl e2 ht (Nat.zero_add _)) rfl ?_;refine s_store rfl (st_N rfl rfl rfl ht2 rfl) rfl rfl rfl ?_;refine s_end (hK _ ?_); clear hK K;show AWP _ _ _ _ _ _;refine AWP_reg tok fun K hK => ?_;refine mvQ ?_;refine s_bin rfl (e_add (c := ((j + 1 : Nat) : Int)) (by omega) (by omega)) rfl ?_;refine asQ ?_;refine s_end (hK _ ?_); clear hK K;refine ⟨j + 1, by omega, hx, Wk.mk' ⟨rfl, rfl, rfl, rfl, trivial⟩ ⟨rfl, ?_, trivial⟩⟩;rw [hsn]; rfl
    · have hx : j = g.links.length := by simp at hx; omega
      subst hx
      refine AWP_exit ?_;show AWP _ _ _ _ _ _;rw [eall];refine AWP_reg tok fun K hK => ?_;refine mvQ ?_;refine s_bin rfl (e_add (c := ((r + 1 : Nat) : Int)) (by omega) (by omega)) rfl ?_;refine asQ ?_;refine s_end (hK _ ?_); clear hK K;exact ⟨r + 1, by omega, hg, Wk.mk' ⟨rfl, rfl, rfl, trivial⟩ ⟨rfl, by rw [hR]; rfl, trivial⟩⟩
  have hr' : r = m + 1 := by simp at hg; omega
  subst hr'
  clear hg hr
  have hL := hN (m + 1)
  clear hN hmin;generalize rxN (prs g.links) (m + 1) (List.range (m + 1)) = L at hL hle ⊢;refine AWP_exit ?_;show AWP _ _ _ _ _ _;refine AWP_reg_seq tok fun K hK => ?_;refine asQ ?_;refine s_end (hK _ ?_); clear hK K;refine AWP_reg_seq tok fun K hK => ?_;refine asQ ?_;refine s_end (hK _ ?_); clear hK K;refine AWP_seq ?_;refine AWP_reg_seq tok fun K hK => ?_;refine asQ ?_;refine s_end (hK _ ?_); clear hK K
  have hnl : ∀ v, (numF (fun v => L.getD v 0) v).1.length = v := by
    intro v
    induction v with
    | zero => rfl
    | succ v ih =>
      rw [numF]
      split
      · show (_ ++ [_]).length = v + 1
        rw [List.length_append, ih]; rfl
      · show (_ ++ [_]).length = v + 1
        rw [List.length_append, ih]; rfl
  have hn2 : ∀ v, (numF (fun v => L.getD v 0) v).2 ≤ v := by
    intro v
    induction v with
    | zero => exact Nat.le_refl _
    | succ v ih =>
      rw [numF]
      split
      · show (numF _ v).2 + 1 ≤ v + 1; omega
      · show (numF _ v).2 ≤ v + 1; omega
  refine AWP_block (a_loop (α := Nat) (fun i => mk 106 [(4, .val (.one (.own 200 1 0 (m + 1)))), (9, ownN 201 1 i), (10, dI (numF (fun v => L.getD v 0) i).2), (11, dI i)] [(200, some (.arr 1 (L.map cN))), (201, arrN 1 ((numF (fun v => L.getD v 0) i).1.map cN) i)] []) (fun i => i ≤ m + 1) (fun i => m + 1 - i) 0 ?_ (Nat.zero_le _) ?_)
  · exact Wk.mk' ⟨rfl, rfl, rfl, rfl, trivial⟩ ⟨rfl, rfl, trivial⟩
  intro i hi
  refine AWP_seq ?_;refine AWP_reg_seq tok fun K hK => ?_;refine mvQ ?_;refine mvQ ?_;refine s_blt rfl rfl rfl ?_;refine biQ ?_;refine s_end (hK _ ?_); clear hK K;refine a_cond rfl (fun hg => ?_) (fun hg => ?_)
  · have hg : i < m + 1 := by simp at hg; omega
    have hiL : i < L.length := by omega
    have z1 := hnl i
    have z2 := hn2 i
    have hlv := hle i hg
    have hstep : numF (fun v => L.getD v 0) (i + 1) = if L.getD i 0 = i then ((numF (fun v => L.getD v 0) i).1 ++ [(numF (fun v => L.getD v 0) i).2], (numF (fun v => L.getD v 0) i).2 + 1) else ((numF (fun v => L.getD v 0) i).1 ++ [(numF (fun v => L.getD v 0) i).1.getD (L.getD i 0) 0], (numF (fun v => L.getD v 0) i).2) := rfl
    generalize numF (fun v => L.getD v 0) i = q at z1 z2 hstep ⊢
    obtain ⟨os, nx⟩ := q
    simp only at z1 z2 hstep
    refine AWP_skip ?_;show AWP _ _ _ _ _ _;refine AWP_seq ?_;refine AWP_block ?_;refine AWP_reg_seq tok fun K hK => ?_;refine mvQ ?_;refine mvQ ?_;refine s_indexAddr rfl (x_o (i := i) (j := i) rfl rfl rfl rfl rfl hg (Nat.zero_add _)) rfl ?_;refine s_load rfl (l_N rfl rfl rfl rfl hiL) rfl ?_;refine mvQ ?_;refine biQ ?_;refine s_end (hK _ ?_); clear hK K;refine a_cond rfl (fun hx => ?_) (fun hx => ?_)
    · have hx : L.getD i 0 = i := by simp only [beq_iff_eq] at hx; omega
      rw [if_pos hx] at hstep
      rcases i with _ | i
      · refine AWP_reg_seq tok fun K hK => ?_;refine mvQ ?_;refine mvQ ?_;refine s_buildSlice rfl rfl rfl rfl ?_;refine s_append rfl (ap_nil rfl rfl rfl rfl rfl (by decide) (Nat.le_of_ble_eq_true rfl) rfl (by simp) rfl (by simp) (by simp)) rfl rfl rfl ?_;refine asQ ?_;refine s_end (hK _ ?_); clear hK K;refine AWP_reg tok fun K hK => ?_;refine mvQ ?_;refine s_bin rfl (e_add (c := ((nx + 1 : Nat) : Int)) (by omega) (by omega)) rfl ?_;refine asQ ?_;refine s_end (hK _ ?_); clear hK K;show AWP _ _ _ _ _ _;refine AWP_reg tok fun K hK => ?_;refine mvQ ?_;refine s_bin rfl (e_add (c := ((0 + 1 : Nat) : Int)) (by omega) (by omega)) rfl ?_;refine asQ ?_;refine s_end (hK _ ?_); clear hK K;refine ⟨0 + 1, by omega, hg, Wk.rn [4, 10, 11, 9] [200, 92] 92 201 rfl rfl rfl ⟨rfl, ?_, ?_, rfl, trivial⟩ ⟨rfl, ?_, trivial⟩⟩
        · first
            | rfl
            | (show SV.val (.one (.own 201 1 0 _)) = _
               rw [List.length_append, List.length_map, z1]; rfl)
        · rw [hstep]; rfl
        · rw [hstep]
          first
            | (rw [List.length_eq_zero_iff.1 z1]; rfl)
            | (rw [List.map_append]; rfl)
      · refine AWP_reg_seq tok fun K hK => ?_;refine mvQ ?_;refine mvQ ?_;refine s_buildSlice rfl rfl rfl rfl ?_;refine s_append rfl (ap_o rfl rfl rfl rfl rfl rfl (by decide) (Nat.le_of_ble_eq_true rfl) rfl (by simp) rfl rfl (by rw [List.length_map, z1]) (by simp <;> omega)) rfl rfl rfl ?_;refine asQ ?_;refine s_end (hK _ ?_); clear hK K;refine AWP_reg tok fun K hK => ?_;refine mvQ ?_;refine s_bin rfl (e_add (c := ((nx + 1 : Nat) : Int)) (by omega) (by omega)) rfl ?_;refine asQ ?_;refine s_end (hK _ ?_); clear hK K;show AWP _ _ _ _ _ _;refine AWP_reg tok fun K hK => ?_;refine mvQ ?_;refine s_bin rfl (e_add (c := ((i + 1 + 1 : Nat) : Int)) (by omega) (by omega)) rfl ?_;refine asQ ?_;refine s_end (hK _ ?_); clear hK K;refine ⟨i + 1 + 1, by omega, hg, Wk.rn [4, 10, 11, 9] [200, 92] 92 201 rfl rfl rfl ⟨rfl, ?_, ?_, rfl, trivial⟩ ⟨rfl, ?_, trivial⟩⟩
        · first
            | rfl
            | (show SV.val (.one (.own 201 1 0 _)) = _
               rw [List.length_append, List.length_map, z1]; rfl)
        · rw [hstep]; rfl
        · rw [hstep]
          first
            | (rw [List.length_eq_zero_iff.1 z1]; rfl)
            | (rw [List.map_append]; rfl)
    · have hx : ¬ L.getD i 0 = i := by simp only [beq_eq_false_iff_ne, ne_eq] at hx; omega
      rw [if_neg hx] at hstep
      rcases i with _ | i
      · omega
      have hlt : L.getD (i + 1) 0 < i + 1 := by omega
      have hlo : L.getD (i + 1) 0 < os.length := by omega
      refine AWP_reg tok fun K hK => ?_;refine mvQ ?_;refine mvQ ?_;refine mvQ ?_;refine mvQ ?_;refine s_indexAddr rfl (x_o (i := i + 1) (j := i + 1) rfl rfl rfl rfl rfl hg (Nat.zero_add _)) rfl ?_;refine s_load rfl (l_N rfl rfl rfl rfl hiL) rfl ?_;refine s_indexAddr rfl (x_o (i := L.getD (i + 1) 0) (j := L.getD (i + 1) 0) rfl rfl rfl rfl rfl hlt (Nat.zero_add _)) rfl ?_;refine s_load rfl (l_N rfl rfl rfl rfl hlo) rfl ?_;refine s_buildSlice rfl rfl rfl rfl ?_;refine s_append rfl (ap_o rfl rfl rfl rfl rfl rfl (by decide) (Nat.le_of_ble_eq_true rfl) rfl (by simp) rfl rfl (by rw [List.length_map, z1]) (by simp <;> omega)) rfl rfl rfl ?_;refine asQ ?_;refine s_end (hK _ ?_); clear hK K;show AWP _ _ _ _ _ _;refine AWP_reg tok fun K hK => ?_;refine mvQ ?_;refine s_bin rfl (e_add (c := ((i + 1 + 1 : Nat) : Int)) (by omega) (by omega)) rfl ?_;refine asQ ?_;refine s_end (hK _ ?_); clear hK K;refine ⟨i + 1 + 1, by omega, hg, Wk.rn [4, 10, 11, 9] [200, 104] 104 201 rfl rfl rfl ⟨rfl, ?_, ?_, rfl, trivial⟩ ⟨rfl, ?_, trivial⟩⟩
      · show SV.val (.one (.own 201 1 0 _)) = _
        rw [List.length_append, List.length_map, z1]; rfl
      · rw [hstep]; rfl
      · rw [hstep, List.map_append]; rfl
  have hi' : i = m + 1 := by simp at hg; omega
  subst hi'
  refine AWP_exit ?_;show AWP _ _ _ _ _ _;refine a_fz [9] [201] 201 [(9, V1 (dNs (numF (fun v => L.getD v 0) (m + 1)).1))] [] rfl ⟨?_, trivial⟩ trivial ?_
  · exact frz_own rfl (by rw [List.length_map, hnl])
  refine AWP_reg_seq tok fun K hK => ?_;refine mvQ ?_;refine asQ ?_;refine asQ ?_;refine s_end (hK _ ?_); clear hK K;refine AWP_ret ?_
  repeat (with_reducible refine tq_ret ?_)
  exact post_ret (fin_mk (by rfl) (by rfl) (by rfl))

end Go.Proofs.YtgopibpkgmafiaaGreat
