/- Part of a proof that a Go function answers true for every input. No condition. -/
import Derived.Test.YtipenembpidoiaaDoorC3
import Derived.Laws.Strings2
set_option linter.unusedVariables false
set_option linter.unusedSimpArgs false
set_option linter.unusedSectionVars false
/- Comparisons of the base package; sizes of numbers. No condition. -/
namespace Go.Proofs.YtipenembpidoiaaDoor
attribute [local irreducible] lexA

theorem bInt_c (na nb : Bool) (wa wb : List Nat) (la : wa.length ≤ 9223372036854775806) : Con Tryd.prog 60 [AG (IC na wa), AG (IC nb wb)] { v := dB (decide (na = nb ∧ wa = wb)) } := by
  refine con_intro (fn := Tryd.f60) tok Tryd.func60 (by kernel_rfl) rfl ?_
  intro w0 X
  rw [entry_mkE _ _ [(0, AG (IC na wa)), (1, AG (IC nb wb))] rfl rfl]
  refine AWP_reg_seq tok fun K hK => ?_
  refine s_box rfl rfl rfl rfl rfl rfl ?_
  refine s_box rfl rfl rfl rfl rfl rfl ?_
  refine s_assign rfl rfl rfl ?_
  refine s_end (hK _ ?_); clear hK K
  refine AWP_seq ?_
  refine a_join (α := Bool) (fun c => mk 38 [(2, .ptr 2 0), (3, .ptr 3 0), (19, dB c)] [(2, some (.box (IC na wa))), (3, some (.box (IC nb wb)))] []) (fun c => (c = true → ¬ (na = nb ∧ wa = wb)) ∧ (c = false → na = nb ∧ wa.length = wb.length)) ?_ ?_
  · refine AWP_reg tok fun K hK => ?_
    refine s_fieldAddr rfl rfl rfl ?_
    refine s_load rfl rfl rfl ?_
    refine s_fieldAddr rfl rfl rfl ?_
    refine s_load rfl rfl rfl ?_
    refine s_bin rfl rfl rfl ?_
    refine s_move rfl rfl rfl ?_
    refine s_split (fun h => ?_) (fun h => ?_)
    · have h : na ≠ nb := by simpa using h
      refine s_skip rfl ?_
      refine s_skip rfl ?_
      refine s_skip rfl ?_
      refine s_skip rfl ?_
      refine s_skip rfl ?_
      refine s_skip rfl ?_
      refine s_skip rfl ?_
      refine s_pick rfl rfl rfl ?_
      refine s_end (hK _ ?_); clear hK K
      exact ⟨true, ⟨fun _ h' => h h'.1, fun h => (by cases h)⟩, Wk.mk' ⟨rfl, rfl, rfl, trivial⟩ ⟨rfl, rfl, trivial⟩⟩
    · have h : na = nb := by simpa using h
      refine s_fieldAddr rfl rfl rfl ?_
      refine s_load rfl rfl rfl ?_
      refine s_blt rfl (len_w rfl rfl rfl) rfl ?_
      refine s_fieldAddr rfl rfl rfl ?_
      refine s_load rfl rfl rfl ?_
      refine s_blt rfl (len_w rfl rfl rfl) rfl ?_
      refine s_bin rfl rfl rfl ?_
      refine s_pick rfl rfl rfl ?_
      refine s_end (hK _ ?_); clear hK K
      refine ⟨_, ⟨fun h' h2 => ?_, fun h' => ⟨h, ?_⟩⟩, Wk.mk' ⟨rfl, rfl, rfl, trivial⟩ ⟨rfl, rfl, trivial⟩⟩
      · rw [h2.2] at h'; simp at h'
      · simp at h'; omega
  rintro c ⟨k1, k2⟩
  refine a_cond rfl (fun hc => ?_) (fun hc => ?_)
  · refine AWP_reg_seq tok fun K hK => ?_
    refine s_assign rfl rfl rfl ?_
    refine s_end (hK _ ?_); clear hK K
    refine AWP_ret ?_
    repeat (with_reducible refine tq_ret ?_)
    exact post_ret (fin_mk (by rfl) (by rfl) (by rw [decide_eq_false (k1 hc)]; rfl))
  obtain ⟨hn, hl⟩ := k2 hc
  refine AWP_skip ?_
  show AWP _ _ _ _ _ _
  refine AWP_seq ?_
  refine AWP_reg_seq tok fun K hK => ?_
  refine s_assign rfl rfl rfl ?_
  refine s_end (hK _ ?_); clear hK K
  refine AWP_block (a_loop (α := Nat) (fun i => mk 38 [(2, .ptr 2 0), (3, .ptr 3 0), (5, dI i)] [(2, some (.box (IC na wa))), (3, some (.box (IC nb wb)))] []) (fun i => i ≤ wa.length ∧ wa.take i = wb.take i) (fun i => wa.length - i) 0 ?_ ⟨Nat.zero_le _, rfl⟩ ?_)
  · exact Wk.mk' ⟨rfl, rfl, rfl, trivial⟩ ⟨rfl, rfl, trivial⟩
  rintro i ⟨hi, ht⟩
  refine AWP_seq ?_
  refine AWP_reg_seq tok fun K hK => ?_
  refine s_move rfl rfl rfl ?_
  refine s_fieldAddr rfl rfl rfl ?_
  refine s_load rfl rfl rfl ?_
  refine s_blt rfl (len_w rfl rfl rfl) rfl ?_
  refine s_bin rfl rfl rfl ?_
  refine s_end (hK _ ?_); clear hK K
  refine a_cond rfl (fun hg => ?_) (fun hg => ?_)
  · have hg : i < wa.length := by simp at hg; omega
    have hg' : i < wb.length := by omega
    refine AWP_skip ?_
    show AWP _ _ _ _ _ _
    refine AWP_seq ?_
    refine AWP_block ?_
    refine a_draw tok mixed (A := [[], [], [], [0], [0, 1, 2], [], [], [], [5], [5, 6, 7], [0, 1, 2, 3, 5, 6, 7, 8]]) (an := [{}, {}, {}, {}, {}, {}, {}, {}, {}, {}, {}]) rfl (by kernel_rfl) rfl fun K hK => ?_
    refine s_fieldAddr rfl rfl rfl ?_
    refine s_load rfl rfl rfl ?_
    refine s_move rfl rfl rfl ?_
    refine s_indexAddr rfl (x_w (i := i) rfl rfl rfl rfl rfl hg) rfl ?_
    refine s_load rfl rfl rfl ?_
    refine s_fieldAddr rfl rfl rfl ?_
    refine s_load rfl rfl rfl ?_
    refine s_move rfl rfl rfl ?_
    refine s_indexAddr rfl (x_w (i := i) rfl rfl rfl rfl rfl hg') rfl ?_
    refine s_load rfl rfl rfl ?_
    refine s_bin rfl rfl rfl ?_
    refine s_end (hK _ ?_); clear hK K
    refine a_cond rfl (fun hd => ?_) (fun hd => ?_)
    · have hd : wa[i] ≠ wb[i] := by simp at hd; omega
      refine AWP_reg_seq tok fun K hK => ?_
      refine s_assign rfl rfl rfl ?_
      refine s_end (hK _ ?_); clear hK K
      refine AWP_ret ?_
      repeat (with_reducible refine tq_ret ?_)
      exact post_ret (fin_mk (by rfl) (by rfl) (by rw [decide_eq_false (fun h' => ne_of_get hg hg' hd h'.2)]; rfl))
    · have hd : wa[i] = wb[i] := by simp at hd; omega
      refine AWP_skip ?_
      show AWP _ _ _ _ _ _
      refine AWP_reg tok fun K hK => ?_
      refine s_move rfl rfl rfl ?_
      refine s_bin rfl (e_add (c := ((i + 1 : Nat) : Int)) (by omega) (by omega)) rfl ?_
      refine s_assign rfl rfl rfl ?_
      refine s_end (hK _ ?_); clear hK K
      exact ⟨i + 1, by omega, ⟨hg, take_eq_succ hg hg' ht hd⟩, Wk.mk' ⟨rfl, rfl, rfl, trivial⟩ ⟨rfl, rfl, trivial⟩⟩
  · have hg : i = wa.length := by simp at hg; omega
    subst hg
    refine AWP_exit ?_
    show AWP _ _ _ _ _ _
    refine AWP_reg_seq tok fun K hK => ?_
    refine s_assign rfl rfl rfl ?_
    refine s_end (hK _ ?_); clear hK K
    refine AWP_ret ?_
    repeat (with_reducible refine tq_ret ?_)
    exact post_ret (fin_mk (by rfl) (by rfl) (by rw [decide_eq_true ⟨hn, take_eq_all hl ht⟩]; rfl))

theorem RW.eq_iff (a b : RW) : decide (a = b) = (decide (a.np = b.np ∧ a.wp = b.wp) && decide (a.nq = b.nq ∧ a.wq = b.wq)) := by
  obtain ⟨a1, a2, a3, a4⟩ := a
  obtain ⟨b1, b2, b3, b4⟩ := b
  rw [Bool.eq_iff_iff]
  simp [RW.mk.injEq, and_assoc]
theorem bRat_c (a b : RW) (la : a.wp.length ≤ 9223372036854775806) (lb : a.wq.length ≤ 9223372036854775806) : Con Tryd.prog 21 [AG a.cs, AG b.cs] { v := dB (decide (a = b)) } := by
  rw [RW.eq_iff]
  refine con_intro (fn := Tryd.f21) tok Tryd.func21 (by kernel_rfl) rfl ?_
  intro w0 X
  rw [entry_mkE _ _ [(0, AG a.cs), (1, AG b.cs)] rfl rfl]
  refine AWP_reg_seq tok fun K hK => ?_
  refine s_box rfl rfl rfl rfl rfl rfl ?_
  refine s_box rfl rfl rfl rfl rfl rfl ?_
  refine s_assign rfl rfl rfl ?_
  refine s_end (hK _ ?_); clear hK K
  refine AWP_reg_seq tok fun K hK => ?_
  refine s_fieldAddr rfl rfl rfl ?_
  refine s_load rfl rfl rfl ?_
  refine s_fieldAddr rfl rfl rfl ?_
  refine s_load rfl rfl rfl ?_
  refine s_call rfl rfl (bInt_c a.np b.np a.wp b.wp la) rfl rfl rfl rfl ?_
  refine s_move rfl rfl rfl ?_
  refine s_split (fun h => ?_) (fun h => ?_)
  · refine s_fieldAddr rfl rfl rfl ?_
    refine s_load rfl rfl rfl ?_
    refine s_fieldAddr rfl rfl rfl ?_
    refine s_load rfl rfl rfl ?_
    refine s_call rfl rfl (bInt_c a.nq b.nq a.wq b.wq lb) rfl rfl rfl rfl ?_
    refine s_pick rfl rfl rfl ?_
    refine s_assign rfl rfl rfl ?_
    refine s_end (hK _ ?_); clear hK K
    refine AWP_ret ?_
    repeat (with_reducible refine tq_ret ?_)
    exact post_ret (fin_mk (by rfl) (by rfl) (by rw [h, Bool.true_and]; rfl))
  · refine s_skip rfl ?_
    refine s_skip rfl ?_
    refine s_skip rfl ?_
    refine s_skip rfl ?_
    refine s_skip rfl ?_
    refine s_pick rfl rfl rfl ?_
    refine s_assign rfl rfl rfl ?_
    refine s_end (hK _ ?_); clear hK K
    refine AWP_ret ?_
    repeat (with_reducible refine tq_ret ?_)
    exact post_ret (fin_mk (by rfl) (by rfl) (by rw [h, Bool.false_and]; rfl))

theorem bRot_c (a b : RW) (la : a.wp.length ≤ 9223372036854775806) (lb : a.wq.length ≤ 9223372036854775806) : Con Tryd.prog 31 [AG a.cs, AG b.cs] { v := dB (decide (a = b)) } := by
  rw [RW.eq_iff]
  refine con_intro (fn := Tryd.f31) tok Tryd.func31 (by kernel_rfl) rfl ?_
  intro w0 X
  rw [entry_mkE _ _ [(0, AG a.cs), (1, AG b.cs)] rfl rfl]
  refine AWP_reg_seq tok fun K hK => ?_
  refine s_box rfl rfl rfl rfl rfl rfl ?_
  refine s_box rfl rfl rfl rfl rfl rfl ?_
  refine s_assign rfl rfl rfl ?_
  refine s_end (hK _ ?_); clear hK K
  refine AWP_reg_seq tok fun K hK => ?_
  refine s_fieldAddr rfl rfl rfl ?_
  refine s_load rfl rfl rfl ?_
  refine s_fieldAddr rfl rfl rfl ?_
  refine s_load rfl rfl rfl ?_
  refine s_call rfl rfl (bInt_c a.np b.np a.wp b.wp la) rfl rfl rfl rfl ?_
  refine s_move rfl rfl rfl ?_
  refine s_split (fun h => ?_) (fun h => ?_)
  · refine s_fieldAddr rfl rfl rfl ?_
    refine s_load rfl rfl rfl ?_
    refine s_fieldAddr rfl rfl rfl ?_
    refine s_load rfl rfl rfl ?_
    refine s_call rfl rfl (bInt_c a.nq b.nq a.wq b.wq lb) rfl rfl rfl rfl ?_
    refine s_pick rfl rfl rfl ?_
    refine s_assign rfl rfl rfl ?_
    refine s_end (hK _ ?_); clear hK K
    refine AWP_ret ?_
    repeat (with_reducible refine tq_ret ?_)
    exact post_ret (fin_mk (by rfl) (by rfl) (by rw [h, Bool.true_and]; rfl))
  · refine s_skip rfl ?_
    refine s_skip rfl ?_
    refine s_skip rfl ?_
    refine s_skip rfl ?_
    refine s_skip rfl ?_
    refine s_pick rfl rfl rfl ?_
    refine s_assign rfl rfl rfl ?_
    refine s_end (hK _ ?_); clear hK K
    refine AWP_ret ?_
    repeat (with_reducible refine tq_ret ?_)
    exact post_ret (fin_mk (by rfl) (by rfl) (by rw [h, Bool.false_and]; rfl))

/-- Few words. -/
def SP.small (s : SP) : Prop := (s.x.wp.length ≤ 9223372036854775806 ∧ s.x.wq.length ≤ 9223372036854775806) ∧ (s.y.wp.length ≤ 9223372036854775806 ∧ s.y.wq.length ≤ 9223372036854775806)
theorem SP.eq_iff (a b : SP) : a = b ↔ a.x = b.x ∧ a.y = b.y := by
  obtain ⟨a1, a2⟩ := a
  obtain ⟨b1, b2⟩ := b
  simp [SP.mk.injEq]

end Go.Proofs.YtipenembpidoiaaDoor

/- Rotations and transforms over what stands in the cells. No condition. -/
namespace Go.Proofs.YtipenembpidoiaaDoor
attribute [local irreducible] lexA

def pz2 (a : Int × Int) : RW := pzW a.1 a.2
/-- The canonical pair. -/
def RW.cn (r : RW) : Int × Int := gc (r.p, r.q)
theorem RW.cn_nz (r : RW) : nz r.cn := gc_nz _
theorem RW.cn_Cn (r : RW) : Cn2 r.cn := gc_Cn _
theorem RW.cn_gc (r : RW) : gc r.cn = r.cn := gc_idem _
theorem pz2_cn (a : Int × Int) : (pz2 a).cn = gc a := by unfold RW.cn pz2; rw [pzW_p, pzW_q]
theorem gc_zl {a : Int × Int} {k : Nat} (hk : 1 ≤ k) (h : zl a.1 ≤ k ∧ zl a.2 ≤ k) : zl (gc a).1 ≤ k ∧ zl (gc a).2 ≤ k :=
  ⟨zl_rP_le (Nat.ble_eq_true_of_le hk) h.1, zl_rQ_le (Nat.ble_eq_true_of_le hk) h.2⟩
theorem RW.OK.cn {r : RW} {k : Nat} (ok : r.OK k) (hk : 1 ≤ k) : zl r.cn.1 ≤ k ∧ zl r.cn.2 ≤ k := gc_zl hk ⟨zl_zv ok.op ok.lp, zl_zv ok.oq ok.lq⟩
theorem pz2_ok {a : Int × Int} {k : Nat} (h : zl a.1 ≤ k ∧ zl a.2 ≤ k) : (pz2 a).OK k := pzW_ok h.1 h.2
theorem zl_gm {a b : Int × Int} {k l m : Nat} (ha : zl a.1 ≤ k ∧ zl a.2 ≤ k) (hb : zl b.1 ≤ l ∧ zl b.2 ≤ l) (hm : k + l + 1 ≤ m) : zl (gc (gm a b)).1 ≤ m ∧ zl (gc (gm a b)).2 ≤ m :=
  gc_zl (by omega) ⟨Nat.le_trans (zl_add_le (zl_mul_le ha.2 hb.1) (zl_mul_le ha.1 hb.2)) hm, Nat.le_trans (zl_sub_le (zl_mul_le ha.2 hb.2) (zl_mul_le ha.1 hb.1)) hm⟩
theorem zl_inv2 {a : Int × Int} {k : Nat} (hk : 1 ≤ k) (ha : zl a.1 ≤ k ∧ zl a.2 ≤ k) : zl (inv2 a).1 ≤ k ∧ zl (inv2 a).2 ≤ k :=
  gc_zl hk ⟨by show zl (-a.1) ≤ k; rw [zl_neg]; exact ha.1, ha.2⟩
theorem zl_pw {a : Int × Int} {k : Nat} (ha : zl a.1 ≤ k ∧ zl a.2 ≤ k) : ∀ n, zl (pw a n).1 ≤ n * (k + 1) + 1 ∧ zl (pw a n).2 ≤ n * (k + 1) + 1
  | 0 => ⟨by show zl 0 ≤ _; exact Nat.le_trans (by decide : zl 0 ≤ 1) (Nat.le_add_left 1 _), by show zl 1 ≤ _; exact Nat.le_trans (by decide : zl 1 ≤ 1) (Nat.le_add_left 1 _)⟩
  | n + 1 => zl_gm (zl_pw ha n) ha (by rw [Nat.succ_mul]; omega)
theorem zl_pwZ {a : Int × Int} {k n : Nat} {z : Int} (hk : 1 ≤ k) (ha : zl a.1 ≤ k ∧ zl a.2 ≤ k) (hz : z.natAbs ≤ n) : zl (pwZ a z).1 ≤ n * (k + 1) + 1 ∧ zl (pwZ a z).2 ≤ n * (k + 1) + 1 := by
  have hm : z.natAbs * (k + 1) ≤ n * (k + 1) := Nat.mul_le_mul_right _ hz
  unfold pwZ
  split
  · have := zl_pw (zl_inv2 hk ha) z.natAbs
    omega
  · have := zl_pw ha z.natAbs
    omega
theorem cosR_cn (r : RW) : cosR r.p r.q = cs2 r.cn ∧ sinR r.p r.q = sn2 r.cn := by
  unfold cosR sinR cs2 sn2 RW.cn gc
  rw [Rat.divInt_eq_div, Rat.divInt_eq_div]
  exact ⟨rfl, rfl⟩
theorem cs_ql {r : RW} {k : Nat} (ok : r.OK k) (hk : 1 ≤ k) : ql (cs2 r.cn) ≤ 2 * k + 1 ∧ ql (sn2 r.cn) ≤ 2 * k + 1 := by
  rw [← (cosR_cn r).1, ← (cosR_cn r).2]
  exact ⟨ql_cos _ _ (zl_zv ok.op ok.lp) (zl_zv ok.oq ok.lq) hk, ql_sin _ _ (zl_zv ok.op ok.lp) (zl_zv ok.oq ok.lq) hk⟩
theorem tn_ql {r : RW} {x y : Rat} {k l m : Nat} (ok : r.OK k) (hk : 1 ≤ k) (hx : ql x ≤ l) (hy : ql y ≤ l) (hm : 4 * k + 2 * l + 3 ≤ m) : ql (tnX r.cn x y) ≤ m ∧ ql (tnY r.cn x y) ≤ m := by
  obtain ⟨h1, h2⟩ := cs_ql ok hk
  exact ⟨Nat.le_trans (ql_sub_le (ql_mul_le h1 hx) (ql_mul_le h2 hy)) (by omega), Nat.le_trans (ql_add_le (ql_mul_le h2 hx) (ql_mul_le h1 hy)) (by omega)⟩

/-! ### Rationals -/
theorem qMul_t (a b : RW) (z : Rat) (ha : a.OK 16777216) (hb : b.OK 16777216) (h : a.v * b.v = z) : Con Tryd.prog 28 [AG a.cs, AG b.cs] { v := AG (qzW z).cs } := by
  subst h
  exact qMul_q a.v b.v _ _ _ _ _ _ _ _ ha.op ha.oq hb.op hb.oq ha.lp ha.lq hb.lp hb.lq rfl rfl
theorem qAdd_t (a b : RW) (z : Rat) (ha : a.OK 16777216) (hb : b.OK 16777216) (h : a.v + b.v = z) : Con Tryd.prog 27 [AG a.cs, AG b.cs] { v := AG (qzW z).cs } := by
  subst h
  exact qAdd_q a.v b.v _ _ _ _ _ _ _ _ ha.op ha.oq hb.op hb.oq ha.lp ha.lq hb.lp hb.lq rfl rfl
theorem qSub_t (a b : RW) (z : Rat) (ha : a.OK 16777215) (hb : b.OK 16777215) (h : a.v - b.v = z) : Con Tryd.prog 59 [AG a.cs, AG b.cs] { v := AG (qzW z).cs } := by
  subst h
  exact qSub_q a.v b.v _ _ _ _ _ _ _ _ ha.op ha.oq hb.op hb.oq ha.lp ha.lq hb.lp hb.lq rfl rfl
theorem qNeg_t (a : RW) (ha : a.OK 16777216) : Con Tryd.prog 67 [AG a.cs] { v := AG (qzW (-a.v)).cs } :=
  qNeg_c _ _ _ _ ha.op ha.oq (le_d ha.lp rfl) (le_d ha.lq rfl)
theorem qNorm_t (a : RW) (ha : a.OK 16777216) : Con Tryd.prog 55 [AG a.cs] { v := AG (qzW a.v).cs } :=
  qNorm_c _ _ _ _ ha.op ha.oq (le_d ha.lp rfl) (le_d ha.lq rfl)

/-! ### Rotations -/
theorem tNorm_t (r : RW) (ok : r.OK 268435456) : Con Tryd.prog 44 [AG r.cs] { v := AG (pz2 r.cn).cs } :=
  tNorm_c _ _ _ _ ok.op ok.oq ok.lp ok.lq
theorem tThen_t (a b : RW) (ha : a.OK 67108864) (hb : b.OK 67108864) : Con Tryd.prog 18 [AG a.cs, AG b.cs] { v := AG (pz2 (gc (gm a.cn b.cn))).cs } :=
  tThen_c _ _ _ _ _ _ _ _ ha.op ha.oq hb.op hb.oq ha.lp ha.lq hb.lp hb.lq

theorem tCos_t (r : RW) (ok : r.OK 67108864) : Con Tryd.prog 25 [AG r.cs] { v := AG (qzW (cs2 r.cn)).cs } := by
  rw [← (cosR_cn r).1]
  exact tCos_c _ _ _ _ ok.op ok.oq ok.lp ok.lq

theorem tSin_t (r : RW) (ok : r.OK 67108864) : Con Tryd.prog 26 [AG r.cs] { v := AG (qzW (sn2 r.cn)).cs } := by
  rw [← (cosR_cn r).2]
  exact tSin_c _ _ _ _ ok.op ok.oq ok.lp ok.lq

theorem tTurn_t (r x y : RW) (ok : r.OK 1048576) (ox : x.OK 1048576) (oy : y.OK 1048576) : Con Tryd.prog 20 [AG r.cs, AG x.cs, AG y.cs]
    { v := .tup [.agg (qzW (tnX r.cn x.v y.v)).cs, .agg (qzW (tnY r.cn x.v y.v)).cs] } := by
  unfold tnX tnY
  rw [← (cosR_cn r).1, ← (cosR_cn r).2]
  exact tTurn_c _ _ _ _ _ _ _ _ _ _ _ _ ok.op ok.oq ox.op ox.oq oy.op oy.oq ok.lp ok.lq ox.lp ox.lq oy.lp oy.lq

end Go.Proofs.YtipenembpidoiaaDoor

/- Comparisons of numbers; powers, orders, marks of rotations. No condition. -/
namespace Go.Proofs.YtipenembpidoiaaDoor
attribute [local irreducible] lexA

section
variable {T : Tab} {t : TypeId}
theorem e_remI' {a b : Int} (h : b ≠ 0) : effBin T .rem t (dI a) (dI b) = .set (dI (a.tmod b)) := by
  have hb : binA .rem (.int .i64 a) (.int .i64 b) = some (.int .i64 (a.tmod b)) := by
    simp only [binA, if_true]
    rw [if_neg h]
  simp only [effBin, litOf, hb]; rfl
theorem e_quoI' {a b c : Int} (h : b ≠ 0) (hc : a.tdiv b = c) (hr : I64 c) : effBin T .quo t (dI a) (dI b) = .set (dI c) := by
  subst hc
  have hb : binA .quo (.int .i64 a) (.int .i64 b) = some (.int .i64 (a.tdiv b)) := by
    simp only [binA, if_true]
    rw [if_neg h, IntWalk.i64_in _ hr]
  simp only [effBin, litOf, hb]; rfl
theorem e_negI {a c : Int} (h : -a = c) (hr : I64 c) : effUn .neg (dI a) = .set (dI c) := by
  subst h
  show setLit (.int .i64 (IntKind.i64.wrap (0 - a))) = _
  rw [Int.zero_sub, IntWalk.i64_in _ hr]; rfl
theorem e_and255 (a : Int) : effBin T .and t (dI a) (dI 255) = .set (dI (a % 256)) := by
  show setLit (.int .i64 (IntKind.i64.wrap ((BitVec.ofInt 64 a &&& BitVec.ofInt 64 255).toNat : Int))) = _
  have e : ((BitVec.ofInt 64 a &&& BitVec.ofInt 64 255).toNat : Int) = a % 256 := by
    have e2 : (BitVec.ofInt 64 255).toNat = 2 ^ 8 - 1 := by decide
    rw [BitVec.toNat_and, e2, Nat.and_two_pow_sub_one_eq_mod, BitVec.toNat_ofInt]
    omega
  rw [e, IntWalk.i64_in _ (by omega)]; rfl
end

def zcmp (x y : Int) : Int := if x < y then -1 else if y < x then 1 else 0
theorem zcmp_eq (x y : Int) : (zcmp x y == 0) = decide (x = y) := by
  unfold zcmp
  by_cases h : x < y
  · rw [if_pos h, decide_eq_false (by omega)]; rfl
  · rw [if_neg h]
    by_cases h' : y < x
    · rw [if_pos h', decide_eq_false (by omega)]; rfl
    · rw [if_neg h', decide_eq_true (by omega)]; rfl
theorem zcmp_sgn {x y : Int} (h : x.sign = y.sign) : x.sign * ncmp x.natAbs y.natAbs = zcmp x y := by
  unfold zcmp ncmp
  rcases Int.lt_trichotomy x 0 with hx | hx | hx
  · have e1 : x.sign = -1 := Int.sign_eq_neg_one_iff_neg.2 hx
    have hy : y < 0 := Int.sign_eq_neg_one_iff_neg.1 (h ▸ e1)
    rw [e1]
    repeat' split
    all_goals omega
  · have e1 : x.sign = 0 := by rw [hx]; rfl
    have hy : y = 0 := Int.sign_eq_zero_iff_zero.1 (h ▸ e1)
    rw [hx, hy]; rfl
  · have e1 : x.sign = 1 := Int.sign_eq_one_iff_pos.2 hx
    have hy : 0 < y := Int.sign_eq_one_iff_pos.1 (h ▸ e1)
    rw [e1]
    repeat' split
    all_goals omega
theorem sgn_cases (x : Int) : (x < 0 ∧ x.sign = -1) ∨ (x = 0 ∧ x.sign = 0) ∨ (0 < x ∧ x.sign = 1) := by
  rcases Int.lt_trichotomy x 0 with hx | hx | hx
  · exact Or.inl ⟨hx, Int.sign_eq_neg_one_iff_neg.2 hx⟩
  · exact Or.inr (Or.inl ⟨hx, by rw [hx]; rfl⟩)
  · exact Or.inr (Or.inr ⟨hx, Int.sign_eq_one_iff_pos.2 hx⟩)
theorem zcmp_lt {x y : Int} (h : x.sign < y.sign) : zcmp x y = -1 := by
  have := sgn_cases x
  have := sgn_cases y
  unfold zcmp; rw [if_pos (by omega)]
theorem zcmp_gt {x y : Int} (h : x.sign > y.sign) : zcmp x y = 1 := by
  have := sgn_cases x
  have := sgn_cases y
  unfold zcmp; rw [if_neg (by omega), if_pos (by omega)]

theorem dec_sgn (x : Int) : (x.sign == 0) = decide (x = 0) := by
  rw [Bool.eq_iff_iff]; simp [Int.sign_eq_zero_iff_zero]

theorem iCmp_z (na nb : Bool) (wa wb : List Nat) (x y : Int) (ha : wOK wa) (hb : wOK wb) (la : wa.length ≤ 536870912) (lb : wb.length ≤ 536870912) (hx : zv na wa = x) (hy : zv nb wb = y) :
    Con Tryd.prog 61 [AG (IC na wa), AG (IC nb wb)] { v := dI (zcmp x y) } := by
  have c1 := iSign_c na wa ha (by omega)
  have c2 := iSign_c nb wb hb (by omega)
  have hwa := wl_len ha
  have hwb := wl_len hb
  have ea : (zv na wa).natAbs = wv wa := zv_abs ..
  have eb : (zv nb wb).natAbs = wv wb := zv_abs ..
  rw [hx] at c1 ea
  rw [hy] at c2 eb
  refine con_intro (fn := Tryd.f61) tok Tryd.func61 (by kernel_rfl) rfl ?_
  intro w0 X
  rw [entry_mkE _ _ [(0, AG (IC na wa)), (1, AG (IC nb wb))] rfl rfl]
  refine AWP_reg_seq tok fun K hK => ?_
  refine s_box rfl rfl rfl rfl rfl rfl ?_
  refine s_box rfl rfl rfl rfl rfl rfl ?_
  refine s_assign rfl rfl rfl ?_
  refine s_end (hK _ ?_); clear hK K
  refine a_draw tok mixed (A := [[], [], [], [0], [2], []]) (an := [{}, {}, { c := [8] }, {}, {}, {}]) rfl (by kernel_rfl) rfl fun K hK => ?_
  refine s_load rfl rfl rfl ?_
  refine s_call rfl rfl (c1) rfl rfl rfl rfl ?_
  refine s_load rfl rfl rfl ?_
  refine s_call rfl rfl (c2) rfl rfl rfl rfl ?_
  refine s_assign rfl rfl rfl ?_
  refine s_assign rfl rfl rfl ?_
  refine s_end (hK _ ?_); clear hK K
  refine AWP_seq ?_
  refine AWP_block ?_
  refine AWP_reg_seq tok fun K hK => ?_
  refine s_move rfl rfl rfl ?_
  refine s_move rfl rfl rfl ?_
  refine s_bin rfl rfl rfl ?_
  refine s_assign rfl rfl rfl ?_
  refine s_end (hK _ ?_); clear hK K
  refine a_cond rfl (fun hc => ?_) (fun hc => ?_)
  · refine AWP_reg_seq tok fun K hK => ?_
    refine s_assign rfl rfl rfl ?_
    refine s_end (hK _ ?_); clear hK K
    refine AWP_ret ?_
    repeat (with_reducible refine tq_ret ?_)
    exact post_ret (fin_mk (by rfl) (by rfl) (by rw [zcmp_lt (of_decide_eq_true hc)]; rfl))
  · refine AWP_reg_seq tok fun K hK => ?_
    refine s_move rfl rfl rfl ?_
    refine s_move rfl rfl rfl ?_
    refine s_bin rfl rfl rfl ?_
    refine s_assign rfl rfl rfl ?_
    refine s_end (hK _ ?_); clear hK K
    refine a_cond rfl (fun hd => ?_) (fun hd => ?_)
    · refine AWP_reg_seq tok fun K hK => ?_
      refine s_assign rfl rfl rfl ?_
      refine s_end (hK _ ?_); clear hK K
      refine AWP_ret ?_
      repeat (with_reducible refine tq_ret ?_)
      exact post_ret (fin_mk (by rfl) (by rfl) (by rw [zcmp_gt (of_decide_eq_true hd)]; rfl))
    · have hs : x.sign = y.sign := by
        have h1 := of_decide_eq_false hc
        have h2 := of_decide_eq_false hd
        omega
      refine AWP_skip ?_
      show AWP _ _ _ _ _ _
      have e : effBin tab .mul 3 (dI x.sign) (dI (ncmp (wv (wof (wv wa))) (wv (wof (wv wb))))) = .set (dI (zcmp x y)) := by
        rw [wv_wof, wv_wof]
        refine e_mul (by rw [← ea, ← eb]; exact zcmp_sgn hs) ?_
        unfold zcmp; repeat' split
        all_goals omega
      refine a_draw tok mixed (A := [[], [], [], [1], [], [], [1, 2, 4], [1, 2, 4, 5], [1, 2, 3, 4, 5, 6], []]) (an := [{}, {}, {}, {}, { c := [22] }, { c := [22] }, {}, {}, {}, {}]) rfl (by kernel_rfl) rfl fun K hK => ?_
      refine s_move rfl rfl rfl ?_
      refine s_fieldAddr rfl rfl rfl ?_
      refine s_load rfl rfl rfl ?_
      refine s_call rfl rfl (trimZ_c wa ha (by omega)) rfl rfl rfl rfl ?_
      refine s_fieldAddr rfl rfl rfl ?_
      refine s_load rfl rfl rfl ?_
      refine s_call rfl rfl (trimZ_c wb hb (by omega)) rfl rfl rfl rfl ?_
      refine s_call rfl rfl (compare_c _ _ (wof_ok _) (wof_ok _) (wof_top _) (wof_top _) (by omega) (by omega)) rfl rfl rfl rfl ?_
      refine s_bin rfl e rfl ?_
      refine s_assign rfl rfl rfl ?_
      refine s_end (hK _ ?_); clear hK K
      refine AWP_ret ?_
      repeat (with_reducible refine tq_ret ?_)
      exact post_ret (fin_mk (by rfl) (by rfl) (by rfl))
theorem iCmpZ_c (x y : Int) (hx : zl x ≤ 536870912) (hy : zl y ≤ 536870912) : Con Tryd.prog 61 [AG (ZC x), AG (ZC y)] { v := dI (zcmp x y) } :=
  iCmp_z _ _ _ _ x y (wof_ok _) (wof_ok _) hx hy (zv_ZC x) (zv_ZC y)
def qcmp (x y : Rat) : Int := zcmp (x.num * y.den) (y.num * x.den)
theorem qcmp_eq (x y : Rat) : (qcmp x y == 0) = decide (x = y) := by
  unfold qcmp
  rw [zcmp_eq]
  refine decide_eq_decide.2 ⟨fun h => ?_, fun h => by rw [h]⟩
  have hx := Rat.num_divInt_den x
  have hy := Rat.num_divInt_den y
  rw [← hx, ← hy]
  exact (Rat.divInt_eq_divInt_iff (by have := x.den_nz; omega) (by have := y.den_nz; omega)).2 h

theorem qCmp_t (a b : RW) (ha : a.OK 16777216) (hb : b.OK 16777216) : Con Tryd.prog 29 [AG a.cs, AG b.cs] { v := dI (qcmp a.v b.v) } := by
  have c1 := qNorm_t a ha
  have c2 := qNorm_t b hb
  have h1 := ha.ql rfl
  have h2 := hb.ql rfl
  generalize a.v = x at *
  generalize b.v = y at *
  have n1 := ql_num_le h1
  have n2 := ql_num_le h2
  have d1 := ql_den_le h1
  have d2 := ql_den_le h2
  have c3 := iMulZ_c x.num y.den (le_d n1 rfl) (le_d d2 rfl)
  have c4 := iMulZ_c y.num x.den (le_d n2 rfl) (le_d d1 rfl)
  have c5 := iCmpZ_c (x.num * y.den) (y.num * x.den) (le_d (zl_mul_le n1 d2) rfl) (le_d (zl_mul_le n2 d1) rfl)
  refine con_intro (fn := Tryd.f29) tok Tryd.func29 (by kernel_rfl) rfl ?_
  intro w0 X
  rw [entry_mkE _ _ [(0, AG a.cs), (1, AG b.cs)] rfl rfl]
  refine AWP_reg_seq tok fun K hK => ?_
  refine s_box rfl rfl rfl rfl rfl rfl ?_
  refine s_box rfl rfl rfl rfl rfl rfl ?_
  refine s_assign rfl rfl rfl ?_
  refine s_end (hK _ ?_); clear hK K
  refine a_draw tok mixed (A := [[], [], [], [0], [2], []]) (an := [{}, {}, { c := [6] }, {}, {}, {}]) rfl (by kernel_rfl) rfl fun K hK => ?_
  refine s_load rfl rfl rfl ?_
  refine s_call rfl rfl (c1) rfl rfl rfl rfl ?_
  refine s_load rfl rfl rfl ?_
  refine s_call rfl rfl (c2) rfl rfl rfl rfl ?_
  refine s_store rfl rfl rfl rfl rfl ?_
  refine s_store rfl rfl rfl rfl rfl ?_
  refine s_end (hK _ ?_); clear hK K
  refine a_draw tok mixed (A := [[], [], [], [], [0, 2], [], [], [], [], [0, 1, 2, 3, 5, 7], [0, 1, 2, 3, 5, 6, 7, 8], []]) (an := [{}, {}, {}, {}, {}, { c := [13] }, { c := [13] }, { c := [13] }, { c := [13] }, {}, {}, {}]) rfl (by kernel_rfl) rfl fun K hK => ?_
  refine s_fieldAddr rfl rfl rfl ?_
  refine s_load rfl rfl rfl ?_
  refine s_fieldAddr rfl rfl rfl ?_
  refine s_load rfl rfl rfl ?_
  refine s_call rfl rfl (c3) rfl rfl rfl rfl ?_
  refine s_fieldAddr rfl rfl rfl ?_
  refine s_load rfl rfl rfl ?_
  refine s_fieldAddr rfl rfl rfl ?_
  refine s_load rfl rfl rfl ?_
  refine s_call rfl rfl (c4) rfl rfl rfl rfl ?_
  refine s_call rfl rfl (c5) rfl rfl rfl rfl ?_
  refine s_assign rfl rfl rfl ?_
  refine s_end (hK _ ?_); clear hK K
  refine AWP_ret ?_
  repeat (with_reducible refine tq_ret ?_)
  exact post_ret (fin_mk (by rfl) (by rfl) (by rfl))

theorem tSame_t (a b : RW) (ha : a.OK 67108864) (hb : b.OK 67108864) : Con Tryd.prog 22 [AG a.cs, AG b.cs] { v := dB (decide (a.cn = b.cn)) } := by
  have c1 := tNorm_t a (ha.mono rfl)
  have c2 := tNorm_t b (hb.mono rfl)
  have h1 := ha.cn (by decide)
  have h2 := hb.cn (by decide)
  generalize a.cn = x at *
  generalize b.cn = y at *
  have e : decide (x = y) = (decide (x.1 = y.1) && decide (x.2 = y.2)) := by
    rw [← Bool.decide_and]
    exact decide_eq_decide.2 ⟨fun h => by rw [h]; exact ⟨rfl, rfl⟩, fun h => Prod.ext h.1 h.2⟩
  have c3 := iCmpZ_c x.1 y.1 (le_d h1.1 rfl) (le_d h2.1 rfl)
  have c4 := iCmpZ_c x.2 y.2 (le_d h1.2 rfl) (le_d h2.2 rfl)
  refine con_intro (fn := Tryd.f22) tok Tryd.func22 (by kernel_rfl) rfl ?_
  intro w0 X
  rw [entry_mkE _ _ [(0, AG a.cs), (1, AG b.cs)] rfl rfl]
  refine AWP_reg_seq tok fun K hK => ?_
  refine s_box rfl rfl rfl rfl rfl rfl ?_
  refine s_box rfl rfl rfl rfl rfl rfl ?_
  refine s_assign rfl rfl rfl ?_
  refine s_end (hK _ ?_); clear hK K
  refine a_draw tok mixed (A := [[], [], [], [0], [], [], [2], []]) (an := [{}, {}, { c := [8] }, {}, { c := [8, 10] }, { c := [8, 10, 5] }, {}, {}]) rfl (by kernel_rfl) rfl fun K hK => ?_
  refine s_load rfl rfl rfl ?_
  refine s_call rfl rfl (c1) rfl rfl rfl rfl ?_
  refine s_load rfl rfl rfl ?_
  refine s_call rfl rfl (c2) rfl rfl rfl rfl ?_
  refine s_alloc rfl rfl rfl rfl rfl rfl ?_
  refine s_alloc rfl rfl rfl rfl rfl rfl ?_
  refine s_store rfl rfl rfl rfl rfl ?_
  refine s_store rfl rfl rfl rfl rfl ?_
  refine s_end (hK _ ?_); clear hK K
  refine AWP_reg_seq tok fun K hK => ?_
  refine s_fieldAddr rfl rfl rfl ?_
  refine s_load rfl rfl rfl ?_
  refine s_fieldAddr rfl rfl rfl ?_
  refine s_load rfl rfl rfl ?_
  refine s_call rfl rfl (c3) rfl rfl rfl rfl ?_
  refine s_bin rfl rfl rfl ?_
  refine s_move rfl rfl rfl ?_
  refine s_split (fun h => ?_) (fun h => ?_)
  · rw [zcmp_eq] at h
    refine s_fieldAddr rfl rfl rfl ?_
    refine s_load rfl rfl rfl ?_
    refine s_fieldAddr rfl rfl rfl ?_
    refine s_load rfl rfl rfl ?_
    refine s_call rfl rfl (c4) rfl rfl rfl rfl ?_
    refine s_bin rfl rfl rfl ?_
    refine s_pick rfl rfl rfl ?_
    refine s_assign rfl rfl rfl ?_
    refine s_end (hK _ ?_); clear hK K
    refine AWP_ret ?_
    repeat (with_reducible refine tq_ret ?_)
    exact post_ret (fin_mk (by rfl) (by rfl) (by rw [e, h, Bool.true_and, ← zcmp_eq]; rfl))
  · rw [zcmp_eq] at h
    refine s_skip rfl ?_
    refine s_skip rfl ?_
    refine s_skip rfl ?_
    refine s_skip rfl ?_
    refine s_skip rfl ?_
    refine s_skip rfl ?_
    refine s_pick rfl rfl rfl ?_
    refine s_assign rfl rfl rfl ?_
    refine s_end (hK _ ?_); clear hK K
    refine AWP_ret ?_
    repeat (with_reducible refine tq_ret ?_)
    exact post_ret (fin_mk (by rfl) (by rfl) (by rw [e, h, Bool.false_and]; rfl))

theorem tOf_t (p q : Int) (hp : I64 p) (hq : I64 q) : Con Tryd.prog 30 [dI p, dI q] { v := AG (pz2 (gc (p, q))).cs } := by
  have c1 := tNorm_q (decide (p < 0)) (decide (q < 0)) (wof p.natAbs) (wof q.natAbs) (gc (p, q)).1 (gc (p, q)).2 (wof_ok _) (wof_ok _) (le_d (zl_i64 hp) rfl) (le_d (zl_i64 hq) rfl) (by rw [zv_ZC, zv_ZC]; rfl) (by rw [zv_ZC, zv_ZC]; rfl)
  refine con_intro (fn := Tryd.f30) tok Tryd.func30 (by kernel_rfl) rfl ?_
  intro w0 X
  rw [entry_mkE _ _ [(0, dI p), (1, dI q)] rfl rfl]
  refine AWP_reg_seq tok fun K hK => ?_
  refine s_alloc rfl rfl rfl rfl rfl rfl ?_
  refine s_end (hK _ ?_); clear hK K
  refine AWP_reg_seq tok fun K hK => ?_
  refine s_move rfl rfl rfl ?_
  refine s_call rfl rfl (iOf_c p hp) rfl rfl rfl rfl ?_
  refine s_move rfl rfl rfl ?_
  refine s_call rfl rfl (iOf_c q hq) rfl rfl rfl rfl ?_
  refine s_build rfl rfl rfl ?_
  refine s_call rfl rfl (c1) rfl rfl rfl rfl ?_
  refine s_store rfl rfl rfl rfl rfl ?_
  refine s_end (hK _ ?_); clear hK K
  refine AWP_ret ?_
  repeat (with_reducible refine tq_ret ?_)
  exact post_ret (fin_mk (by rfl) (by rfl) (by rfl))

theorem tInv_t (r : RW) (ok : r.OK 67108864) : Con Tryd.prog 32 [AG r.cs] { v := AG (pz2 (inv2 r.cn)).cs } := by
  by_cases h : r.p = 0 ∧ r.q = 0
  · have e : inv2 r.cn = one2 := by unfold RW.cn; rw [h.1, h.2]; rfl
    rw [e]
    have c1 := tof0_c r.np r.nq r.wp r.wq ok.op ok.oq (le_d ok.lp rfl) (le_d ok.lq rfl) h.1 h.2
    have c2 := iNegZ_c 0 (by decide)
    have c3 : Con Tryd.prog 58 [AG (PZ 1 (-0))] { v := AG (pz2 one2).cs } := trotZ_c 1 0 (by decide) (by decide) (by decide)
    refine con_intro (fn := Tryd.f32) tok Tryd.func32 (by kernel_rfl) rfl ?_
    intro w0 X
    rw [entry_mkE _ _ [(0, AG r.cs)] rfl rfl]
    refine AWP_reg_seq tok fun K hK => ?_
    refine s_box rfl rfl rfl rfl rfl rfl ?_
    refine s_alloc rfl rfl rfl rfl rfl rfl ?_
    refine s_end (hK _ ?_); clear hK K
    refine AWP_reg_seq tok fun K hK => ?_
    refine s_load rfl rfl rfl ?_
    refine s_call rfl rfl (c1) rfl rfl rfl rfl ?_
    refine s_alloc rfl rfl rfl rfl rfl rfl ?_
    refine s_store rfl rfl rfl rfl rfl ?_
    refine s_end (hK _ ?_); clear hK K
    refine AWP_reg_seq tok fun K hK => ?_
    refine s_fieldAddr rfl rfl rfl ?_
    refine s_load rfl rfl rfl ?_
    refine s_call rfl rfl (c2) rfl rfl rfl rfl ?_
    refine s_fieldAddr rfl rfl rfl ?_
    refine s_store rfl rfl rfl rfl rfl ?_
    refine s_end (hK _ ?_); clear hK K
    refine AWP_reg_seq tok fun K hK => ?_
    refine s_load rfl rfl rfl ?_
    refine s_call rfl rfl (c3) rfl rfl rfl rfl ?_
    refine s_store rfl rfl rfl rfl rfl ?_
    refine s_end (hK _ ?_); clear hK K
    refine AWP_ret ?_
    repeat (with_reducible refine tq_ret ?_)
    exact post_ret (fin_mk (by rfl) (by rfl) (by rfl))
  · have e : inv2 r.cn = gc (-r.p, r.q) := by unfold RW.cn; rw [inv2_gc (a := (r.p, r.q)) h]; rfl
    rw [e]
    have hp : zl r.p ≤ 67108864 := zl_zv ok.op ok.lp
    have hq : zl r.q ≤ 67108864 := zl_zv ok.oq ok.lq
    have c1 := tof1_c r.np r.nq r.wp r.wq ok.op ok.oq (le_d ok.lp rfl) (le_d ok.lq rfl) h
    have c2 := iNeg_c r.np r.wp ok.op (le_d ok.lp rfl)
    have c3 := trot_c r.nq (decide (-r.p < 0)) r.wq (wof (-r.p).natAbs) ok.oq (wof_ok _) (le_d ok.lq rfl) (by show zl (-r.p) ≤ _; rw [zl_neg]; exact le_d hp rfl) (by rw [zv_ZC]; exact fun h' => h ⟨by have := h'.1; omega, h'.2⟩)
    rw [zv_ZC] at c3
    show Con _ _ _ _
    refine con_intro (fn := Tryd.f32) tok Tryd.func32 (by kernel_rfl) rfl ?_
    intro w0 X
    rw [entry_mkE _ _ [(0, AG r.cs)] rfl rfl]
    refine AWP_reg_seq tok fun K hK => ?_
    refine s_box rfl rfl rfl rfl rfl rfl ?_
    refine s_alloc rfl rfl rfl rfl rfl rfl ?_
    refine s_end (hK _ ?_); clear hK K
    refine AWP_reg_seq tok fun K hK => ?_
    refine s_load rfl rfl rfl ?_
    refine s_call rfl rfl (c1) rfl rfl rfl rfl ?_
    refine s_alloc rfl rfl rfl rfl rfl rfl ?_
    refine s_store rfl rfl rfl rfl rfl ?_
    refine s_end (hK _ ?_); clear hK K
    refine AWP_reg_seq tok fun K hK => ?_
    refine s_fieldAddr rfl rfl rfl ?_
    refine s_load rfl rfl rfl ?_
    refine s_call rfl rfl (c2) rfl rfl rfl rfl ?_
    refine s_fieldAddr rfl rfl rfl ?_
    refine s_store rfl rfl rfl rfl rfl ?_
    refine s_end (hK _ ?_); clear hK K
    refine AWP_reg_seq tok fun K hK => ?_
    refine s_load rfl rfl rfl ?_
    refine s_call rfl rfl (c3) rfl rfl rfl rfl ?_
    refine s_store rfl rfl rfl rfl rfl ?_
    refine s_end (hK _ ?_); clear hK K
    refine AWP_ret ?_
    repeat (with_reducible refine tq_ret ?_)
    exact post_ret (fin_mk (by rfl) (by rfl) (by rfl))

theorem bMod_c (a b : Int) (ha : I64 a) (hb : 0 < b) (hb' : b ≤ 9223372036854775807) : Con Tryd.prog 38 [dI a, dI b] { v := dI (a % b) } := by
  have hm := Int.tmod_lt_of_pos a hb
  have hm0 : -b < a.tmod b := by
    have h1 : (-a).tmod b < b := Int.tmod_lt_of_pos _ hb
    rw [Int.neg_tmod] at h1; omega
  have e1 : effBin tab .rem 3 (dI a) (dI b) = .set (dI (a.tmod b)) := e_remI' (by omega)
  have h4 : (a.tmod b) % b = a % b := by
    have h0 := Int.mul_tdiv_add_tmod a b
    conv => rhs; rw [← h0]
    rw [Int.mul_add_emod_self_left]
  have e2 : a.tmod b < 0 → a.tmod b + b = a % b := fun h => by
    have := Int.emod_nonneg a (show b ≠ 0 by omega)
    have h3 := Int.emod_lt_of_pos a hb
    rw [← h4]
    rw [← Int.add_emod_right, Int.emod_eq_of_lt (by omega) (by omega)]
  have e3 : ¬ a.tmod b < 0 → a.tmod b = a % b := fun h => by
    rw [← h4, Int.emod_eq_of_lt (by omega) (by omega)]
  refine con_intro (fn := Tryd.f38) tok Tryd.func38 (by kernel_rfl) rfl ?_
  intro w0 X
  rw [entry_mkE _ _ [(0, dI a), (1, dI b)] rfl rfl]
  refine AWP_reg_seq tok fun K hK => ?_
  refine s_assign rfl rfl rfl ?_
  refine s_end (hK _ ?_); clear hK K
  refine AWP_reg_seq tok fun K hK => ?_
  refine s_move rfl rfl rfl ?_
  refine s_move rfl rfl rfl ?_
  refine s_bin rfl e1 rfl ?_
  refine s_assign rfl rfl rfl ?_
  refine s_end (hK _ ?_); clear hK K
  refine a_join (α := Unit) (fun _ => mk 15 [(1, dI b), (5, dI (a % b))] [] []) (fun _ => True) ?_ ?_
  · refine AWP_reg_seq tok fun K hK => ?_
    refine s_move rfl rfl rfl ?_
    refine s_bin rfl rfl rfl ?_
    refine s_end (hK _ ?_); clear hK K
    refine a_cond rfl (fun hc => ?_) (fun hc => ?_)
    · have hc := of_decide_eq_true hc
      refine AWP_reg tok fun K hK => ?_
      refine s_move rfl rfl rfl ?_
      refine s_move rfl rfl rfl ?_
      refine s_bin rfl (e_add (e2 hc) (by have := e2 hc; have := Int.emod_nonneg a (show b ≠ 0 by omega); have := Int.emod_lt_of_pos a hb; omega)) rfl ?_
      refine s_assign rfl rfl rfl ?_
      refine s_end (hK _ ?_); clear hK K
      exact ⟨(), trivial, Wk.mk' ⟨rfl, rfl, trivial⟩ trivial⟩
    · have hc := of_decide_eq_false hc
      refine AWP_skip ?_
      exact ⟨(), trivial, Wk.mk' ⟨rfl, by rw [← e3 hc]; rfl, trivial⟩ trivial⟩
  rintro - -
  refine AWP_reg_seq tok fun K hK => ?_
  refine s_move rfl rfl rfl ?_
  refine s_assign rfl rfl rfl ?_
  refine s_end (hK _ ?_); clear hK K
  refine AWP_ret ?_
  repeat (with_reducible refine tq_ret ?_)
  exact post_ret (fin_mk (by rfl) (by rfl) (by rfl))
end Go.Proofs.YtipenembpidoiaaDoor

/- Powers, orders and marks of rotations; transforms. No condition. -/
namespace Go.Proofs.YtipenembpidoiaaDoor
attribute [local irreducible] lexA

def rwZ : RW := ⟨false, [], false, []⟩
def powV (r : RW) (n : Int) : RW × Int := if -64 ≤ n ∧ n ≤ 64 then (pz2 (pwZ r.cn n), 0) else (rwZ, 2)
def stpV (r : RW) (n : Int) : RW := if n < 0 then pz2 (inv2 r.cn) else r
theorem stpV_pw (r : RW) (n : Int) : pw (stpV r n).cn n.natAbs = pwZ r.cn n := by
  unfold stpV pwZ
  split
  · rw [pz2_cn]; unfold inv2; rw [gc_idem]
  · rfl
theorem stpV_ok {r : RW} {k : Nat} (ok : r.OK k) (hk : 1 ≤ k) (n : Int) : (stpV r n).OK k := by
  unfold stpV
  split
  · exact pz2_ok (zl_inv2 hk (ok.cn hk))
  · exact ok
theorem e_flagP (n : Int) : (!decide (-64 ≤ n ∧ n ≤ 64)) = (decide (n < -64) || decide (n > 64)) := by
  rw [Bool.eq_iff_iff]
  simp only [Bool.not_eq_true', decide_eq_false_iff_not, Bool.or_eq_true, decide_eq_true_eq]
  omega

theorem tPower_t (r : RW) (n : Int) (ok : r.OK 65536) (hn : I64 n) : Con Tryd.prog 39 [AG r.cs, dI n] { v := .tup [.agg (powV r n).1.cs, .one (.d (lI (powV r n).2))] } := by
  refine con_intro (fn := Tryd.f39) tok Tryd.func39 (by kernel_rfl) rfl ?_
  intro w0 X
  rw [entry_mkE _ _ [(0, AG r.cs), (1, dI n)] rfl rfl]
  refine AWP_reg_seq tok fun K hK => ?_
  refine s_box rfl rfl rfl rfl rfl rfl ?_
  refine s_alloc rfl rfl rfl rfl rfl rfl ?_
  refine s_assign rfl rfl rfl ?_
  refine s_end (hK _ ?_); clear hK K
  refine AWP_seq ?_
  refine a_join (α := Bool) (fun c => mk 31 [(1, dI n), (2, .ptr 2 0), (4, .ptr 4 0), (13, dB c)] [(2, some (.box r.cs)), (4, some (.box [.d (.lit (.bool false)), .nil, .d (.lit (.bool false)), .nil]))] []) (fun c => c = !decide (-64 ≤ n ∧ n ≤ 64)) ?_ ?_
  · refine AWP_regW fun K hK => ?_
    refine w_step tok rfl ?_
    refine s_move rfl rfl rfl ?_
    refine s_end ?_
    refine w_step tok rfl ?_
    refine s_bin rfl rfl rfl ?_
    refine s_end ?_
    refine w_step tok rfl ?_
    refine s_move rfl rfl rfl ?_
    refine s_end ?_
    refine w_split (fun h0 => ?_) (fun h0 => ?_)
    · refine w_skip rfl rfl ?_
      refine w_skip rfl rfl ?_
      refine w_step tok rfl ?_
      refine s_pick rfl rfl rfl ?_
      refine s_end ?_
      refine w_end rfl (hK _ ?_); clear hK K
      exact ⟨_, (by rw [e_flagP]; simp [h0]), Wk.mk' ⟨rfl, rfl, rfl, rfl, trivial⟩ ⟨rfl, rfl, trivial⟩⟩
    · refine w_step tok rfl ?_
      refine s_move rfl rfl rfl ?_
      refine s_end ?_
      refine w_step tok rfl ?_
      refine s_bin rfl rfl rfl ?_
      refine s_end ?_
      refine w_step tok rfl ?_
      refine s_pick rfl rfl rfl ?_
      refine s_end ?_
      refine w_end rfl (hK _ ?_); clear hK K
      exact ⟨_, (by rw [e_flagP]; simp [h0]), Wk.mk' ⟨rfl, rfl, rfl, rfl, trivial⟩ ⟨rfl, rfl, trivial⟩⟩
  rintro c rfl
  refine a_cond rfl (fun hc => ?_) (fun hc => ?_)
  · rw [Bool.not_eq_true', decide_eq_false_iff_not] at hc
    have e : powV r n = (rwZ, 2) := by unfold powV; rw [if_neg hc]
    rw [e]
    refine AWP_reg_seq tok fun K hK => ?_
    refine s_build rfl rfl rfl ?_
    refine s_store rfl rfl rfl rfl rfl ?_
    refine s_assign rfl rfl rfl ?_
    refine s_end (hK _ ?_); clear hK K
    refine AWP_ret ?_
    repeat (with_reducible refine tq_ret ?_)
    exact post_ret (fin_mk (by rfl) (by rfl) (by rfl))
  rw [Bool.not_eq_false', decide_eq_true_eq] at hc
  have e : powV r n = (pz2 (pw (stpV r n).cn n.natAbs), 0) := by unfold powV; rw [if_pos hc, stpV_pw]
  have oks := stpV_ok ok (by decide) n
  rw [e]
  refine AWP_skip ?_
  show AWP _ _ _ _ _ _
  refine AWP_reg_seq tok fun K hK => ?_
  refine s_load rfl rfl rfl ?_
  refine s_alloc rfl rfl rfl rfl rfl rfl ?_
  refine s_store rfl rfl rfl rfl rfl ?_
  refine s_end (hK _ ?_); clear hK K
  refine a_join (α := Unit) (fun _ => mk 31 [(1, dI n.natAbs), (4, .ptr 4 0), (6, .ptr 6 0)] [(4, some (.box [.d (.lit (.bool false)), .nil, .d (.lit (.bool false)), .nil])), (6, some (.box (stpV r n).cs))] []) (fun _ => True) ?_ ?_
  · refine AWP_reg_seq tok fun K hK => ?_
    refine s_move rfl rfl rfl ?_
    refine s_bin rfl rfl rfl ?_
    refine s_end (hK _ ?_); clear hK K
    refine a_cond rfl (fun hd => ?_) (fun hd => ?_)
    · have hd : n < 0 := of_decide_eq_true hd
      refine AWP_reg tok fun K hK => ?_
      refine s_load rfl rfl rfl ?_
      refine s_call rfl rfl (tInv_t r (ok.mono rfl)) rfl rfl rfl rfl ?_
      refine s_move rfl rfl rfl ?_
      refine s_un rfl (e_negI (c := (n.natAbs : Int)) (by omega) (by unfold I64; omega)) rfl ?_
      refine s_store rfl rfl rfl rfl rfl ?_
      refine s_assign rfl rfl rfl ?_
      refine s_end (hK _ ?_); clear hK K
      exact ⟨(), trivial, Wk.mk' ⟨rfl, rfl, rfl, trivial⟩ ⟨rfl, by unfold stpV; rw [if_pos hd]; rfl, trivial⟩⟩
    · have hd : ¬ n < 0 := of_decide_eq_false hd
      refine AWP_skip ?_
      exact ⟨(), trivial, Wk.mk' ⟨dI_eq (by omega), rfl, rfl, trivial⟩ ⟨rfl, by unfold stpV; rw [if_neg hd]; rfl, trivial⟩⟩
  rintro - -
  generalize stpV r n = s at *
  have hN : n.natAbs ≤ 64 := by omega
  generalize n.natAbs = N at *
  have hz := zl_pw (oks.cn (by decide))
  refine AWP_reg_seq tok fun K hK => ?_
  refine s_call rfl rfl (tOf_t 0 1 (by unfold I64; omega) (by unfold I64; omega)) rfl rfl rfl rfl ?_
  refine s_alloc rfl rfl rfl rfl rfl rfl ?_
  refine s_store rfl rfl rfl rfl rfl ?_
  refine s_end (hK _ ?_); clear hK K
  refine AWP_seq ?_
  refine AWP_reg_seq tok fun K hK => ?_
  refine s_move rfl rfl rfl ?_
  refine s_move rfl rfl rfl ?_
  refine s_end (hK _ ?_); clear hK K
  refine AWP_block (a_loop (α := Nat) (fun i => mk 31 [(4, .ptr 4 0), (6, .ptr 6 0), (7, .ptr 7 0), (23, dI N), (24, dI i)] [(4, some (.box [.d (.lit (.bool false)), .nil, .d (.lit (.bool false)), .nil])), (6, some (.box s.cs)), (7, some (.box (pz2 (pw s.cn i)).cs))] []) (fun i => i ≤ N) (fun i => N - i) 0 ?_ (Nat.zero_le _) ?_)
  · exact Wk.mk' ⟨rfl, rfl, rfl, rfl, rfl, trivial⟩ ⟨rfl, rfl, rfl, trivial⟩
  intro i hi
  refine AWP_reg_seq tok fun K hK => ?_
  refine s_bin rfl rfl rfl ?_
  refine s_end (hK _ ?_); clear hK K
  refine AWP_seq ?_
  refine a_cond rfl (fun hg => ?_) (fun hg => ?_)
  · have hg : i < N := by simp at hg; omega
    have o1 : (pz2 (pw s.cn i)).OK 67108864 := by
      have h1 := hz i
      have h2 : i * (65536 + 1) ≤ 64 * 65537 := Nat.mul_le_mul (by omega) (Nat.le_refl _)
      exact pz2_ok ⟨by omega, by omega⟩
    have c1 := tThen_t (pz2 (pw s.cn i)) s o1 (oks.mono rfl)
    rw [pz2_cn, pw_gc s.cn_nz] at c1
    refine AWP_skip ?_
    show AWP _ _ _ _ _ _
    refine AWP_seq ?_
    refine AWP_block ?_
    refine AWP_reg tok fun K hK => ?_
    refine s_load rfl rfl rfl ?_
    refine s_load rfl rfl rfl ?_
    refine s_call rfl rfl (c1) rfl rfl rfl rfl ?_
    refine s_store rfl rfl rfl rfl rfl ?_
    refine s_end (hK _ ?_); clear hK K
    show AWP _ _ _ _ _ _
    refine AWP_reg tok fun K hK => ?_
    refine s_bin rfl (e_add (c := ((i + 1 : Nat) : Int)) (by omega) (by omega)) rfl ?_
    refine s_move rfl rfl rfl ?_
    refine s_end (hK _ ?_); clear hK K
    exact ⟨i + 1, by omega, hg, Wk.mk' ⟨rfl, rfl, rfl, rfl, rfl, trivial⟩ ⟨rfl, rfl, rfl, trivial⟩⟩
  · have hg : i = N := by simp at hg; omega
    subst hg
    refine AWP_exit ?_
    show AWP _ _ _ _ _ _
    refine AWP_reg_seq tok fun K hK => ?_
    refine s_load rfl rfl rfl ?_
    refine s_store rfl rfl rfl rfl rfl ?_
    refine s_assign rfl rfl rfl ?_
    refine s_end (hK _ ?_); clear hK K
    refine AWP_ret ?_
    repeat (with_reducible refine tq_ret ?_)
    exact post_ret (fin_mk (by rfl) (by rfl) (by rfl))

theorem tOrder_t (r : RW) (ok : r.OK 67108864) : Con Tryd.prog 42 [AG r.cs] { v := dI (ordN r.cn) } := by
  have c1 := tNorm_t r (ok.mono rfl)
  have h1 := ok.cn (by decide)
  generalize r.cn = a at *
  have c2 := iSignZ_c a.1 (le_d h1.1 rfl)
  have c3 := iSignZ_c a.2 (le_d h1.2 rfl)
  have c4 := iAbs_c (decide (a.1 < 0)) (wof a.1.natAbs) (wof_ok _) (le_d h1.1 rfl)
  rw [zv_ZC] at c4
  have c5 := iCmpZ_c (a.1.natAbs : Int) a.2 (by unfold zl at *; rw [Int.natAbs_natCast]; exact le_d h1.1 rfl) (le_d h1.2 rfl)
  have s1 := dec_sgn a.1
  have s2 := dec_sgn a.2
  refine con_intro (fn := Tryd.f42) tok Tryd.func42 (by kernel_rfl) rfl ?_
  intro w0 X
  rw [entry_mkE _ _ [(0, AG r.cs)] rfl rfl]
  refine AWP_reg_seq tok fun K hK => ?_
  refine s_box rfl rfl rfl rfl rfl rfl ?_
  refine s_assign rfl rfl rfl ?_
  refine s_end (hK _ ?_); clear hK K
  refine AWP_reg_seq tok fun K hK => ?_
  refine s_load rfl rfl rfl ?_
  refine s_call rfl rfl (c1) rfl rfl rfl rfl ?_
  refine s_alloc rfl rfl rfl rfl rfl rfl ?_
  refine s_store rfl rfl rfl rfl rfl ?_
  refine s_end (hK _ ?_); clear hK K
  refine AWP_seq ?_
  refine AWP_block ?_
  refine AWP_reg_seq tok fun K hK => ?_
  refine s_fieldAddr rfl rfl rfl ?_
  refine s_load rfl rfl rfl ?_
  refine s_call rfl rfl (c2) rfl rfl rfl rfl ?_
  refine s_bin rfl rfl rfl ?_
  refine s_assign rfl rfl rfl ?_
  refine s_end (hK _ ?_); clear hK K
  refine a_cond rfl (fun hc => ?_) (fun hc => ?_)
  · have hc : a.1 = 0 := of_decide_eq_true (s1 ▸ hc)
    refine AWP_reg_seq tok fun K hK => ?_
    refine s_assign rfl rfl rfl ?_
    refine s_end (hK _ ?_); clear hK K
    refine AWP_ret ?_
    repeat (with_reducible refine tq_ret ?_)
    exact post_ret (fin_mk (by rfl) (by rfl) (by unfold ordN; rw [if_pos hc]; rfl))
  have hc : a.1 ≠ 0 := of_decide_eq_false (s1 ▸ hc)
  refine AWP_reg_seq tok fun K hK => ?_
  refine s_fieldAddr rfl rfl rfl ?_
  refine s_load rfl rfl rfl ?_
  refine s_call rfl rfl (c3) rfl rfl rfl rfl ?_
  refine s_bin rfl rfl rfl ?_
  refine s_assign rfl rfl rfl ?_
  refine s_end (hK _ ?_); clear hK K
  refine a_cond rfl (fun hd => ?_) (fun hd => ?_)
  · have hd : a.2 = 0 := of_decide_eq_true (s2 ▸ hd)
    refine AWP_reg_seq tok fun K hK => ?_
    refine s_assign rfl rfl rfl ?_
    refine s_end (hK _ ?_); clear hK K
    refine AWP_ret ?_
    repeat (with_reducible refine tq_ret ?_)
    exact post_ret (fin_mk (by rfl) (by rfl) (by unfold ordN; rw [if_neg hc, if_pos hd]; rfl))
  have hd : a.2 ≠ 0 := of_decide_eq_false (s2 ▸ hd)
  refine a_draw tok mixed (A := [[], [], [0], [], [], [0, 1, 3], [0, 1, 2, 3, 4], [0, 1, 2, 3, 4]]) (an := [{}, {}, {}, { c := [19] }, { c := [19] }, {}, {}, {}]) rfl (by kernel_rfl) rfl fun K hK => ?_
  refine s_fieldAddr rfl rfl rfl ?_
  refine s_load rfl rfl rfl ?_
  refine s_call rfl rfl (c4) rfl rfl rfl rfl ?_
  refine s_fieldAddr rfl rfl rfl ?_
  refine s_load rfl rfl rfl ?_
  refine s_call rfl rfl (c5) rfl rfl rfl rfl ?_
  refine s_bin rfl rfl rfl ?_
  refine s_assign rfl rfl rfl ?_
  refine s_end (hK _ ?_); clear hK K
  refine a_cond rfl (fun he => ?_) (fun he => ?_)
  · have he : (a.1.natAbs : Int) = a.2 := of_decide_eq_true (zcmp_eq (a.1.natAbs : Int) a.2 ▸ he)
    refine AWP_reg_seq tok fun K hK => ?_
    refine s_assign rfl rfl rfl ?_
    refine s_end (hK _ ?_); clear hK K
    refine AWP_ret ?_
    repeat (with_reducible refine tq_ret ?_)
    exact post_ret (fin_mk (by rfl) (by rfl) (by unfold ordN; rw [if_neg hc, if_neg hd, if_pos he]; rfl))
  have he : (a.1.natAbs : Int) ≠ a.2 := of_decide_eq_false (zcmp_eq (a.1.natAbs : Int) a.2 ▸ he)
  refine AWP_skip ?_
  show AWP _ _ _ _ _ _
  refine AWP_reg_seq tok fun K hK => ?_
  refine s_assign rfl rfl rfl ?_
  refine s_end (hK _ ?_); clear hK K
  refine AWP_ret ?_
  repeat (with_reducible refine tq_ret ?_)
  exact post_ret (fin_mk (by rfl) (by rfl) (by unfold ordN; rw [if_neg hc, if_neg hd, if_neg he]; rfl))

theorem tMark_t (h : Int) : Con Tryd.prog 37 [dI h] { v := AG (pz2 (mk2 (h % 256).toNat)).cs } := by
  have hM0 : ((h % 256).toNat : Int) = h % 256 := by omega
  obtain ⟨H, hH⟩ : ∃ H, (h % 256).toNat = H := ⟨_, rfl⟩
  rw [hH] at hM0
  rw [hH]
  have hH2 : H < 256 := by omega
  have e1 : effBin tab .and 3 (dI h) (dI 255) = .set (dI H) := by rw [hM0]; exact e_and255 h
  have e2 : effBin tab .rem 3 (dI H) (dI 64) = .set (dI ((H % 64 : Nat) : Int)) := e_remI' (by decide)
  have e3 : effBin tab .quo 3 (dI H) (dI 64) = .set (dI ((H / 64 : Nat) : Int)) := e_quoI' (by decide) rfl (by unfold I64; omega)
  have c1 := tOf_t ((H % 64 : Nat) : Int) 64 (by unfold I64; omega) (by unfold I64; omega)
  have c2 := tOf_t 1 1 (by unfold I64; omega) (by unfold I64; omega)
  have hz : ∀ n, zl (mkN H n).1 ≤ n * 3 + 2 ∧ zl (mkN H n).2 ≤ n * 3 + 2 := by
    intro n
    induction n with
    | zero => exact gc_zl (by decide) ⟨zl_i64 ⟨by simp only; omega, by simp only; omega⟩, zl_i64 ⟨by simp only; omega, by simp only; omega⟩⟩
    | succ n ih => exact zl_gm (l := 1) ih ⟨by decide, by decide⟩ (by omega)
  have g11 : gc ((1 : Int), (1 : Int)) = (1, 1) := (show Cn2 ((1 : Int), (1 : Int)) from ⟨by decide, by decide⟩).gc
  rw [g11] at c2
  refine con_intro (fn := Tryd.f37) tok Tryd.func37 (by kernel_rfl) rfl ?_
  intro w0 X
  rw [entry_mkE _ _ [(0, dI h)] rfl rfl]
  refine AWP_reg_seq tok fun K hK => ?_
  refine s_alloc rfl rfl rfl rfl rfl rfl ?_
  refine s_end (hK _ ?_); clear hK K
  refine AWP_reg_seq tok fun K hK => ?_
  refine s_move rfl rfl rfl ?_
  refine s_bin rfl e1 rfl ?_
  refine s_assign rfl rfl rfl ?_
  refine s_end (hK _ ?_); clear hK K
  refine AWP_reg_seq tok fun K hK => ?_
  refine s_move rfl rfl rfl ?_
  refine s_bin rfl e2 rfl ?_
  refine s_call rfl rfl (c1) rfl rfl rfl rfl ?_
  refine s_alloc rfl rfl rfl rfl rfl rfl ?_
  refine s_store rfl rfl rfl rfl rfl ?_
  refine s_end (hK _ ?_); clear hK K
  refine AWP_seq ?_
  refine AWP_reg_seq tok fun K hK => ?_
  refine s_move rfl rfl rfl ?_
  refine s_bin rfl e3 rfl ?_
  refine s_move rfl rfl rfl ?_
  refine s_end (hK _ ?_); clear hK K
  refine AWP_block (a_loop (α := Nat) (fun i => mk 18 [(2, .ptr 2 0), (3, .ptr 3 0), (10, dI ((H / 64 : Nat) : Int)), (11, dI i)] [(2, some (.box [.d (.lit (.bool false)), .nil, .d (.lit (.bool false)), .nil])), (3, some (.box (pz2 (mkN H i)).cs))] []) (fun i => i ≤ H / 64) (fun i => H / 64 - i) 0 ?_ (Nat.zero_le _) ?_)
  · exact Wk.mk' ⟨rfl, rfl, rfl, rfl, trivial⟩ ⟨rfl, rfl, trivial⟩
  intro i hi
  refine AWP_reg_seq tok fun K hK => ?_
  refine s_bin rfl rfl rfl ?_
  refine s_end (hK _ ?_); clear hK K
  refine AWP_seq ?_
  refine a_cond rfl (fun hg => ?_) (fun hg => ?_)
  · have hg : i < H / 64 := by have := of_decide_eq_true hg; omega
    have h1 := hz i
    have c3 := tThen_t (pz2 (mkN H i)) (pz2 (1, 1)) (pz2_ok ⟨by omega, by omega⟩) (pz2_ok ⟨by decide, by decide⟩)
    rw [pz2_cn, pz2_cn, mkN_gc, g11] at c3
    refine AWP_skip ?_
    show AWP _ _ _ _ _ _
    refine AWP_seq ?_
    refine AWP_block ?_
    refine a_draw1 tok mixed (A := [[], [], [], []]) (an := [{}, {}, {}, {}]) rfl (by kernel_rfl) rfl fun K hK => ?_
    refine s_load rfl rfl rfl ?_
    refine s_call rfl rfl (c2) rfl rfl rfl rfl ?_
    refine s_call rfl rfl (c3) rfl rfl rfl rfl ?_
    refine s_store rfl rfl rfl rfl rfl ?_
    refine s_end (hK _ ?_); clear hK K
    show AWP _ _ _ _ _ _
    refine AWP_reg tok fun K hK => ?_
    refine s_bin rfl (e_add (c := ((i + 1 : Nat) : Int)) (by omega) (by omega)) rfl ?_
    refine s_move rfl rfl rfl ?_
    refine s_end (hK _ ?_); clear hK K
    exact ⟨i + 1, by omega, hg, Wk.mk' ⟨rfl, rfl, rfl, rfl, trivial⟩ ⟨rfl, rfl, trivial⟩⟩
  · have hg : i = H / 64 := by have := of_decide_eq_false hg; omega
    subst hg
    refine AWP_exit ?_
    show AWP _ _ _ _ _ _
    refine AWP_reg_seq tok fun K hK => ?_
    refine s_load rfl rfl rfl ?_
    refine s_store rfl rfl rfl rfl rfl ?_
    refine s_end (hK _ ?_); clear hK K
    refine AWP_ret ?_
    repeat (with_reducible refine tq_ret ?_)
    exact post_ret (fin_mk (by rfl) (by rfl) (by rfl))
end Go.Proofs.YtipenembpidoiaaDoor

/- Rigid transforms. No condition. -/
namespace Go.Proofs.YtipenembpidoiaaDoor
attribute [local irreducible] lexA

structure TR.OK (k : Nat) (t : TR) : Prop where
  r : t.r.OK k
  x : t.x.OK k
  y : t.y.OK k
theorem TR.OK.mono {t : TR} {k m : Nat} (h : t.OK k) (hk : Nat.ble k m = true) : t.OK m := ⟨h.r.mono hk, h.x.mono hk, h.y.mono hk⟩
def acX (t : TR) (x y : Rat) : Rat := tnX t.r.cn x y + t.x.v
def acY (t : TR) (x y : Rat) : Rat := tnY t.r.cn x y + t.y.v
def cmV (t u : TR) : TR := ⟨pz2 (gc (gm t.r.cn u.r.cn)), qzW (acX t u.x.v u.y.v), qzW (acY t u.x.v u.y.v)⟩
def bkV (t : TR) : TR := ⟨pz2 (inv2 t.r.cn), qzW (tnX (inv2 t.r.cn) (-t.x.v) (-t.y.v)), qzW (tnY (inv2 t.r.cn) (-t.x.v) (-t.y.v))⟩
def shV (x y : RW) : TR := ⟨pz2 one2, qzW x.v, qzW y.v⟩
theorem inv2_can (a : Int × Int) : gc (inv2 a) = inv2 a := gc_idem _
theorem ac_ql {t : TR} {x y : Rat} {k l m : Nat} (ok : t.OK k) (hk : Nat.ble 1 k = true) (hx : ql x ≤ l) (hy : ql y ≤ l) (hm : 5 * k + 2 * l + 4 ≤ m) : ql (acX t x y) ≤ m ∧ ql (acY t x y) ≤ m := by
  obtain ⟨h1, h2⟩ := tn_ql (m := 4 * k + 2 * l + 3) ok.r (Nat.le_of_ble_eq_true hk) hx hy (Nat.le_refl _)
  exact ⟨Nat.le_trans (ql_add_le h1 (ok.x.ql hk)) (by omega), Nat.le_trans (ql_add_le h2 (ok.y.ql hk)) (by omega)⟩
theorem cm_ok {t u : TR} {k l m : Nat} (ok : t.OK k) (hk : Nat.ble 1 k = true) (ou : u.OK l) (hl : Nat.ble 1 l = true) (hm : 5 * k + 2 * l + 4 ≤ m) : (cmV t u).OK m := by
  have h1 := ac_ql ok hk (ou.x.ql hl) (ou.y.ql hl) hm
  have k1 := Nat.le_of_ble_eq_true hk
  have l1 := Nat.le_of_ble_eq_true hl
  exact ⟨pz2_ok (zl_gm (ok.r.cn k1) (ou.r.cn l1) (by omega)), qzW_ok h1.1, qzW_ok h1.2⟩
theorem bk_ok {t : TR} {k m : Nat} (ok : t.OK k) (hk : Nat.ble 1 k = true) (hm : 6 * k + 3 ≤ m) : (bkV t).OK m := by
  have k1 := Nat.le_of_ble_eq_true hk
  have o1 : (pz2 (inv2 t.r.cn)).OK k := pz2_ok (zl_inv2 k1 (ok.r.cn k1))
  have h1 := tn_ql (m := m) o1 k1 (x := -t.x.v) (y := -t.y.v) (l := k) (by rw [ql_neg]; exact ok.x.ql hk) (by rw [ql_neg]; exact ok.y.ql hk) (by omega)
  rw [pz2_cn, inv2_can] at h1
  have h2 := zl_inv2 k1 (ok.r.cn k1)
  exact ⟨pz2_ok ⟨by omega, by omega⟩, qzW_ok h1.1, qzW_ok h1.2⟩
theorem sh_ok {x y : RW} {k : Nat} (hk : Nat.ble 1 k = true) (ox : x.OK k) (oy : y.OK k) : (shV x y).OK k := by
  have k1 := Nat.le_of_ble_eq_true hk
  exact ⟨pz2_ok ⟨Nat.le_trans (by decide : zl 0 ≤ 1) k1, Nat.le_trans (by decide : zl 1 ≤ 1) k1⟩, qzW_ok (ox.ql hk), qzW_ok (oy.ql hk)⟩

theorem tShift_t (x y : RW) (ox : x.OK 16777216) (oy : y.OK 16777216) : Con Tryd.prog 16 [AG x.cs, AG y.cs] { v := AG (shV x y).cs } := by
  have c0 : Con Tryd.prog 30 [dI 0, dI 1] { v := AG (pz2 one2).cs } := tOf_t 0 1 (by unfold I64; omega) (by unfold I64; omega)
  refine con_intro (fn := Tryd.f16) tok Tryd.func16 (by kernel_rfl) rfl ?_
  intro w0 X
  rw [entry_mkE _ _ [(0, AG x.cs), (1, AG y.cs)] rfl rfl]
  refine AWP_reg_seq tok fun K hK => ?_
  refine s_box rfl rfl rfl rfl rfl rfl ?_
  refine s_box rfl rfl rfl rfl rfl rfl ?_
  refine s_alloc rfl rfl rfl rfl rfl rfl ?_
  refine s_end (hK _ ?_); clear hK K
  refine a_draw tok mixed (A := [[], [], [], [], [0, 1], [1, 3], []]) (an := [{}, { c := [5] }, {}, { c := [5, 7] }, {}, {}, {}]) rfl (by kernel_rfl) rfl fun K hK => ?_
  refine s_call rfl rfl (c0) rfl rfl rfl rfl ?_
  refine s_load rfl rfl rfl ?_
  refine s_call rfl rfl (qNorm_t x ox) rfl rfl rfl rfl ?_
  refine s_load rfl rfl rfl ?_
  refine s_call rfl rfl (qNorm_t y oy) rfl rfl rfl rfl ?_
  refine s_build rfl rfl rfl ?_
  refine s_store rfl rfl rfl rfl rfl ?_
  refine s_end (hK _ ?_); clear hK K
  refine AWP_ret ?_
  repeat (with_reducible refine tq_ret ?_)
  exact post_ret (fin_mk (by rfl) (by rfl) (by rfl))

theorem tAct_t (t : TR) (x y : RW) (ok : t.OK 1048576) (ox : x.OK 1048576) (oy : y.OK 1048576) : Con Tryd.prog 19 [AG t.cs, AG x.cs, AG y.cs]
    { v := .tup [.agg (qzW (acX t x.v y.v)).cs, .agg (qzW (acY t x.v y.v)).cs] } := by
  have c1 := tTurn_t t.r x y ok.r ox oy
  have h1 := tn_ql (m := 16777216) ok.r (by decide) (ox.ql rfl) (oy.ql rfl) (by decide)
  unfold acX acY
  generalize tnX t.r.cn x.v y.v = u at *
  generalize tnY t.r.cn x.v y.v = v at *
  have c2 := qAdd_t (qzW u) t.x (u + t.x.v) (qzW_ok h1.1) (ok.x.mono rfl) (by rw [qzW_v])
  have c3 := qAdd_t (qzW v) t.y (v + t.y.v) (qzW_ok h1.2) (ok.y.mono rfl) (by rw [qzW_v])
  refine con_intro (fn := Tryd.f19) tok Tryd.func19 (by kernel_rfl) rfl ?_
  intro w0 X
  rw [entry_mkE _ _ [(0, AG t.cs), (1, AG x.cs), (2, AG y.cs)] rfl rfl]
  refine AWP_reg_seq tok fun K hK => ?_
  refine s_box rfl rfl rfl rfl rfl rfl ?_
  refine s_box rfl rfl rfl rfl rfl rfl ?_
  refine s_box rfl rfl rfl rfl rfl rfl ?_
  refine s_alloc rfl rfl rfl rfl rfl rfl ?_
  refine s_alloc rfl rfl rfl rfl rfl rfl ?_
  refine s_end (hK _ ?_); clear hK K
  refine AWP_reg_seq tok fun K hK => ?_
  refine s_fieldAddr rfl rfl rfl ?_
  refine s_load rfl rfl rfl ?_
  refine s_load rfl rfl rfl ?_
  refine s_load rfl rfl rfl ?_
  refine s_call rfl rfl (c1) rfl rfl rfl rfl ?_
  refine s_move rfl rfl rfl ?_
  refine s_extract rfl rfl rfl ?_
  refine s_extract rfl rfl rfl ?_
  refine s_alloc rfl rfl rfl rfl rfl rfl ?_
  refine s_alloc rfl rfl rfl rfl rfl rfl ?_
  refine s_store rfl rfl rfl rfl rfl ?_
  refine s_store rfl rfl rfl rfl rfl ?_
  refine s_end (hK _ ?_); clear hK K
  refine a_draw tok mixed (A := [[], [], [], [1], [], [], [], [0, 1, 2, 5], [4, 5, 6], []]) (an := [{}, {}, {}, {}, { c := [21] }, { c := [21] }, { c := [21] }, {}, {}, {}]) rfl (by kernel_rfl) rfl fun K hK => ?_
  refine s_load rfl rfl rfl ?_
  refine s_fieldAddr rfl rfl rfl ?_
  refine s_load rfl rfl rfl ?_
  refine s_call rfl rfl (c2) rfl rfl rfl rfl ?_
  refine s_load rfl rfl rfl ?_
  refine s_fieldAddr rfl rfl rfl ?_
  refine s_load rfl rfl rfl ?_
  refine s_call rfl rfl (c3) rfl rfl rfl rfl ?_
  refine s_store rfl rfl rfl rfl rfl ?_
  refine s_store rfl rfl rfl rfl rfl ?_
  refine s_end (hK _ ?_); clear hK K
  refine AWP_ret ?_
  repeat (with_reducible refine tq_ret ?_)
  exact post_ret (fin_mk (by rfl) (by rfl) (by rfl))

theorem tCompose_t (t u : TR) (ok : t.OK 1048576) (ou : u.OK 1048576) : Con Tryd.prog 17 [AG t.cs, AG u.cs] { v := AG (cmV t u).cs } := by
  have c1 := tAct_t t u.x u.y ok ou.x ou.y
  have c2 := tThen_t t.r u.r (ok.r.mono rfl) (ou.r.mono rfl)
  unfold cmV
  generalize qzW (acX t u.x.v u.y.v) = p at *
  generalize qzW (acY t u.x.v u.y.v) = q at *
  generalize pz2 (gc (gm t.r.cn u.r.cn)) = s at *
  refine con_intro (fn := Tryd.f17) tok Tryd.func17 (by kernel_rfl) rfl ?_
  intro w0 X
  rw [entry_mkE _ _ [(0, AG t.cs), (1, AG u.cs)] rfl rfl]
  refine AWP_reg_seq tok fun K hK => ?_
  refine s_box rfl rfl rfl rfl rfl rfl ?_
  refine s_box rfl rfl rfl rfl rfl rfl ?_
  refine s_alloc rfl rfl rfl rfl rfl rfl ?_
  refine s_end (hK _ ?_); clear hK K
  refine AWP_reg_seq tok fun K hK => ?_
  refine s_load rfl rfl rfl ?_
  refine s_fieldAddr rfl rfl rfl ?_
  refine s_load rfl rfl rfl ?_
  refine s_fieldAddr rfl rfl rfl ?_
  refine s_load rfl rfl rfl ?_
  refine s_call rfl rfl (c1) rfl rfl rfl rfl ?_
  refine s_move rfl rfl rfl ?_
  refine s_extract rfl rfl rfl ?_
  refine s_extract rfl rfl rfl ?_
  refine s_alloc rfl rfl rfl rfl rfl rfl ?_
  refine s_alloc rfl rfl rfl rfl rfl rfl ?_
  refine s_store rfl rfl rfl rfl rfl ?_
  refine s_store rfl rfl rfl rfl rfl ?_
  refine s_end (hK _ ?_); clear hK K
  refine a_draw tok mixed (A := [[], [], [], [], [0, 2], [], [], [0, 1, 2, 3], []]) (an := [{}, {}, {}, {}, {}, { c := [20] }, { c := [20] }, {}, {}]) rfl (by kernel_rfl) rfl fun K hK => ?_
  refine s_fieldAddr rfl rfl rfl ?_
  refine s_load rfl rfl rfl ?_
  refine s_fieldAddr rfl rfl rfl ?_
  refine s_load rfl rfl rfl ?_
  refine s_call rfl rfl (c2) rfl rfl rfl rfl ?_
  refine s_load rfl rfl rfl ?_
  refine s_load rfl rfl rfl ?_
  refine s_build rfl rfl rfl ?_
  refine s_store rfl rfl rfl rfl rfl ?_
  refine s_end (hK _ ?_); clear hK K
  refine AWP_ret ?_
  repeat (with_reducible refine tq_ret ?_)
  exact post_ret (fin_mk (by rfl) (by rfl) (by rfl))

set_option maxHeartbeats 4000000 in
theorem tBack_t (t : TR) (ok : t.OK 1048576) : Con Tryd.prog 40 [AG t.cs] { v := AG (bkV t).cs } := by
  have c1 := tInv_t t.r (ok.r.mono rfl)
  have c2 := qNeg_t t.x (ok.x.mono rfl)
  have c3 := qNeg_t t.y (ok.y.mono rfl)
  have c4 := tTurn_t (pz2 (inv2 t.r.cn)) (qzW (-t.x.v)) (qzW (-t.y.v)) (pz2_ok (zl_inv2 (by decide) (ok.r.cn (by decide)))) (qzW_ok (by rw [ql_neg]; exact ok.x.ql rfl)) (qzW_ok (by rw [ql_neg]; exact ok.y.ql rfl))
  rw [pz2_cn, inv2_can, qzW_v, qzW_v] at c4
  unfold bkV
  generalize qzW (tnX (inv2 t.r.cn) (-t.x.v) (-t.y.v)) = p at *
  generalize qzW (tnY (inv2 t.r.cn) (-t.x.v) (-t.y.v)) = q at *
  generalize pz2 (inv2 t.r.cn) = s at *
  generalize qzW (-t.x.v) = x at *
  generalize qzW (-t.y.v) = y at *
  refine con_intro (fn := Tryd.f40) tok Tryd.func40 (by kernel_rfl) rfl ?_
  intro w0 X
  rw [entry_mkE _ _ [(0, AG t.cs)] rfl rfl]
  refine AWP_reg_seq tok fun K hK => ?_
  refine s_box rfl rfl rfl rfl rfl rfl ?_
  refine s_alloc rfl rfl rfl rfl rfl rfl ?_
  refine s_end (hK _ ?_); clear hK K
  refine AWP_reg_seq tok fun K hK => ?_
  refine s_fieldAddr rfl rfl rfl ?_
  refine s_load rfl rfl rfl ?_
  refine s_call rfl rfl (c1) rfl rfl rfl rfl ?_
  refine s_alloc rfl rfl rfl rfl rfl rfl ?_
  refine s_store rfl rfl rfl rfl rfl ?_
  refine s_end (hK _ ?_); clear hK K
  refine a_draw tok mixed (A := [[], [], [], [1], [], [], [1, 2, 4], [1, 2, 4, 5], [0, 1, 2, 3, 4, 5, 6], [0, 1, 2, 3, 4, 5, 6, 7], [0, 1, 2, 3, 4, 5, 6, 7], [], [], [], []]) (an := [{}, {}, {}, {}, { c := [13] }, { c := [13] }, {}, {}, {}, {}, {}, { c := [13, 16, 17] }, { c := [13, 16, 17, 4] }, {}, {}]) rfl (by kernel_rfl) rfl fun K hK => ?_
  refine s_load rfl rfl rfl ?_
  refine s_fieldAddr rfl rfl rfl ?_
  refine s_load rfl rfl rfl ?_
  refine s_call rfl rfl (c2) rfl rfl rfl rfl ?_
  refine s_fieldAddr rfl rfl rfl ?_
  refine s_load rfl rfl rfl ?_
  refine s_call rfl rfl (c3) rfl rfl rfl rfl ?_
  refine s_call rfl rfl (c4) rfl rfl rfl rfl ?_
  refine s_move rfl rfl rfl ?_
  refine s_extract rfl rfl rfl ?_
  refine s_extract rfl rfl rfl ?_
  refine s_alloc rfl rfl rfl rfl rfl rfl ?_
  refine s_alloc rfl rfl rfl rfl rfl rfl ?_
  refine s_store rfl rfl rfl rfl rfl ?_
  refine s_store rfl rfl rfl rfl rfl ?_
  refine s_end (hK _ ?_); clear hK K
  refine AWP_reg_seq tok fun K hK => ?_
  refine s_load rfl rfl rfl ?_
  refine s_load rfl rfl rfl ?_
  refine s_load rfl rfl rfl ?_
  refine s_build rfl rfl rfl ?_
  refine s_store rfl rfl rfl rfl rfl ?_
  refine s_end (hK _ ?_); clear hK K
  refine AWP_ret ?_
  repeat (with_reducible refine tq_ret ?_)
  exact post_ret (fin_mk (by rfl) (by rfl) (by rfl))

def eqT (t u : TR) : Bool := decide (t.r.cn = u.r.cn) && (decide (t.x.v = u.x.v) && decide (t.y.v = u.y.v))

theorem tEqual_t (t u : TR) (ok : t.OK 1048576) (ou : u.OK 1048576) : Con Tryd.prog 41 [AG t.cs, AG u.cs] { v := dB (eqT t u) } := by
  have c1 := tSame_t t.r u.r (ok.r.mono rfl) (ou.r.mono rfl)
  have c2 := qCmp_t t.x u.x (ok.x.mono rfl) (ou.x.mono rfl)
  have c3 := qCmp_t t.y u.y (ok.y.mono rfl) (ou.y.mono rfl)
  refine con_intro (fn := Tryd.f41) tok Tryd.func41 (by kernel_rfl) rfl ?_
  intro w0 X
  rw [entry_mkE _ _ [(0, AG t.cs), (1, AG u.cs)] rfl rfl]
  refine AWP_reg_seq tok fun K hK => ?_
  refine s_box rfl rfl rfl rfl rfl rfl ?_
  refine s_box rfl rfl rfl rfl rfl rfl ?_
  refine s_assign rfl rfl rfl ?_
  refine s_end (hK _ ?_); clear hK K
  refine AWP_reg_seq tok fun K hK => ?_
  refine s_fieldAddr rfl rfl rfl ?_
  refine s_load rfl rfl rfl ?_
  refine s_fieldAddr rfl rfl rfl ?_
  refine s_load rfl rfl rfl ?_
  refine s_call rfl rfl (c1) rfl rfl rfl rfl ?_
  refine s_move rfl rfl rfl ?_
  refine s_split (fun h => ?_) (fun h => ?_)
  · refine s_fieldAddr rfl rfl rfl ?_
    refine s_load rfl rfl rfl ?_
    refine s_fieldAddr rfl rfl rfl ?_
    refine s_load rfl rfl rfl ?_
    refine s_call rfl rfl (c2) rfl rfl rfl rfl ?_
    refine s_bin rfl rfl rfl ?_
    refine s_pick rfl rfl rfl ?_
    refine s_move rfl rfl rfl ?_
    refine s_split (fun h2 => ?_) (fun h2 => ?_)
    · rw [qcmp_eq] at h2
      refine s_fieldAddr rfl rfl rfl ?_
      refine s_load rfl rfl rfl ?_
      refine s_fieldAddr rfl rfl rfl ?_
      refine s_load rfl rfl rfl ?_
      refine s_call rfl rfl (c3) rfl rfl rfl rfl ?_
      refine s_bin rfl rfl rfl ?_
      refine s_pick rfl rfl rfl ?_
      refine s_assign rfl rfl rfl ?_
      refine s_end (hK _ ?_); clear hK K
      refine AWP_ret ?_
      repeat (with_reducible refine tq_ret ?_)
      exact post_ret (fin_mk (by rfl) (by rfl) (by rw [eqT, h, h2, Bool.true_and, Bool.true_and, ← qcmp_eq]; rfl))
    · rw [qcmp_eq] at h2
      refine s_skip rfl ?_
      refine s_skip rfl ?_
      refine s_skip rfl ?_
      refine s_skip rfl ?_
      refine s_skip rfl ?_
      refine s_skip rfl ?_
      refine s_pick rfl rfl rfl ?_
      refine s_assign rfl rfl rfl ?_
      refine s_end (hK _ ?_); clear hK K
      refine AWP_ret ?_
      repeat (with_reducible refine tq_ret ?_)
      exact post_ret (fin_mk (by rfl) (by rfl) (by rw [eqT, h, h2]; rfl))
  · refine s_skip rfl ?_
    refine s_skip rfl ?_
    refine s_skip rfl ?_
    refine s_skip rfl ?_
    refine s_skip rfl ?_
    refine s_skip rfl ?_
    refine s_pick rfl rfl rfl ?_
    refine s_move rfl rfl rfl ?_
    refine s_skip rfl ?_
    refine s_skip rfl ?_
    refine s_skip rfl ?_
    refine s_skip rfl ?_
    refine s_skip rfl ?_
    refine s_skip rfl ?_
    refine s_pick rfl rfl rfl ?_
    refine s_assign rfl rfl rfl ?_
    refine s_end (hK _ ?_); clear hK K
    refine AWP_ret ?_
    repeat (with_reducible refine tq_ret ?_)
    exact post_ret (fin_mk (by rfl) (by rfl) (by rw [eqT, h]; rfl))
end Go.Proofs.YtipenembpidoiaaDoor

/- Small numbers as text. No condition. -/
namespace Go.Proofs.YtipenembpidoiaaDoor
attribute [local irreducible] lexA

theorem trimW_one {d : Nat} (h : d ≠ 0) : trimW [d] = [d] := by
  unfold trimW; simp [h]
def digL : List UInt8 := [48, 49, 50, 51, 52, 53, 54, 55, 56, 57, 97, 98, 99, 100, 101, 102, 103, 104, 105, 106, 107, 108, 109, 110, 111, 112, 113, 114, 115, 116, 117, 118, 119, 120, 121, 122]
def smallL : List UInt8 := [48, 48, 48, 49, 48, 50, 48, 51, 48, 52, 48, 53, 48, 54, 48, 55, 48, 56, 48, 57, 49, 48, 49, 49, 49, 50, 49, 51, 49, 52, 49, 53, 49, 54, 49, 55, 49, 56, 49, 57, 50, 48, 50, 49, 50, 50, 50, 51, 50, 52] ++ [50, 53, 50, 54, 50, 55, 50, 56, 50, 57, 51, 48, 51, 49, 51, 50, 51, 51, 51, 52, 51, 53, 51, 54, 51, 55, 51, 56, 51, 57, 52, 48, 52, 49, 52, 50, 52, 51, 52, 52, 52, 53, 52, 54, 52, 55, 52, 56, 52, 57] ++ [53, 48, 53, 49, 53, 50, 53, 51, 53, 52, 53, 53, 53, 54, 53, 55, 53, 56, 53, 57, 54, 48, 54, 49, 54, 50, 54, 51, 54, 52, 54, 53, 54, 54, 54, 55, 54, 56, 54, 57, 55, 48, 55, 49, 55, 50, 55, 51, 55, 52] ++ [55, 53, 55, 54, 55, 55, 55, 56, 55, 57, 56, 48, 56, 49, 56, 50, 56, 51, 56, 52, 56, 53, 56, 54, 56, 55, 56, 56, 56, 57, 57, 48, 57, 49, 57, 50, 57, 51, 57, 52, 57, 53, 57, 54, 57, 55, 57, 56, 57, 57]
/-- The text of a number below a hundred. -/
def txL (d : Nat) : List UInt8 := if d < 10 then (digL.drop d).take 1 else (smallL.drop (2 * d)).take 2
abbrev sB (l : List UInt8) : DC := .lit (.string ⟨l.toArray⟩)
theorem e_subS {T : Tab} {t : TypeId} {ti : TI} {s : ByteArray} {l : List UInt8} {i j : Int} {a b : Nat} (h1 : T t = some ti) (h2 : ti.und = .string) (hs : s = ⟨l.toArray⟩) (hi : i = (a : Int)) (hj : j = (b : Int)) (hab : a ≤ b) (hb : b ≤ l.length) :
    effSliceN T t (V1 (.lit (.string s))) i j = .set (V1 (sB ((l.drop a).take (b - a)))) := by
  subst hs hi hj
  have e : (ByteArray.mk l.toArray).size = l.length := by simp [ByteArray.size]
  simp only [effSliceN, h1, h2, strOf]
  rw [if_pos ⟨by omega, by omega, by rw [e]; omega⟩]
  show setLit (.string ((ByteArray.mk l.toArray).extract ((a : Int)).toNat ((b : Int)).toNat)) = _
  rw [show ((a : Int)).toNat = a from rfl, show ((b : Int)).toNat = b from rfl, Go.ByteArray.extract_mk]
  rfl

theorem small_c (d : Nat) (hd : d < 100) : Con Tryd.prog 103 [dI d] { v := V1 (sB (txL d)) } := by
  have l1 : digL.length = 36 := rfl
  have l2 : smallL.length = 200 := rfl
  refine con_intro (fn := Tryd.f103) tok Tryd.func103 (by kernel_rfl) rfl ?_
  intro w0 X
  rw [entry_mkE _ _ [(0, dI d)] rfl rfl]
  refine AWP_reg_seq tok fun K hK => ?_
  refine s_assign rfl rfl rfl ?_
  refine s_end (hK _ ?_); clear hK K
  refine AWP_seq ?_
  refine AWP_reg_seq tok fun K hK => ?_
  refine s_move rfl rfl rfl ?_
  refine s_bin rfl rfl rfl ?_
  refine s_end (hK _ ?_); clear hK K
  refine a_cond rfl (fun hc => ?_) (fun hc => ?_)
  · have hc : d < 10 := by have := of_decide_eq_true hc; omega
    refine AWP_reg_seq tok fun K hK => ?_
    refine s_move rfl rfl rfl ?_
    refine s_move rfl rfl rfl ?_
    refine s_bin rfl (e_add (c := ((d + 1 : Nat) : Int)) (by omega) (by omega)) rfl ?_
    refine s_slice rfl rfl rfl (e_subS (l := digL) (a := d) (b := d + 1) rfl rfl rfl rfl rfl (by omega) (by omega)) rfl ?_
    refine s_assign rfl rfl rfl ?_
    refine s_end (hK _ ?_); clear hK K
    refine AWP_ret ?_
    repeat (with_reducible refine tq_ret ?_)
    exact post_ret (fin_mk (by rfl) (by rfl) (by unfold txL; rw [if_pos hc, Nat.add_sub_cancel_left]; rfl))
  · have hc : ¬ d < 10 := by have := of_decide_eq_false hc; omega
    refine AWP_skip ?_
    show AWP _ _ _ _ _ _
    refine AWP_reg_seq tok fun K hK => ?_
    refine s_move rfl rfl rfl ?_
    refine s_bin rfl (e_mul (c := ((2 * d : Nat) : Int)) (by omega) (by omega)) rfl ?_
    refine s_move rfl rfl rfl ?_
    refine s_bin rfl (e_mul (c := ((2 * d : Nat) : Int)) (by omega) (by omega)) rfl ?_
    refine s_bin rfl (e_add (c := ((2 * d + 2 : Nat) : Int)) (by omega) (by omega)) rfl ?_
    refine s_slice rfl rfl rfl (e_subS (l := smallL) (a := 2 * d) (b := 2 * d + 2) rfl rfl rfl rfl rfl (by omega) (by omega)) rfl ?_
    refine s_assign rfl rfl rfl ?_
    refine s_end (hK _ ?_); clear hK K
    refine AWP_ret ?_
    repeat (with_reducible refine tq_ret ?_)
    exact post_ret (fin_mk (by rfl) (by rfl) (by unfold txL; rw [if_neg hc, Nat.add_sub_cancel_left]; rfl))

theorem fmtI_c (d : Nat) (hd : d < 100) : Con Tryd.prog 94 [dL d, dI 10] { v := V1 (sB (txL d)) } := by
  refine con_intro (fn := Tryd.f94) tok Tryd.func94 (by kernel_rfl) rfl ?_
  intro w0 X
  rw [entry_mkE _ _ [(0, dL d), (1, dI 10)] rfl rfl]
  refine AWP_reg_seq tok fun K hK => ?_
  refine s_assign rfl rfl rfl ?_
  refine s_end (hK _ ?_); clear hK K
  refine AWP_seq ?_
  refine AWP_reg_seq tok fun K hK => ?_
  refine s_move rfl rfl rfl ?_
  refine s_bin rfl rfl rfl ?_
  refine s_end (hK _ ?_); clear hK K
  refine a_cond rfl (fun _ => ?_) (fun hc => by cases hc)
  refine AWP_seq ?_
  refine AWP_reg_seq tok fun K hK => ?_
  refine s_move rfl rfl rfl ?_
  refine s_bin rfl rfl rfl ?_
  refine s_end (hK _ ?_); clear hK K
  refine a_cond rfl (fun _ => ?_) (fun hc => by have := of_decide_eq_false hc; omega)
  refine AWP_reg_seq tok fun K hK => ?_
  refine s_move rfl rfl rfl ?_
  refine s_conv rfl (e_conv rfl rfl rfl (by show IntKind.i64.wrap (d : Int) = (d : Int); exact IntWalk.i64_in _ (by omega))) rfl ?_
  refine s_call rfl rfl (small_c d hd) rfl rfl rfl rfl ?_
  refine s_assign rfl rfl rfl ?_
  refine s_end (hK _ ?_); clear hK K
  refine AWP_ret ?_
  repeat (with_reducible refine tq_ret ?_)
  exact post_ret (fin_mk (by rfl) (by rfl) (by rfl))
theorem fmt_c (d : Nat) (hd : d < 100) : Con Tryd.prog 86 [dL d, dI 10] { v := V1 (sB (txL d)) } := by
  show Con _ _ _ _
  refine con_intro (fn := Tryd.f86) tok Tryd.func86 (by kernel_rfl) rfl ?_
  intro w0 X
  rw [entry_mkE _ _ [(0, dL d), (1, dI 10)] rfl rfl]
  refine AWP_reg_seq tok fun K hK => ?_
  refine s_assign rfl rfl rfl ?_
  refine s_end (hK _ ?_); clear hK K
  refine AWP_reg_seq tok fun K hK => ?_
  refine s_move rfl rfl rfl ?_
  refine s_move rfl rfl rfl ?_
  refine s_call rfl rfl (fmtI_c d hd) rfl rfl rfl rfl ?_
  refine s_assign rfl rfl rfl ?_
  refine s_end (hK _ ?_); clear hK K
  refine AWP_ret ?_
  repeat (with_reducible refine tq_ret ?_)
  exact post_ret (fin_mk (by rfl) (by rfl) (by rfl))

theorem rev1_c (s : DC) : Con Tryd.prog 88 [V1 (.sl [[s]])] { v := .tup [] } := by
  refine con_intro (fn := Tryd.f88) tok Tryd.func88 (by kernel_rfl) rfl ?_
  intro w0 X
  rw [entry_mkE _ _ [(0, V1 (.sl [[s]]))] rfl rfl]
  refine AWP_reg_seq tok fun K hK => ?_
  refine s_move rfl rfl rfl ?_
  refine s_blt rfl (len_d (n := 1) rfl rfl rfl) rfl ?_
  refine s_bin rfl rfl rfl ?_
  refine s_assign rfl rfl rfl ?_
  refine s_assign rfl rfl rfl ?_
  refine s_end (hK _ ?_); clear hK K
  refine AWP_block (a_loop (α := Unit) (fun _ => mk 28 [(2, dI 0), (3, dI 0)] [] []) (fun _ => True) (fun _ => 0) () ?_ trivial ?_)
  · exact Wk.mk' ⟨rfl, rfl, trivial⟩ trivial
  rintro - -
  refine AWP_seq ?_
  refine AWP_reg_seq tok fun K hK => ?_
  refine s_move rfl rfl rfl ?_
  refine s_move rfl rfl rfl ?_
  refine s_bin rfl rfl rfl ?_
  refine s_end (hK _ ?_); clear hK K
  refine a_cond rfl (fun hc => by cases hc) (fun _ => ?_)
  refine AWP_exit ?_
  exact (fin_mk (by rfl) (by rfl) (by rfl) : Fin tab Tryd.f88 _ _)
theorem join1_c (s sep : ByteArray) : Con Tryd.prog 89 [V1 (.sl [[.lit (.string s)]]), V1 (.lit (.string sep))] { v := V1 (.lit (.string s)) } := by
  refine con_intro (fn := Tryd.f89) tok Tryd.func89 (by kernel_rfl) rfl ?_
  intro w0 X
  rw [entry_mkE _ _ [(0, V1 (.sl [[.lit (.string s)]])), (1, V1 (.lit (.string sep)))] rfl rfl]
  refine AWP_reg_seq tok fun K hK => ?_
  refine s_assign rfl rfl rfl ?_
  refine s_end (hK _ ?_); clear hK K
  refine AWP_seq ?_
  refine AWP_reg_seq tok fun K hK => ?_
  refine s_move rfl rfl rfl ?_
  refine s_blt rfl (len_d (n := 1) rfl rfl rfl) rfl ?_
  refine s_end (hK _ ?_); clear hK K
  refine AWP_block ?_
  refine AWP_reg_seq tok fun K hK => ?_
  refine s_bin rfl rfl rfl ?_
  refine s_assign rfl rfl rfl ?_
  refine s_end (hK _ ?_); clear hK K
  refine a_cond rfl (fun hc => by cases hc) (fun _ => ?_)
  refine AWP_reg_seq tok fun K hK => ?_
  refine s_bin rfl rfl rfl ?_
  refine s_assign rfl rfl rfl ?_
  refine s_end (hK _ ?_); clear hK K
  refine a_cond rfl (fun _ => ?_) (fun hc => by cases hc)
  refine AWP_reg_seq tok fun K hK => ?_
  refine s_move rfl rfl rfl ?_
  refine s_indexAddr rfl (x_d (i := 0) rfl rfl rfl rfl rfl rfl) rfl ?_
  refine s_load rfl rfl rfl ?_
  refine s_assign rfl rfl rfl ?_
  refine s_end (hK _ ?_); clear hK K
  refine AWP_ret ?_
  repeat (with_reducible refine tq_ret ?_)
  exact post_ret (fin_mk (by rfl) (by rfl) (by rfl))

theorem qOne_t (x : Int) (hx : zl x ≤ 536870912) : Con Tryd.prog 70 [AG (ZC x)] { v := dB (decide (x = 1)) } := by
  have c1 := iCmpZ_c x 1 hx (by decide)
  refine con_intro (fn := Tryd.f70) tok Tryd.func70 (by kernel_rfl) rfl ?_
  intro w0 X
  rw [entry_mkE _ _ [(0, AG (ZC x))] rfl rfl]
  refine AWP_reg_seq tok fun K hK => ?_
  refine s_box rfl rfl rfl rfl rfl rfl ?_
  refine s_assign rfl rfl rfl ?_
  refine s_end (hK _ ?_); clear hK K
  refine a_draw tok mixed (A := [[], [], [], [0, 1], []]) (an := [{}, {}, {}, {}, {}]) rfl (by kernel_rfl) rfl fun K hK => ?_
  refine s_load rfl rfl rfl ?_
  refine s_call rfl rfl (iOf_c 1 (by unfold I64; omega)) rfl rfl rfl rfl ?_
  refine s_call rfl rfl (c1) rfl rfl rfl rfl ?_
  refine s_bin rfl rfl rfl ?_
  refine s_assign rfl rfl rfl ?_
  refine s_end (hK _ ?_); clear hK K
  refine AWP_ret ?_
  repeat (with_reducible refine tq_ret ?_)
  exact post_ret (fin_mk (by rfl) (by rfl) (by rw [← zcmp_eq]; rfl))

def tabD : Tab := { tab with dat := fun _ => true }
theorem tokD : TOK Tryd.prog tabD := ⟨tok.ty, tok.clo, tok.eqs⟩
/-- The text of an integer below a hundred. -/
theorem iText_c (d : Nat) (hd : d < 100) : Con Tryd.prog 71 [AG (ZC d)] { v := V1 (sB (txL d)) } := by
  refine con_intro (fn := Tryd.f71) tokD Tryd.func71 (by kernel_rfl) rfl ?_
  intro w0 X
  rw [entry_mkE _ _ [(0, AG (ZC d))] rfl rfl]
  rcases Nat.eq_zero_or_pos d with h0 | h0
  · subst h0
    refine AWP_reg_seq tokD fun K hK => ?_
    refine s_box rfl rfl rfl rfl rfl rfl ?_
    refine s_assign rfl rfl rfl ?_
    refine s_end (hK _ ?_); clear hK K
    refine AWP_reg_seq tokD fun K hK => ?_
    refine s_fieldAddr rfl rfl rfl ?_
    refine s_load rfl rfl rfl ?_
    refine s_call rfl rfl (trimZ_c [] wOK.nil (by decide)) rfl rfl rfl rfl ?_
    refine s_call rfl rfl (clone_c [] (by decide)) rfl rfl rfl rfl ?_
    refine s_assign rfl rfl rfl ?_
    refine s_end (hK _ ?_); clear hK K
    refine AWP_seq ?_
    refine AWP_reg_seq tokD fun K hK => ?_
    refine s_move rfl rfl rfl ?_
    refine s_blt rfl (len_w rfl rfl rfl) rfl ?_
    refine s_bin rfl rfl rfl ?_
    refine s_end (hK _ ?_); clear hK K
    refine a_cond rfl (fun _ => ?_) (fun hc => by cases hc)
    refine AWP_reg_seq tokD fun K hK => ?_
    refine s_assign rfl rfl rfl ?_
    refine s_end (hK _ ?_); clear hK K
    refine AWP_ret ?_
    repeat (with_reducible refine tq_ret ?_)
    exact post_ret (fin_mk (by rfl) (by rfl) (by rfl))
  have hw : wof d = [d] := by
    have e : wv [d] = d := by simp [wv]
    rw [← e, ← trimW_eq (wOK.one (by omega))]
    exact trimW_one (by omega)
  have hz : ZC (d : Int) = IC false [d] := by unfold ZC; rw [Int.natAbs_natCast, hw, decide_eq_false (by omega)]
  have hok : wOK [d] := wOK.one (by omega)
  have hv : wv [d] = d := by simp [wv]
  have cs := short_c [d] 1000000000 hok (by decide) (by decide) (by simp)
  rw [hv, Nat.div_eq_of_lt (show d < 1000000000 by omega), Nat.mod_eq_of_lt (show d < 1000000000 by omega)] at cs
  have ct := trimZ_c (wfix [d].length 0) (wfix_ok _ _) (by simp [wfix])
  rw [wv_wfix, Nat.zero_mod] at ct
  have c0 := trimZ_c [d] hok (by simp)
  rw [hv, hw] at c0
  rw [hz]
  refine AWP_reg_seq tokD fun K hK => ?_
  refine s_box rfl rfl rfl rfl rfl rfl ?_
  refine s_assign rfl rfl rfl ?_
  refine s_end (hK _ ?_); clear hK K
  refine AWP_reg_seq tokD fun K hK => ?_
  refine s_fieldAddr rfl rfl rfl ?_
  refine s_load rfl rfl rfl ?_
  refine s_call rfl rfl (c0) rfl rfl rfl rfl ?_
  refine s_call rfl rfl (clone_c [d] (by simp)) rfl rfl rfl rfl ?_
  refine s_assign rfl rfl rfl ?_
  refine s_end (hK _ ?_); clear hK K
  refine AWP_seq ?_
  refine AWP_reg_seq tokD fun K hK => ?_
  refine s_move rfl rfl rfl ?_
  refine s_blt rfl (len_w rfl rfl rfl) rfl ?_
  refine s_bin rfl rfl rfl ?_
  refine s_end (hK _ ?_); clear hK K
  refine a_cond rfl (fun hc => by cases hc) (fun _ => ?_)
  refine AWP_skip ?_
  show AWP _ _ _ _ _ _
  refine AWP_reg_seq tokD fun K hK => ?_
  refine s_assign rfl rfl rfl ?_
  refine s_end (hK _ ?_); clear hK K
  refine AWP_seq ?_
  refine AWP_block (a_loop (α := Nat) (fun i => mk 49 [(1, .ptr 1 0), (3, V1 (dW ([d].drop i))), (4, ownN 4 1 i)] [(1, some (.box (IC false [d]))), (4, arrN 1 [[sB (txL d)]] i)] []) (fun i => i ≤ 1) (fun i => 1 - i) 0 ?_ (Nat.zero_le _) ?_)
  · exact Wk.mk' ⟨rfl, rfl, rfl, trivial⟩ ⟨rfl, rfl, trivial⟩
  intro i hi
  refine AWP_seq ?_
  rcases i with _ | i
  · refine AWP_reg_seq tokD fun K hK => ?_
    refine s_move rfl rfl rfl ?_
    refine s_blt rfl (len_w rfl rfl rfl) rfl ?_
    refine s_bin rfl rfl rfl ?_
    refine s_end (hK _ ?_); clear hK K
    refine a_cond rfl (fun _ => ?_) (fun hc => by cases hc)
    refine AWP_skip ?_
    show AWP _ _ _ _ _ _
    refine AWP_block ?_
    refine AWP_reg_seq tokD fun K hK => ?_
    refine s_assign rfl rfl rfl ?_
    refine s_end (hK _ ?_); clear hK K
    refine AWP_reg_seq tokD fun K hK => ?_
    refine s_move rfl rfl rfl ?_
    refine s_call rfl rfl (cs) rfl rfl rfl rfl ?_
    refine s_move rfl rfl rfl ?_
    refine s_extract rfl rfl rfl ?_
    refine s_extract rfl rfl rfl ?_
    refine s_assign rfl rfl rfl ?_
    refine s_assign rfl rfl rfl ?_
    refine s_end (hK _ ?_); clear hK K
    refine AWP_reg_seq tokD fun K hK => ?_
    refine s_move rfl rfl rfl ?_
    refine s_call rfl rfl (ct) rfl rfl rfl rfl ?_
    refine s_assign rfl rfl rfl ?_
    refine s_end (hK _ ?_); clear hK K
    refine AWP_reg_seq tokD fun K hK => ?_
    refine s_move rfl rfl rfl ?_
    refine s_conv rfl (e_conv rfl rfl rfl (by show IntKind.u64.wrap (d : Int) = (d : Int); rw [w_u64]; omega)) rfl ?_
    refine s_call rfl rfl (fmt_c d hd) rfl rfl rfl rfl ?_
    refine s_assign rfl rfl rfl ?_
    refine s_end (hK _ ?_); clear hK K
    refine AWP_seq ?_
    refine AWP_reg_seq tokD fun K hK => ?_
    refine s_move rfl rfl rfl ?_
    refine s_blt rfl (len_w rfl rfl rfl) rfl ?_
    refine s_bin rfl rfl rfl ?_
    refine s_end (hK _ ?_); clear hK K
    refine a_cond rfl (fun hc => by cases hc) (fun _ => ?_)
    refine AWP_skip ?_
    show AWP _ _ _ _ _ _
    refine AWP_reg tokD fun K hK => ?_
    refine s_move rfl rfl rfl ?_
    refine s_move rfl rfl rfl ?_
    refine s_buildSliceD rfl rfl rfl rfl ?_
    refine s_append rfl (ap_nil rfl rfl rfl rfl rfl (by decide) (Nat.le_of_ble_eq_true rfl) rfl (by simp) rfl (by simp) (by simp)) rfl rfl ?_
    refine s_assign rfl rfl rfl ?_
    refine s_end (hK _ ?_); clear hK K
    refine ⟨1, by omega, by omega, Wk.rn [1, 3, 4] [1, 39] 39 4 rfl rfl rfl ⟨rfl, rfl, rfl, trivial⟩ ⟨rfl, rfl, trivial⟩⟩
  · obtain rfl : i = 0 := by omega
    refine AWP_reg_seq tokD fun K hK => ?_
    refine s_move rfl rfl rfl ?_
    refine s_blt rfl (len_w rfl rfl rfl) rfl ?_
    refine s_bin rfl rfl rfl ?_
    refine s_end (hK _ ?_); clear hK K
    refine a_cond rfl (fun hc => by cases hc) (fun _ => ?_)
    refine AWP_exit ?_
    show AWP _ _ _ _ _ _
    refine AWP_seq ?_
    refine AWP_reg_seq tokD fun K hK => ?_
    refine s_fieldAddr rfl rfl rfl ?_
    refine s_load rfl rfl rfl ?_
    refine s_end (hK _ ?_); clear hK K
    refine a_cond rfl (fun hc => by cases hc) (fun _ => ?_)
    refine AWP_skip ?_
    show AWP _ _ _ _ _ _
    refine a_fz [4] [4] 4 [(4, V1 (.sl [[sB (txL d)]]))] [] rfl ?_ trivial ?_
    · exact ⟨frz_own rfl rfl, trivial⟩
    refine AWP_reg_seq tokD fun K hK => ?_
    refine s_move rfl rfl rfl ?_
    refine s_call rfl rfl (rev1_c (sB (txL d))) rfl rfl rfl rfl ?_
    refine s_end (hK _ ?_); clear hK K
    refine AWP_reg_seq tokD fun K hK => ?_
    refine s_move rfl rfl rfl ?_
    refine s_call rfl rfl (join1_c _ _) rfl rfl rfl rfl ?_
    refine s_assign rfl rfl rfl ?_
    refine s_end (hK _ ?_); clear hK K
    refine AWP_ret ?_
    repeat (with_reducible refine tq_ret ?_)
    exact post_ret (fin_mk (by rfl) (by rfl) (by rfl))
end Go.Proofs.YtipenembpidoiaaDoor

/- Numbers as text: negative ones, fractions. No condition. -/
namespace Go.Proofs.YtipenembpidoiaaDoor
attribute [local irreducible] lexA
open Go.RowKit

theorem ba_list (y : ByteArray) : (⟨y.data.toList.toArray⟩ : ByteArray) = y := by cases y; simp
theorem cell_heap {w : World} {b : Nat} {cs : Array Value} {E : TypeId} {fr : Nat × Nat} (h : w.heap[b]? = some (.cells cs E fr)) (i : Nat) : w.cell? ⟨b, i, none⟩ = cs[i]? := by
  simp [World.cell?, h]
theorem rev2_c : RevC Tryd.prog 88 := by
  refine ⟨⟨Tryd.f88, Tryd.func88, by kernel_rfl, rfl⟩, fun w b cap x y cs E hh h0 h1 => ?_⟩
  refine (sh_slices_Reverse_string_cells b 0 2 cap (fun i => if i = 0 then x else y) w (by decide) (fun i hi => ?_) (fun j _ => frozen_of_heap hh _)).mono fun e w' ⟨he, q, hw⟩ => ⟨he, w.drewN q, ⟨rfl, rfl, rfl, Nat.le_refl _, fun _ _ => rfl⟩, rfl, ?_⟩
  · rw [cell_heap hh]
    match i, hi with
    | 0, _ => exact h0
    | 1, _ => exact h1
  · rw [hw]
    have hh' : (w.drewN q).heap[b]? = some (.cells cs E (0, 0)) := hh
    show ((w.drewN q).setCell ⟨b, 0, none⟩ (.string ⟨y.data.toList.toArray⟩)).setCell ⟨b, 1, none⟩ (.string ⟨x.data.toList.toArray⟩) = _
    rw [ba_list, ba_list, setCell_row hh', setCell_row (setRow_heap hh' _), setRow_setRow hh']
theorem join2_c (x y : List UInt8) (hx : x.length ≤ 1000) (hy : y.length ≤ 1000) : Con Tryd.prog 89 [V1 (.sl [[sB x], [sB y]]), V1 (sB [])] { v := V1 (sB (x ++ y)) } := by
  refine ⟨⟨Tryd.f89, Tryd.func89, by kernel_rfl, rfl⟩, fun w X μ vs hX hl ha => ?_⟩
  obtain ⟨v0, e0, r0⟩ := ha 0 _ rfl
  obtain ⟨v1, e1, r1⟩ := ha 1 _ rfl
  obtain ⟨u0, u1, rfl⟩ : ∃ u0 u1, vs = [u0, u1] := by
    match vs, hl with
    | [u0, u1], _ => exact ⟨u0, u1, rfl⟩
  have r0 : RdC w X u0 (.sl [[sB x], [sB y]]) := by cases e0; exact r0
  have r1 : RdC w X u1 (sB []) := by cases e1; exact r1
  obtain rfl : u1 = .string ⟨#[]⟩ := by cases r1; rfl
  cases r0 with
  | sl gs hh hxx hlen hcap hs hv hr =>
    rename_i b off len cap sz cs E fr
    subst hlen
    have hsz : 1 = sz := hs 0 [sB x] rfl
    subst hsz
    have key : ∀ v s, RdC w X v (.lit (.string s)) → v = .string s := fun v s h => by cases h; rfl
    have g0 : gs 0 0 = .string ⟨x.toArray⟩ := key _ _ (hr 0 0 (sB x) rfl)
    have g1 : gs 1 0 = .string ⟨y.toArray⟩ := key _ _ (hr 1 0 (sB y) rfl)
    have v0 := hv 0 0 (sB x) rfl
    have v1 := hv 1 0 (sB y) rfl
    rw [g0] at v0
    rw [g1] at v1
    have hj : Lib.join ([(⟨x.toArray⟩ : ByteArray), ⟨y.toArray⟩].map (·.data.toList)) (⟨#[]⟩ : ByteArray).data.toList = x ++ y := by
      simp [Lib.join, List.intercalate]
    have := sh_strings_Join b off cap [⟨x.toArray⟩, ⟨y.toArray⟩] ⟨#[]⟩ w (fun j z hz => by
      rw [cell_heap hh]
      match j, hz with
      | 0, hz => cases hz; simpa using v0
      | 1, hz => cases hz; simpa using v1
      | j + 2, hz => cases hz) (lt_of_heap hh) (by simp) hcap (by rw [hj, List.length_append]; omega)
    rw [hj] at this
    exact this.mono fun e w' ⟨he, hb⟩ => ⟨_, he, hb, 0, fun _ _ h => (by cases h), RdC.lit rfl⟩
/-- The text of a negative integer above minus a hundred. -/
theorem iTextN_c (d : Nat) (h0 : 0 < d) (hd : d < 100) : Con Tryd.prog 71 [AG (ZC (-(d : Int)))] { v := V1 (sB (45 :: txL d)) } := by
  have ltx : (txL d).length ≤ 2 := by unfold txL; split <;> simp <;> omega
  refine con_intro (fn := Tryd.f71) tokD Tryd.func71 (by kernel_rfl) rfl ?_
  intro w0 X
  rw [entry_mkE _ _ [(0, AG (ZC (-(d : Int))))] rfl rfl]
  have hw : wof d = [d] := by
    have e : wv [d] = d := by simp [wv]
    rw [← e, ← trimW_eq (wOK.one (by omega))]
    exact trimW_one (by omega)
  have hz : ZC (-(d : Int)) = IC true [d] := by unfold ZC; rw [Int.natAbs_neg, Int.natAbs_natCast, hw, decide_eq_true (by omega)]
  have hok : wOK [d] := wOK.one (by omega)
  have hv : wv [d] = d := by simp [wv]
  have cs := short_c [d] 1000000000 hok (by decide) (by decide) (by simp)
  rw [hv, Nat.div_eq_of_lt (show d < 1000000000 by omega), Nat.mod_eq_of_lt (show d < 1000000000 by omega)] at cs
  have ct := trimZ_c (wfix [d].length 0) (wfix_ok _ _) (by simp [wfix])
  rw [wv_wfix, Nat.zero_mod] at ct
  have c0 := trimZ_c [d] hok (by simp)
  rw [hv, hw] at c0
  have cj := join2_c [45] (txL d) (by simp) (by omega)
  rw [hz]
  refine AWP_reg_seq tokD fun K hK => ?_
  refine s_box rfl rfl rfl rfl rfl rfl ?_
  refine s_assign rfl rfl rfl ?_
  refine s_end (hK _ ?_); clear hK K
  refine AWP_reg_seq tokD fun K hK => ?_
  refine s_fieldAddr rfl rfl rfl ?_
  refine s_load rfl rfl rfl ?_
  refine s_call rfl rfl (c0) rfl rfl rfl rfl ?_
  refine s_call rfl rfl (clone_c [d] (by simp)) rfl rfl rfl rfl ?_
  refine s_assign rfl rfl rfl ?_
  refine s_end (hK _ ?_); clear hK K
  refine AWP_seq ?_
  refine AWP_reg_seq tokD fun K hK => ?_
  refine s_move rfl rfl rfl ?_
  refine s_blt rfl (len_w rfl rfl rfl) rfl ?_
  refine s_bin rfl rfl rfl ?_
  refine s_end (hK _ ?_); clear hK K
  refine a_cond rfl (fun hc => by cases hc) (fun _ => ?_)
  refine AWP_skip ?_
  show AWP _ _ _ _ _ _
  refine AWP_reg_seq tokD fun K hK => ?_
  refine s_assign rfl rfl rfl ?_
  refine s_end (hK _ ?_); clear hK K
  refine AWP_seq ?_
  refine AWP_block (a_loop (α := Nat) (fun i => mk 49 [(1, .ptr 1 0), (3, V1 (dW ([d].drop i))), (4, ownN 4 1 i)] [(1, some (.box (IC true [d]))), (4, arrN 1 [[sB (txL d)]] i)] []) (fun i => i ≤ 1) (fun i => 1 - i) 0 ?_ (Nat.zero_le _) ?_)
  · exact Wk.mk' ⟨rfl, rfl, rfl, trivial⟩ ⟨rfl, rfl, trivial⟩
  intro i hi
  refine AWP_seq ?_
  rcases i with _ | i
  · refine AWP_reg_seq tokD fun K hK => ?_
    refine s_move rfl rfl rfl ?_
    refine s_blt rfl (len_w rfl rfl rfl) rfl ?_
    refine s_bin rfl rfl rfl ?_
    refine s_end (hK _ ?_); clear hK K
    refine a_cond rfl (fun _ => ?_) (fun hc => by cases hc)
    refine AWP_skip ?_
    show AWP _ _ _ _ _ _
    refine AWP_block ?_
    refine AWP_reg_seq tokD fun K hK => ?_
    refine s_assign rfl rfl rfl ?_
    refine s_end (hK _ ?_); clear hK K
    refine AWP_reg_seq tokD fun K hK => ?_
    refine s_move rfl rfl rfl ?_
    refine s_call rfl rfl (cs) rfl rfl rfl rfl ?_
    refine s_move rfl rfl rfl ?_
    refine s_extract rfl rfl rfl ?_
    refine s_extract rfl rfl rfl ?_
    refine s_assign rfl rfl rfl ?_
    refine s_assign rfl rfl rfl ?_
    refine s_end (hK _ ?_); clear hK K
    refine AWP_reg_seq tokD fun K hK => ?_
    refine s_move rfl rfl rfl ?_
    refine s_call rfl rfl (ct) rfl rfl rfl rfl ?_
    refine s_assign rfl rfl rfl ?_
    refine s_end (hK _ ?_); clear hK K
    refine AWP_reg_seq tokD fun K hK => ?_
    refine s_move rfl rfl rfl ?_
    refine s_conv rfl (e_conv rfl rfl rfl (by show IntKind.u64.wrap (d : Int) = (d : Int); rw [w_u64]; omega)) rfl ?_
    refine s_call rfl rfl (fmt_c d hd) rfl rfl rfl rfl ?_
    refine s_assign rfl rfl rfl ?_
    refine s_end (hK _ ?_); clear hK K
    refine AWP_seq ?_
    refine AWP_reg_seq tokD fun K hK => ?_
    refine s_move rfl rfl rfl ?_
    refine s_blt rfl (len_w rfl rfl rfl) rfl ?_
    refine s_bin rfl rfl rfl ?_
    refine s_end (hK _ ?_); clear hK K
    refine a_cond rfl (fun hc => by cases hc) (fun _ => ?_)
    refine AWP_skip ?_
    show AWP _ _ _ _ _ _
    refine AWP_reg tokD fun K hK => ?_
    refine s_move rfl rfl rfl ?_
    refine s_move rfl rfl rfl ?_
    refine s_buildSliceD rfl rfl rfl rfl ?_
    refine s_append rfl (ap_nil rfl rfl rfl rfl rfl (by decide) (Nat.le_of_ble_eq_true rfl) rfl (by simp) rfl (by simp) (by simp)) rfl rfl ?_
    refine s_assign rfl rfl rfl ?_
    refine s_end (hK _ ?_); clear hK K
    refine ⟨1, by omega, by omega, Wk.rn [1, 3, 4] [1, 39] 39 4 rfl rfl rfl ⟨rfl, rfl, rfl, trivial⟩ ⟨rfl, rfl, trivial⟩⟩
  · obtain rfl : i = 0 := by omega
    refine AWP_reg_seq tokD fun K hK => ?_
    refine s_move rfl rfl rfl ?_
    refine s_blt rfl (len_w rfl rfl rfl) rfl ?_
    refine s_bin rfl rfl rfl ?_
    refine s_end (hK _ ?_); clear hK K
    refine a_cond rfl (fun hc => by cases hc) (fun _ => ?_)
    refine AWP_exit ?_
    show AWP _ _ _ _ _ _
    refine a_join (α := Unit) (fun _ => mk 49 [(4, .val (.one (.own 4 1 0 2)))] [(4, some (.arr 1 [[sB (txL d)], [sB [45]]]))] []) (fun _ => True) ?_ ?_
    · refine AWP_reg_seq tokD fun K hK => ?_
      refine s_fieldAddr rfl rfl rfl ?_
      refine s_load rfl rfl rfl ?_
      refine s_end (hK _ ?_); clear hK K
      refine a_cond rfl (fun _ => ?_) (fun hc => by cases hc)
      refine AWP_reg tokD fun K hK => ?_
      refine s_move rfl rfl rfl ?_
      refine s_buildSliceD rfl rfl rfl rfl ?_
      refine s_append rfl (ap_o rfl rfl rfl rfl rfl rfl (by decide) (Nat.le_of_ble_eq_true rfl) rfl (by simp) rfl rfl rfl (by simp)) rfl rfl ?_
      refine s_assign rfl rfl rfl ?_
      refine s_end (hK _ ?_); clear hK K
      exact ⟨(), trivial, Wk.rn [4] [44] 44 4 rfl rfl rfl ⟨rfl, trivial⟩ ⟨rfl, trivial⟩⟩
    rintro - -
    refine AWP_regW_seq fun K hK => ?_
    refine w_step tokD rfl ?_
    refine s_move rfl rfl rfl ?_
    refine s_end ?_
    refine w_rev (x := ⟨(txL d).toArray⟩) (y := ⟨[45].toArray⟩) rev2_c rfl rfl rfl ?_
    refine w_end rfl (hK _ ?_); clear hK K
    refine a_fz [4] [4] 4 [(4, V1 (.sl [[sB [45]], [sB (txL d)]]))] [] rfl ?_ trivial ?_
    · exact ⟨frz_own rfl rfl, trivial⟩
    refine AWP_reg_seq tokD fun K hK => ?_
    refine s_move rfl rfl rfl ?_
    refine s_call rfl rfl (cj) rfl rfl rfl rfl ?_
    refine s_assign rfl rfl rfl ?_
    refine s_end (hK _ ?_); clear hK K
    refine AWP_ret ?_
    repeat (with_reducible refine tq_ret ?_)
    exact post_ret (fin_mk (by rfl) (by rfl) (by rfl))

/-- The text of an integer of few digits. -/
def ztx (z : Int) : List UInt8 := if z < 0 then 45 :: txL z.natAbs else txL z.natAbs
theorem iTextZ_c (z : Int) (h : -100 < z ∧ z < 100) : Con Tryd.prog 71 [AG (ZC z)] { v := V1 (sB (ztx z)) } := by
  unfold ztx
  split
  · have e : z = -((z.natAbs : Nat) : Int) := by omega
    have := iTextN_c z.natAbs (by omega) (by omega)
    rw [← e] at this; exact this
  · have e : z = ((z.natAbs : Nat) : Int) := by omega
    have := iText_c z.natAbs (by omega)
    rw [← e] at this; exact this
def qtx (q : Rat) : List UInt8 := if q.den = 1 then ztx q.num else ztx q.num ++ [47] ++ ztx q.den
theorem ztx_len (z : Int) : (ztx z).length ≤ 3 := by
  have h : ∀ d, (txL d).length ≤ 2 := fun d => by unfold txL; split <;> simp <;> omega
  unfold ztx; split
  · have := h z.natAbs; simp; omega
  · have := h z.natAbs; omega
theorem e_addS {T : Tab} {t : TypeId} (a b : List UInt8) (h : a.length + b.length ≤ 1000) : effBin T .add t (V1 (sB a)) (V1 (sB b)) = .set (V1 (sB (a ++ b))) := by
  have hb : binA .add (.string ⟨a.toArray⟩) (.string ⟨b.toArray⟩) = some (.string ⟨(a ++ b).toArray⟩) := by
    have e1 : (ByteArray.mk a.toArray).size = a.length := by simp [ByteArray.size]
    have e2 : (ByteArray.mk b.toArray).size = b.length := by simp [ByteArray.size]
    simp only [binA]
    rw [if_pos (by rw [e1, e2]; omega)]
    congr 2
  simp only [effBin, litOf, hb]; rfl
theorem qText_t (a : RW) (ok : a.OK 16777216) (hn : -100 < a.v.num ∧ a.v.num < 100) (hd : (a.v.den : Int) < 100) : Con Tryd.prog 43 [AG a.cs] { v := V1 (sB (qtx a.v)) } := by
  have c1 := qNorm_t a ok
  have h1 := ok.ql rfl
  generalize a.v = x at *
  have c2 := qOne_t (x.den : Int) (le_d (ql_den_le h1) rfl)
  have c3 := iTextZ_c x.num hn
  have c4 := iTextZ_c (x.den : Int) (by omega)
  have l1 := ztx_len x.num
  have l2 := ztx_len (x.den : Int)
  refine con_intro (fn := Tryd.f43) tokD Tryd.func43 (by kernel_rfl) rfl ?_
  intro w0 X
  rw [entry_mkE _ _ [(0, AG a.cs)] rfl rfl]
  refine AWP_reg_seq tokD fun K hK => ?_
  refine s_box rfl rfl rfl rfl rfl rfl ?_
  refine s_assign rfl rfl rfl ?_
  refine s_end (hK _ ?_); clear hK K
  refine AWP_reg_seq tokD fun K hK => ?_
  refine s_load rfl rfl rfl ?_
  refine s_call rfl rfl (c1) rfl rfl rfl rfl ?_
  refine s_store rfl rfl rfl rfl rfl ?_
  refine s_end (hK _ ?_); clear hK K
  refine AWP_seq ?_
  refine AWP_reg_seq tokD fun K hK => ?_
  refine s_fieldAddr rfl rfl rfl ?_
  refine s_load rfl rfl rfl ?_
  refine s_call rfl rfl (c2) rfl rfl rfl rfl ?_
  refine s_end (hK _ ?_); clear hK K
  refine a_cond rfl (fun hc => ?_) (fun hc => ?_)
  · have hc : x.den = 1 := by have := of_decide_eq_true hc; omega
    refine AWP_reg_seq tokD fun K hK => ?_
    refine s_fieldAddr rfl rfl rfl ?_
    refine s_load rfl rfl rfl ?_
    refine s_call rfl rfl (c3) rfl rfl rfl rfl ?_
    refine s_assign rfl rfl rfl ?_
    refine s_end (hK _ ?_); clear hK K
    refine AWP_ret ?_
    repeat (with_reducible refine tq_ret ?_)
    exact post_ret (fin_mk (by rfl) (by rfl) (by unfold qtx; rw [if_pos hc]; rfl))
  · have hc : ¬ x.den = 1 := by have := of_decide_eq_false hc; omega
    refine AWP_skip ?_
    show AWP _ _ _ _ _ _
    refine a_draw tokD mixed (A := [[], [], [0], [0, 1], [], [], [0, 1, 4], [0, 1, 2, 4, 5], []]) (an := [{}, {}, {}, {}, { c := [13] }, { c := [13] }, {}, {}, {}]) rfl (by kernel_rfl) rfl fun K hK => ?_
    refine s_fieldAddr rfl rfl rfl ?_
    refine s_load rfl rfl rfl ?_
    refine s_call rfl rfl (c3) rfl rfl rfl rfl ?_
    refine s_bin rfl (e_addS _ [47] (by simp; omega)) rfl ?_
    refine s_fieldAddr rfl rfl rfl ?_
    refine s_load rfl rfl rfl ?_
    refine s_call rfl rfl (c4) rfl rfl rfl rfl ?_
    refine s_bin rfl (e_addS _ _ (by simp; omega)) rfl ?_
    refine s_assign rfl rfl rfl ?_
    refine s_end (hK _ ?_); clear hK K
    refine AWP_ret ?_
    repeat (with_reducible refine tq_ret ?_)
    exact post_ret (fin_mk (by rfl) (by rfl) (by unfold qtx; rw [if_neg hc]; rfl))
end Go.Proofs.YtipenembpidoiaaDoor

/- Law 3: guards; fixed calls. No condition. -/
namespace Go.Proofs.YtipenembpidoiaaDoor
attribute [local irreducible] lexA

def few3 (w : List Nat) : Bool := decide (w.length ≤ 12)
def small3 (r : RW) : Bool := few3 r.wp && few3 r.wq
theorem small3_ok {r : RW} (h : small3 r = true) (hw : r.W) : r.OK 12 := by
  rw [small3, Bool.and_eq_true, few3, few3, decide_eq_true_eq, decide_eq_true_eq] at h
  exact ⟨hw.1, hw.2, h.1, h.2⟩
def light3 (t : TR) : Bool := small3 t.r && (small3 t.x && small3 t.y)
theorem light3_ok {t : TR} (h : light3 t = true) (hw : t.W) : t.OK 12 := by
  rw [light3, Bool.and_eq_true, Bool.and_eq_true] at h
  exact ⟨small3_ok h.1 hw.1, small3_ok h.2.1 hw.2.1, small3_ok h.2.2 hw.2.2⟩
theorem e_leL {n : Nat} {T : Tab} {t : TypeId} {m : Int} {k : Nat} (hm : m = (k : Int)) : effBin T .leq t (dI n) (dI m) = .set (dB (decide (n ≤ k))) := by
  subst hm
  show Eff.set (dB (decide ((n : Int) ≤ (k : Int)))) = _
  rw [show decide ((n : Int) ≤ (k : Int)) = decide (n ≤ k) from decide_eq_decide.2 (by omega)]
theorem e_eqS {T : Tab} {t : TypeId} (a : ByteArray) : effBin T .eql t (V1 (.lit (.string a))) (V1 (.lit (.string a))) = .set (dB true) := by
  show Eff.set (dB (a.toList == a.toList)) = _
  rw [beq_self_eq_true]
theorem few3_c (n : Bool) (w : List Nat) : Con Tryd.prog 62 [AG (IC n w)] { v := dB (few3 w) } := by
  refine con_intro (fn := Tryd.f62) tok Tryd.func62 (by kernel_rfl) rfl ?_
  intro w0 X
  rw [entry_mkE _ _ [(0, AG (IC n w))] rfl rfl]
  refine AWP_reg_seq tok fun K hK => ?_
  refine s_box rfl rfl rfl rfl rfl rfl ?_
  refine s_assign rfl rfl rfl ?_
  refine s_end (hK _ ?_); clear hK K
  refine AWP_reg_seq tok fun K hK => ?_
  refine s_fieldAddr rfl rfl rfl ?_
  refine s_load rfl rfl rfl ?_
  refine s_blt rfl (len_w rfl rfl rfl) rfl ?_
  refine s_bin rfl (e_leL (k := 12) rfl) rfl ?_
  refine s_assign rfl rfl rfl ?_
  refine s_end (hK _ ?_); clear hK K
  refine AWP_ret ?_
  repeat (with_reducible refine tq_ret ?_)
  exact post_ret (fin_mk (by rfl) (by rfl) (by rfl))
theorem small3_c (r : RW) : Con Tryd.prog 24 [AG r.cs] { v := dB (small3 r) } := by
  refine con_intro (fn := Tryd.f24) tok Tryd.func24 (by kernel_rfl) rfl ?_
  intro w0 X
  rw [entry_mkE _ _ [(0, AG r.cs)] rfl rfl]
  refine AWP_reg_seq tok fun K hK => ?_
  refine s_box rfl rfl rfl rfl rfl rfl ?_
  refine s_assign rfl rfl rfl ?_
  refine s_end (hK _ ?_); clear hK K
  refine AWP_reg_seq tok fun K hK => ?_
  refine s_fieldAddr rfl rfl rfl ?_
  refine s_load rfl rfl rfl ?_
  refine s_call rfl rfl (few3_c r.np r.wp) rfl rfl rfl rfl ?_
  refine s_move rfl rfl rfl ?_
  refine s_split (fun h => ?_) (fun h => ?_)
  · refine s_fieldAddr rfl rfl rfl ?_
    refine s_load rfl rfl rfl ?_
    refine s_call rfl rfl (few3_c r.nq r.wq) rfl rfl rfl rfl ?_
    refine s_pick rfl rfl rfl ?_
    refine s_assign rfl rfl rfl ?_
    refine s_end (hK _ ?_); clear hK K
    refine AWP_ret ?_
    repeat (with_reducible refine tq_ret ?_)
    exact post_ret (fin_mk (by rfl) (by rfl) (by rw [small3, h, Bool.true_and]; rfl))
  · refine s_skip rfl ?_
    refine s_skip rfl ?_
    refine s_skip rfl ?_
    refine s_pick rfl rfl rfl ?_
    refine s_assign rfl rfl rfl ?_
    refine s_end (hK _ ?_); clear hK K
    refine AWP_ret ?_
    repeat (with_reducible refine tq_ret ?_)
    exact post_ret (fin_mk (by rfl) (by rfl) (by rw [small3, h, Bool.false_and]; rfl))

theorem short3_c (r : RW) : Con Tryd.prog 34 [AG r.cs] { v := dB (small3 r) } := by
  refine con_intro (fn := Tryd.f34) tok Tryd.func34 (by kernel_rfl) rfl ?_
  intro w0 X
  rw [entry_mkE _ _ [(0, AG r.cs)] rfl rfl]
  refine AWP_reg_seq tok fun K hK => ?_
  refine s_box rfl rfl rfl rfl rfl rfl ?_
  refine s_assign rfl rfl rfl ?_
  refine s_end (hK _ ?_); clear hK K
  refine AWP_reg_seq tok fun K hK => ?_
  refine s_fieldAddr rfl rfl rfl ?_
  refine s_load rfl rfl rfl ?_
  refine s_call rfl rfl (few3_c r.np r.wp) rfl rfl rfl rfl ?_
  refine s_move rfl rfl rfl ?_
  refine s_split (fun h => ?_) (fun h => ?_)
  · refine s_fieldAddr rfl rfl rfl ?_
    refine s_load rfl rfl rfl ?_
    refine s_call rfl rfl (few3_c r.nq r.wq) rfl rfl rfl rfl ?_
    refine s_pick rfl rfl rfl ?_
    refine s_assign rfl rfl rfl ?_
    refine s_end (hK _ ?_); clear hK K
    refine AWP_ret ?_
    repeat (with_reducible refine tq_ret ?_)
    exact post_ret (fin_mk (by rfl) (by rfl) (by rw [small3, h, Bool.true_and]; rfl))
  · refine s_skip rfl ?_
    refine s_skip rfl ?_
    refine s_skip rfl ?_
    refine s_pick rfl rfl rfl ?_
    refine s_assign rfl rfl rfl ?_
    refine s_end (hK _ ?_); clear hK K
    refine AWP_ret ?_
    repeat (with_reducible refine tq_ret ?_)
    exact post_ret (fin_mk (by rfl) (by rfl) (by rw [small3, h, Bool.false_and]; rfl))

theorem light3_c (t : TR) : Con Tryd.prog 33 [AG t.cs] { v := dB (light3 t) } := by
  refine con_intro (fn := Tryd.f33) tok Tryd.func33 (by kernel_rfl) rfl ?_
  intro w0 X
  rw [entry_mkE _ _ [(0, AG t.cs)] rfl rfl]
  refine AWP_reg_seq tok fun K hK => ?_
  refine s_box rfl rfl rfl rfl rfl rfl ?_
  refine s_assign rfl rfl rfl ?_
  refine s_end (hK _ ?_); clear hK K
  refine AWP_reg_seq tok fun K hK => ?_
  refine s_fieldAddr rfl rfl rfl ?_
  refine s_load rfl rfl rfl ?_
  refine s_call rfl rfl (small3_c t.r) rfl rfl rfl rfl ?_
  refine s_move rfl rfl rfl ?_
  refine s_split (fun h => ?_) (fun h => ?_)
  · refine s_fieldAddr rfl rfl rfl ?_
    refine s_load rfl rfl rfl ?_
    refine s_call rfl rfl (short3_c t.x) rfl rfl rfl rfl ?_
    refine s_pick rfl rfl rfl ?_
    refine s_move rfl rfl rfl ?_
    refine s_split (fun h2 => ?_) (fun h2 => ?_)
    · refine s_fieldAddr rfl rfl rfl ?_
      refine s_load rfl rfl rfl ?_
      refine s_call rfl rfl (short3_c t.y) rfl rfl rfl rfl ?_
      refine s_pick rfl rfl rfl ?_
      refine s_assign rfl rfl rfl ?_
      refine s_end (hK _ ?_); clear hK K
      refine AWP_ret ?_
      repeat (with_reducible refine tq_ret ?_)
      exact post_ret (fin_mk (by rfl) (by rfl) (by rw [light3, h, h2, Bool.true_and, Bool.true_and]; rfl))
    · refine s_skip rfl ?_
      refine s_skip rfl ?_
      refine s_skip rfl ?_
      refine s_pick rfl rfl rfl ?_
      refine s_assign rfl rfl rfl ?_
      refine s_end (hK _ ?_); clear hK K
      refine AWP_ret ?_
      repeat (with_reducible refine tq_ret ?_)
      exact post_ret (fin_mk (by rfl) (by rfl) (by rw [light3, h, h2]; rfl))
  · refine s_skip rfl ?_
    refine s_skip rfl ?_
    refine s_skip rfl ?_
    refine s_pick rfl rfl rfl ?_
    refine s_move rfl rfl rfl ?_
    refine s_skip rfl ?_
    refine s_skip rfl ?_
    refine s_skip rfl ?_
    refine s_pick rfl rfl rfl ?_
    refine s_assign rfl rfl rfl ?_
    refine s_end (hK _ ?_); clear hK K
    refine AWP_ret ?_
    repeat (with_reducible refine tq_ret ?_)
    exact post_ret (fin_mk (by rfl) (by rfl) (by rw [light3, h]; rfl))

theorem awake3_c : Con Tryd.prog 23 [] { v := dB true } := by
  have i1 : I64 (-2) := by unfold I64; omega
  have i2 : I64 (-4) := by unfold I64; omega
  have i3 : I64 4 := by unfold I64; omega
  have i4 : I64 3 := by unfold I64; omega
  have i5 : I64 5 := by unfold I64; omega
  have i0 : I64 0 := by unfold I64; omega
  have i6 : I64 1 := by unfold I64; omega
  have g1 : gc (-2, -4) = (1, 2) := by decide +kernel
  have g2 : gc (gm (1, 2) (1, 2)) = (4, 3) := by decide +kernel
  have g3 : gc ((4 : Int), (3 : Int)) = (4, 3) := by decide +kernel
  have g4 : gc ((1 : Int), (2 : Int)) = (1, 2) := by decide +kernel
  have k1 : cs2 ((4 : Int), (3 : Int)) = (-7 : Rat) / 25 := by unfold cs2; simp only; rw [show (3 : Int) * 3 - 4 * 4 = -7 from rfl, show (3 : Int) * 3 + 4 * 4 = 25 from rfl]; rfl
  have k2 : tnX ((1 : Int), (2 : Int)) 5 0 = 3 := by unfold tnX cs2 sn2; simp only; rw [show (2 : Int) * 2 - 1 * 1 = 3 from rfl, show (2 : Int) * 2 + 1 * 1 = 5 from rfl]; grind
  have k3 : tnY ((1 : Int), (2 : Int)) 5 0 = 4 := by unfold tnY cs2 sn2; simp only; rw [show (2 : Int) * 1 + 1 * 2 = 4 from rfl, show (2 : Int) * 2 + 1 * 1 = 5 from rfl]; grind
  have c1 := tOf_t (-2) (-4) i1 i2
  rw [g1] at c1
  have o1 : (pz2 (1, 2)).OK 12 := pz2_ok ⟨by decide, by decide⟩
  have o2 : (pz2 (4, 3)).OK 12 := pz2_ok ⟨by decide, by decide⟩
  have c2 := tThen_t (pz2 (1, 2)) (pz2 (1, 2)) (o1.mono rfl) (o1.mono rfl)
  rw [pz2_cn, g4, g2] at c2
  have c3 : Con Tryd.prog 15 [dI 5, dI 1] { v := AG (qzW 5).cs } := qOf_c 5 1 i5 i6
  have c4 : Con Tryd.prog 15 [dI 0, dI 1] { v := AG (qzW 0).cs } := qOf_c 0 1 i0 i6
  have q5 : (qzW (5 : Rat)).OK 12 := qzW_ok (by decide +kernel)
  have q0 : (qzW (0 : Rat)).OK 12 := qzW_ok (by decide +kernel)
  have c5 := tTurn_t (pz2 (1, 2)) (qzW 5) (qzW 0) (o1.mono rfl) (q5.mono rfl) (q0.mono rfl)
  rw [pz2_cn, g4, qzW_v, qzW_v, k2, k3] at c5
  have c6 := tOf_t 4 3 i3 i4
  rw [g3] at c6
  have c7 := tSame_t (pz2 (4, 3)) (pz2 (4, 3)) (o2.mono rfl) (o2.mono rfl)
  rw [decide_eq_true rfl] at c7
  have c8 := tSame_t (pz2 (1, 2)) (pz2 (4, 3)) (o1.mono rfl) (o2.mono rfl)
  rw [pz2_cn, pz2_cn, g3, g4, decide_eq_false (by decide)] at c8
  have c9 := tCos_t (pz2 (4, 3)) (o2.mono rfl)
  rw [pz2_cn, g3, k1] at c9
  have t1 := qText_t (qzW ((-7 : Rat) / 25)) (qzW_ok (by decide +kernel)) (by rw [qzW_v]; decide +kernel) (by rw [qzW_v]; decide +kernel)
  have t2 := qText_t (qzW 3) (qzW_ok (by decide +kernel)) (by rw [qzW_v]; decide +kernel) (by rw [qzW_v]; decide +kernel)
  have t3 := qText_t (qzW 4) (qzW_ok (by decide +kernel)) (by rw [qzW_v]; decide +kernel) (by rw [qzW_v]; decide +kernel)
  rw [qzW_v, show qtx ((-7 : Rat) / 25) = [45, 55, 47, 50, 53] by decide +kernel] at t1
  rw [qzW_v, show qtx (3 : Rat) = [51] by decide +kernel] at t2
  rw [qzW_v, show qtx (4 : Rat) = [52] by decide +kernel] at t3
  have l1 : wof (1 : Int).natAbs = [1] := by decide
  generalize hA : qzW ((-7 : Rat) / 25) = A at *
  generalize qzW (3 : Rat) = B at *
  generalize qzW (4 : Rat) = C at *
  generalize qzW (5 : Rat) = D at *
  generalize qzW (0 : Rat) = F at *
  generalize pz2 (4, 3) = b at *
  obtain ⟨np, wp, nq, wq, hr⟩ : ∃ np wp nq wq, pz2 (1, 2) = ⟨np, wp, nq, wq⟩ := ⟨_, _, _, _, rfl⟩
  have hwp : wp = [1] := by
    have : (pz2 (1, 2)).wp = [1] := l1
    rw [hr] at this; exact this
  subst hwp
  rw [hr] at c1 c2 c5 c8
  refine con_intro (fn := Tryd.f23) tok Tryd.func23 (by kernel_rfl) rfl ?_
  intro w0 X
  rw [entry_mkE _ _ [] rfl rfl]
  refine AWP_reg_seq tok fun K hK => ?_
  refine s_assign rfl rfl rfl ?_
  refine s_end (hK _ ?_); clear hK K
  refine AWP_reg_seq tok fun K hK => ?_
  refine s_call rfl rfl (c1) rfl rfl rfl rfl ?_
  refine s_alloc rfl rfl rfl rfl rfl rfl ?_
  refine s_store rfl rfl rfl rfl rfl ?_
  refine s_end (hK _ ?_); clear hK K
  refine AWP_reg_seq tok fun K hK => ?_
  refine s_load rfl rfl rfl ?_
  refine s_load rfl rfl rfl ?_
  refine s_call rfl rfl (c2) rfl rfl rfl rfl ?_
  refine s_alloc rfl rfl rfl rfl rfl rfl ?_
  refine s_store rfl rfl rfl rfl rfl ?_
  refine s_end (hK _ ?_); clear hK K
  refine a_draw tok mixed (A := [[], [], [], [], [0, 1, 2], [0, 1, 2, 3], [0, 1, 2, 3], [], [], [], []]) (an := [{}, {}, {}, {}, {}, {}, {}, { c := [11, 12, 13] }, { c := [11, 12, 13, 3] }, {}, {}]) rfl (by kernel_rfl) rfl fun K hK => ?_
  refine s_load rfl rfl rfl ?_
  refine s_call rfl rfl (c3) rfl rfl rfl rfl ?_
  refine s_call rfl rfl (c4) rfl rfl rfl rfl ?_
  refine s_call rfl rfl (c5) rfl rfl rfl rfl ?_
  refine s_move rfl rfl rfl ?_
  refine s_extract rfl rfl rfl ?_
  refine s_extract rfl rfl rfl ?_
  refine s_alloc rfl rfl rfl rfl rfl rfl ?_
  refine s_alloc rfl rfl rfl rfl rfl rfl ?_
  refine s_store rfl rfl rfl rfl rfl ?_
  refine s_store rfl rfl rfl rfl rfl ?_
  refine s_end (hK _ ?_); clear hK K
  refine a_draw tok mixed (A := [[], [], [0], [0, 1], [0, 1, 2], [0, 1, 2, 3], [0, 1, 2, 3, 4], [0, 1, 2, 3, 4], [0, 1, 2, 3, 4, 6], [0, 1, 2, 3, 4, 6, 7], [0, 1, 2, 3, 4, 6, 7, 8], [0, 1, 2, 3, 4, 6, 7, 8, 9], [0, 1, 2, 3, 4, 6, 7, 8, 9, 10], [0, 1, 2, 3, 4, 6, 7, 8, 9, 10, 11], [0, 1, 2, 3, 4, 5, 6, 7, 8, 9, 10, 11, 12], [0, 1, 2, 3, 4, 5, 6, 7, 8, 9, 10, 11, 12], [0, 1, 2, 3, 4, 5, 6, 7, 8, 9, 10, 11, 12], [0, 1, 2, 3, 4, 5, 6, 7, 8, 9, 10, 11, 12, 14, 15], [0, 1, 2, 3, 4, 5, 6, 7, 8, 9, 10, 11, 12, 13, 14, 15], [0, 1, 2, 3, 4, 5, 6, 7, 8, 9, 10, 11, 12, 13, 14, 15, 16, 17], [0, 1, 2, 3, 4, 5, 6, 7, 8, 9, 10, 11, 12, 13, 14, 15, 16, 17], [0, 1, 2, 3, 4, 5, 6, 7, 8, 9, 10, 11, 12, 13, 14, 15, 16, 17], [0, 1, 2, 3, 4, 5, 6, 7, 8, 9, 10, 11, 12, 13, 14, 15, 16, 17, 19, 20], [0, 1, 2, 3, 4, 5, 6, 7, 8, 9, 10, 11, 12, 13, 14, 15, 16, 17, 19, 20, 21], [0, 1, 2, 3, 4, 5, 6, 7, 8, 9, 10, 11, 12, 13, 14, 15, 16, 17, 18, 19, 20, 22], [0, 1, 2, 3, 4, 5, 6, 7, 8, 9, 10, 11, 12, 13, 14, 15, 16, 17, 18, 19, 20, 21, 22, 23], [0, 1, 2, 3, 4, 5, 6, 7, 8, 9, 10, 11, 12, 13, 14, 15, 16, 17, 18, 19, 20, 21, 22, 23], [0, 1, 2, 3, 4, 5, 6, 7, 8, 9, 10, 11, 12, 13, 14, 15, 16, 17, 18, 19, 20, 21, 22, 23, 25], [0, 1, 2, 3, 4, 5, 6, 7, 8, 9, 10, 11, 12, 13, 14, 15, 16, 17, 18, 19, 20, 21, 22, 23, 25, 26], [0, 1, 2, 3, 4, 5, 6, 7, 8, 9, 10, 11, 12, 13, 14, 15, 16, 17, 18, 19, 20, 21, 22, 23, 25, 26, 27], [0, 1, 2, 3, 4, 5, 6, 7, 8, 9, 10, 11, 12, 13, 14, 15, 16, 17, 18, 19, 20, 21, 22, 23, 24, 25, 26, 28], [0, 1, 2, 3, 4, 5, 6, 7, 8, 9, 10, 11, 12, 13, 14, 15, 16, 17, 18, 19, 20, 21, 22, 23, 24, 25, 26, 27, 28, 29], [0, 1, 2, 3, 4, 5, 6, 7, 8, 9, 10, 11, 12, 13, 14, 15, 16, 17, 18, 19, 20, 21, 22, 23, 24, 25, 26, 27, 28, 29], [0, 1, 2, 3, 4, 5, 6, 7, 8, 9, 10, 11, 12, 13, 14, 15, 16, 17, 18, 19, 20, 21, 22, 23, 24, 25, 26, 27, 28, 29, 31], [0, 1, 2, 3, 4, 5, 6, 7, 8, 9, 10, 11, 12, 13, 14, 15, 16, 17, 18, 19, 20, 21, 22, 23, 24, 25, 26, 27, 28, 29, 31, 32], [0, 1, 2, 3, 4, 5, 6, 7, 8, 9, 10, 11, 12, 13, 14, 15, 16, 17, 18, 19, 20, 21, 22, 23, 24, 25, 26, 27, 28, 29, 30, 31, 33], [0, 1, 2, 3, 4, 5, 6, 7, 8, 9, 10, 11, 12, 13, 14, 15, 16, 17, 18, 19, 20, 21, 22, 23, 24, 25, 26, 27, 28, 29, 30, 31, 32, 33, 34], [0, 1, 2, 3, 4, 5, 6, 7, 8, 9, 10, 11, 12, 13, 14, 15, 16, 17, 18, 19, 20, 21, 22, 23, 24, 25, 26, 27, 28, 29, 30, 31, 32, 33, 34], [0, 1, 2, 3, 4, 5, 6, 7, 8, 9, 10, 11, 12, 13, 14, 15, 16, 17, 18, 19, 20, 21, 22, 23, 24, 25, 26, 27, 28, 29, 30, 31, 32, 33, 34, 36], [0, 1, 2, 3, 4, 5, 6, 7, 8, 9, 10, 11, 12, 13, 14, 15, 16, 17, 18, 19, 20, 21, 22, 23, 24, 25, 26, 27, 28, 29, 30, 31, 32, 33, 34, 36, 37], []]) (an := [{}, {}, {}, {}, {}, {}, {}, {}, {}, {}, {}, {}, {}, {}, {}, {}, {}, {}, {}, {}, {}, {}, {}, {}, {}, {}, {}, {}, {}, {}, {}, {}, {}, {}, {}, {}, {}, {}, {}, {}, {}]) rfl (by kernel_rfl) rfl fun K hK => ?_
  refine s_fieldAddr rfl rfl rfl ?_
  refine s_fieldAddr rfl rfl rfl ?_
  refine s_load rfl rfl rfl ?_
  refine s_blt rfl (len_w rfl rfl rfl) rfl ?_
  refine s_bin rfl rfl rfl ?_
  refine s_move rfl rfl rfl ?_
  refine s_fieldAddr rfl rfl rfl ?_
  refine s_fieldAddr rfl rfl rfl ?_
  refine s_load rfl rfl rfl ?_
  refine s_indexAddr rfl (x_wD (i := 0) rfl rfl rfl rfl rfl (by simp)) rfl ?_
  refine s_load rfl rfl rfl ?_
  refine s_bin rfl rfl rfl ?_
  refine s_pick rfl rfl rfl ?_
  refine s_move rfl rfl rfl ?_
  refine s_load rfl rfl rfl ?_
  refine s_call rfl rfl (c6) rfl rfl rfl rfl ?_
  refine s_call rfl rfl (c7) rfl rfl rfl rfl ?_
  refine s_pick rfl rfl rfl ?_
  refine s_move rfl rfl rfl ?_
  refine s_load rfl rfl rfl ?_
  refine s_load rfl rfl rfl ?_
  refine s_call rfl rfl (c8) rfl rfl rfl rfl ?_
  refine s_un rfl rfl rfl ?_
  refine s_pick rfl rfl rfl ?_
  refine s_move rfl rfl rfl ?_
  refine s_load rfl rfl rfl ?_
  refine s_call rfl rfl (c9) rfl rfl rfl rfl ?_
  refine s_call rfl rfl (t1) rfl rfl rfl rfl ?_
  refine s_bin rfl (e_eqS _) rfl ?_
  refine s_pick rfl rfl rfl ?_
  refine s_move rfl rfl rfl ?_
  refine s_load rfl rfl rfl ?_
  refine s_call rfl rfl (t2) rfl rfl rfl rfl ?_
  refine s_bin rfl (e_eqS _) rfl ?_
  refine s_pick rfl rfl rfl ?_
  refine s_move rfl rfl rfl ?_
  refine s_load rfl rfl rfl ?_
  refine s_call rfl rfl (t3) rfl rfl rfl rfl ?_
  refine s_bin rfl (e_eqS _) rfl ?_
  refine s_pick rfl rfl rfl ?_
  refine s_assign rfl rfl rfl ?_
  refine s_end (hK _ ?_); clear hK K
  refine AWP_ret ?_
  repeat (with_reducible refine tq_ret ?_)
  exact post_ret (fin_mk (by rfl) (by rfl) (by rfl))
end Go.Proofs.YtipenembpidoiaaDoor

/- Law 3: circle, group, rigid motions, actions. No condition. -/
namespace Go.Proofs.YtipenembpidoiaaDoor
attribute [local irreducible] lexA

theorem e_q0 {T : Tab} {t : TypeId} {x y : Rat} (h : x = y) : effBin T .eql t (dI (qcmp x y)) (dI 0) = .set (dB true) := by
  show Eff.set (dB (qcmp x y == 0)) = _
  rw [qcmp_eq, decide_eq_true h]
theorem RW.OK.big {r : RW} {k : Nat} (h : r.OK k) (hk : Nat.ble k 16777216 = true) : r.wp.length ≤ 9223372036854775806 ∧ r.wq.length ≤ 9223372036854775806 :=
  ⟨Nat.le_trans (h.mono hk).lp (by decide), Nat.le_trans (h.mono hk).lq (by decide)⟩
theorem rat_same_t (a : RW) {k : Nat} (h : a.OK k) (hk : Nat.ble k 16777216 = true) : Con Tryd.prog 21 [AG a.cs, AG a.cs] { v := dB true } := by
  have c := bRat_c a a (h.big hk).1 (h.big hk).2
  rwa [decide_eq_true rfl] at c
theorem rot_same_t (a : RW) {k : Nat} (h : a.OK k) (hk : Nat.ble k 16777216 = true) : Con Tryd.prog 31 [AG a.cs, AG a.cs] { v := dB true } := by
  have c := bRot_c a a (h.big hk).1 (h.big hk).2
  rwa [decide_eq_true rfl] at c
theorem qOf0_t : Con Tryd.prog 15 [dI 0, dI 1] { v := AG (qzW 0).cs } := qOf_c 0 1 (by unfold I64; omega) (by unfold I64; omega)
theorem qOf1_t : Con Tryd.prog 15 [dI 1, dI 1] { v := AG (qzW 1).cs } := qOf_c 1 1 (by unfold I64; omega) (by unfold I64; omega)
theorem ok_q0 : (qzW (0 : Rat)).OK 1 := qzW_ok (by decide +kernel)
theorem ok_q1 : (qzW (1 : Rat)).OK 1 := qzW_ok (by decide +kernel)
theorem tOf1_t : Con Tryd.prog 30 [dI 0, dI 1] { v := AG (pz2 one2).cs } := tOf_t 0 1 (by unfold I64; omega) (by unfold I64; omega)
theorem ok_one : (pz2 one2).OK 1 := pz2_ok ⟨by decide, by decide⟩

theorem lCircle_c (a : RW) (hw : a.W) : Con Tryd.prog 4 [AG a.cs] { v := dB true } := by
  refine con_intro (fn := Tryd.f4) tok Tryd.func4 (by kernel_rfl) rfl ?_
  intro w0 X
  rw [entry_mkE _ _ [(0, AG a.cs)] rfl rfl]
  refine AWP_reg_seq tok fun K hK => ?_
  refine s_box rfl rfl rfl rfl rfl rfl ?_
  refine s_assign rfl rfl rfl ?_
  refine s_end (hK _ ?_); clear hK K
  refine AWP_seq ?_
  refine a_join (α := Bool) (fun c => mk 48 [(1, .ptr 1 0), (2, dB false), (14, dB c)] [(1, some (.box a.cs))] []) (fun c => c = !small3 a) ?_ ?_
  · refine AWP_regW fun K hK => ?_
    refine w_step tok rfl ?_
    refine s_call rfl rfl (awake3_c) rfl rfl rfl rfl ?_
    refine s_end ?_
    refine w_step tok rfl ?_
    refine s_un rfl rfl rfl ?_
    refine s_end ?_
    refine w_step tok rfl ?_
    refine s_move rfl rfl rfl ?_
    refine s_end ?_
    refine w_split (fun h0 => ?_) (fun h0 => ?_)
    · refine w_skip rfl rfl ?_
      refine w_skip rfl rfl ?_
      refine w_skip rfl rfl ?_
      refine w_step tok rfl ?_
      refine s_pick rfl rfl rfl ?_
      refine s_end ?_
      refine w_end rfl (hK _ ?_); clear hK K
      first|(exact absurd h0 (by decide))|exact ⟨_, (by simp only [Bool.not_eq_true', Bool.not_eq_false'] at h0; simp only [h0, Bool.false_and, Bool.true_and, Bool.not_false, Bool.not_true, Bool.and_true]), Wk.mk' ⟨rfl, rfl, rfl, trivial⟩ ⟨rfl, trivial⟩⟩
    · refine w_step tok rfl ?_
      refine s_load rfl rfl rfl ?_
      refine s_end ?_
      refine w_step tok rfl ?_
      refine s_call rfl rfl (small3_c a) rfl rfl rfl rfl ?_
      refine s_end ?_
      refine w_step tok rfl ?_
      refine s_un rfl rfl rfl ?_
      refine s_end ?_
      refine w_step tok rfl ?_
      refine s_pick rfl rfl rfl ?_
      refine s_end ?_
      refine w_end rfl (hK _ ?_); clear hK K
      first|(exact absurd h0 (by decide))|exact ⟨_, (by simp only [Bool.not_eq_true', Bool.not_eq_false'] at h0; simp only [h0, Bool.false_and, Bool.true_and, Bool.not_false, Bool.not_true, Bool.and_true]), Wk.mk' ⟨rfl, rfl, rfl, trivial⟩ ⟨rfl, trivial⟩⟩
  rintro c rfl
  refine a_cond rfl (fun hc => ?_) (fun hc => ?_)
  · refine AWP_reg_seq tok fun K hK => ?_
    refine s_call rfl rfl (awake3_c) rfl rfl rfl rfl ?_
    refine s_assign rfl rfl rfl ?_
    refine s_end (hK _ ?_); clear hK K
    refine AWP_ret ?_
    repeat (with_reducible refine tq_ret ?_)
    exact post_ret (fin_mk (by rfl) (by rfl) (by rfl))
  rw [Bool.not_eq_false'] at hc
  have ok := small3_ok hc hw
  have h1 := cs_ql ok (by decide)
  have k0 := cs_one a.cn_nz
  have k1 : tnX a.cn 1 0 = cs2 a.cn := by unfold tnX; grind
  have k2 : tnY a.cn 1 0 = sn2 a.cn := by unfold tnY; grind
  have c1 := tCos_t a (ok.mono rfl)
  have c2 := tSin_t a (ok.mono rfl)
  have c3 := tTurn_t a (qzW 1) (qzW 0) (ok.mono rfl) (ok_q1.mono rfl) (ok_q0.mono rfl)
  rw [qzW_v, qzW_v, k1, k2] at c3
  generalize cs2 a.cn = C at *
  generalize sn2 a.cn = S at *
  have oC : (qzW C).OK 25 := qzW_ok h1.1
  have oS : (qzW S).OK 25 := qzW_ok h1.2
  have oCC : (qzW (C * C)).OK 50 := qzW_ok (ql_mul_le h1.1 h1.1)
  have oSS : (qzW (S * S)).OK 50 := qzW_ok (ql_mul_le h1.2 h1.2)
  have c4 := qMul_t (qzW C) (qzW C) (C * C) (oC.mono rfl) (oC.mono rfl) (by rw [qzW_v])
  have c5 := qMul_t (qzW S) (qzW S) (S * S) (oS.mono rfl) (oS.mono rfl) (by rw [qzW_v])
  have c6 := qAdd_t (qzW (C * C)) (qzW (S * S)) (C * C + S * S) (oCC.mono rfl) (oSS.mono rfl) (by rw [qzW_v, qzW_v])
  have c7 := qCmp_t (qzW (C * C + S * S)) (qzW 1) ((qzW_ok (ql_add_le (ql_mul_le h1.1 h1.1) (ql_mul_le h1.2 h1.2))).mono rfl) (ok_q1.mono rfl)
  rw [qzW_v, qzW_v] at c7
  have c8 := rat_same_t (qzW C) oC rfl
  have c9 := rat_same_t (qzW S) oS rfl
  generalize qzW C = c at *
  generalize qzW S = s at *
  generalize qzW (C * C) = cc at *
  generalize qzW (S * S) = ss at *
  have f1 := qOf0_t
  have f2 := qOf1_t
  generalize qzW (0 : Rat) = z at *
  generalize qzW (1 : Rat) = o at *
  refine AWP_skip ?_
  show AWP _ _ _ _ _ _
  refine a_draw tok mixed (A := [[], [], [], [0], [], [], [2], []]) (an := [{}, {}, { c := [17] }, {}, { c := [17, 19] }, { c := [17, 19, 3] }, {}, {}]) rfl (by kernel_rfl) rfl fun K hK => ?_
  refine s_load rfl rfl rfl ?_
  refine s_call rfl rfl (c1) rfl rfl rfl rfl ?_
  refine s_load rfl rfl rfl ?_
  refine s_call rfl rfl (c2) rfl rfl rfl rfl ?_
  refine s_alloc rfl rfl rfl rfl rfl rfl ?_
  refine s_alloc rfl rfl rfl rfl rfl rfl ?_
  refine s_store rfl rfl rfl rfl rfl ?_
  refine s_store rfl rfl rfl rfl rfl ?_
  refine s_end (hK _ ?_); clear hK K
  refine a_draw tok mixed (A := [[], [], [], [], [0, 1, 2], [0, 1, 2, 3], [0, 1, 2, 3], [], [], [], []]) (an := [{}, {}, {}, {}, {}, {}, {}, { c := [22, 23, 24] }, { c := [22, 23, 24, 5] }, {}, {}]) rfl (by kernel_rfl) rfl fun K hK => ?_
  refine s_load rfl rfl rfl ?_
  refine s_call rfl rfl (f2) rfl rfl rfl rfl ?_
  refine s_call rfl rfl (f1) rfl rfl rfl rfl ?_
  refine s_call rfl rfl (c3) rfl rfl rfl rfl ?_
  refine s_move rfl rfl rfl ?_
  refine s_extract rfl rfl rfl ?_
  refine s_extract rfl rfl rfl ?_
  refine s_alloc rfl rfl rfl rfl rfl rfl ?_
  refine s_alloc rfl rfl rfl rfl rfl rfl ?_
  refine s_store rfl rfl rfl rfl rfl ?_
  refine s_store rfl rfl rfl rfl rfl ?_
  refine s_end (hK _ ?_); clear hK K
  refine a_draw tok mixed (A := [[], [], [], [], [], [0, 1], [0, 1, 3, 4], [], []]) (an := [{}, {}, {}, { c := [29] }, { c := [29] }, {}, {}, { c := [29, 32, 33] }, {}]) rfl (by kernel_rfl) rfl fun K hK => ?_
  refine s_load rfl rfl rfl ?_
  refine s_load rfl rfl rfl ?_
  refine s_call rfl rfl (c4) rfl rfl rfl rfl ?_
  refine s_load rfl rfl rfl ?_
  refine s_load rfl rfl rfl ?_
  refine s_call rfl rfl (c5) rfl rfl rfl rfl ?_
  refine s_call rfl rfl (c6) rfl rfl rfl rfl ?_
  refine s_alloc rfl rfl rfl rfl rfl rfl ?_
  refine s_store rfl rfl rfl rfl rfl ?_
  refine s_end (hK _ ?_); clear hK K
  refine a_draw tok mixed (A := [[], [], [], [0, 1], [0, 1], [0, 1, 2, 3], [0, 1, 2, 3], [0, 1, 2, 3], [0, 1, 2, 3, 5, 6], [0, 1, 2, 3, 4, 5, 6], [0, 1, 2, 3, 4, 5, 6, 7, 8], [0, 1, 2, 3, 4, 5, 6, 7, 8], [0, 1, 2, 3, 4, 5, 6, 7, 8], [0, 1, 2, 3, 4, 5, 6, 7, 8, 10, 11], []]) (an := [{}, {}, {}, {}, {}, {}, {}, {}, {}, {}, {}, {}, {}, {}, {}]) rfl (by kernel_rfl) rfl fun K hK => ?_
  refine s_load rfl rfl rfl ?_
  refine s_call rfl rfl (f2) rfl rfl rfl rfl ?_
  refine s_call rfl rfl (c7) rfl rfl rfl rfl ?_
  refine s_bin rfl (e_q0 k0) rfl ?_
  refine s_move rfl rfl rfl ?_
  refine s_load rfl rfl rfl ?_
  refine s_load rfl rfl rfl ?_
  refine s_call rfl rfl (c8) rfl rfl rfl rfl ?_
  refine s_pick rfl rfl rfl ?_
  refine s_move rfl rfl rfl ?_
  refine s_load rfl rfl rfl ?_
  refine s_load rfl rfl rfl ?_
  refine s_call rfl rfl (c9) rfl rfl rfl rfl ?_
  refine s_pick rfl rfl rfl ?_
  refine s_assign rfl rfl rfl ?_
  refine s_end (hK _ ?_); clear hK K
  refine AWP_ret ?_
  repeat (with_reducible refine tq_ret ?_)
  exact post_ret (fin_mk (by rfl) (by rfl) (by rfl))

theorem lGroup_c (a b c : RW) (ha : a.W) (hb : b.W) (hc : c.W) : Con Tryd.prog 5 [AG a.cs, AG b.cs, AG c.cs] { v := dB true } := by
  refine con_intro (fn := Tryd.f5) tok Tryd.func5 (by kernel_rfl) rfl ?_
  intro w0 X
  rw [entry_mkE _ _ [(0, AG a.cs), (1, AG b.cs), (2, AG c.cs)] rfl rfl]
  refine AWP_reg_seq tok fun K hK => ?_
  refine s_box rfl rfl rfl rfl rfl rfl ?_
  refine s_box rfl rfl rfl rfl rfl rfl ?_
  refine s_box rfl rfl rfl rfl rfl rfl ?_
  refine s_assign rfl rfl rfl ?_
  refine s_end (hK _ ?_); clear hK K
  refine AWP_seq ?_
  refine a_join (α := Bool) (fun x => mk 70 [(3, .ptr 3 0), (4, .ptr 4 0), (5, .ptr 5 0), (6, dB false), (25, dB x)] [(3, some (.box a.cs)), (4, some (.box b.cs)), (5, some (.box c.cs))] []) (fun x => x = !(small3 a && (small3 b && small3 c))) ?_ ?_
  · refine AWP_regW fun K hK => ?_
    refine w_step tok rfl ?_
    refine s_call rfl rfl (awake3_c) rfl rfl rfl rfl ?_
    refine s_end ?_
    refine w_step tok rfl ?_
    refine s_un rfl rfl rfl ?_
    refine s_end ?_
    refine w_step tok rfl ?_
    refine s_move rfl rfl rfl ?_
    refine s_end ?_
    refine w_split (fun h0 => ?_) (fun h0 => ?_)
    · refine w_skip rfl rfl ?_
      refine w_skip rfl rfl ?_
      refine w_skip rfl rfl ?_
      refine w_step tok rfl ?_
      refine s_pick rfl rfl rfl ?_
      refine s_end ?_
      refine w_step tok rfl ?_
      refine s_move rfl rfl rfl ?_
      refine s_end ?_
      refine w_skip rfl rfl ?_
      refine w_skip rfl rfl ?_
      refine w_skip rfl rfl ?_
      refine w_step tok rfl ?_
      refine s_pick rfl rfl rfl ?_
      refine s_end ?_
      refine w_step tok rfl ?_
      refine s_move rfl rfl rfl ?_
      refine s_end ?_
      refine w_skip rfl rfl ?_
      refine w_skip rfl rfl ?_
      refine w_skip rfl rfl ?_
      refine w_step tok rfl ?_
      refine s_pick rfl rfl rfl ?_
      refine s_end ?_
      refine w_end rfl (hK _ ?_); clear hK K
      first|(exact absurd h0 (by decide))|exact ⟨_, (by simp only [Bool.not_eq_true', Bool.not_eq_false'] at h0; simp only [h0, Bool.false_and, Bool.true_and, Bool.not_false, Bool.not_true, Bool.and_true]), Wk.mk' ⟨rfl, rfl, rfl, rfl, rfl, trivial⟩ ⟨rfl, rfl, rfl, trivial⟩⟩
    · refine w_step tok rfl ?_
      refine s_load rfl rfl rfl ?_
      refine s_end ?_
      refine w_step tok rfl ?_
      refine s_call rfl rfl (small3_c a) rfl rfl rfl rfl ?_
      refine s_end ?_
      refine w_step tok rfl ?_
      refine s_un rfl rfl rfl ?_
      refine s_end ?_
      refine w_step tok rfl ?_
      refine s_pick rfl rfl rfl ?_
      refine s_end ?_
      refine w_step tok rfl ?_
      refine s_move rfl rfl rfl ?_
      refine s_end ?_
      refine w_split (fun h1 => ?_) (fun h1 => ?_)
      · refine w_skip rfl rfl ?_
        refine w_skip rfl rfl ?_
        refine w_skip rfl rfl ?_
        refine w_step tok rfl ?_
        refine s_pick rfl rfl rfl ?_
        refine s_end ?_
        refine w_step tok rfl ?_
        refine s_move rfl rfl rfl ?_
        refine s_end ?_
        refine w_skip rfl rfl ?_
        refine w_skip rfl rfl ?_
        refine w_skip rfl rfl ?_
        refine w_step tok rfl ?_
        refine s_pick rfl rfl rfl ?_
        refine s_end ?_
        refine w_end rfl (hK _ ?_); clear hK K
        first|(exact absurd h0 (by decide))|exact ⟨_, (by simp only [Bool.not_eq_true', Bool.not_eq_false'] at h0 h1; simp only [h0, h1, Bool.false_and, Bool.true_and, Bool.not_false, Bool.not_true, Bool.and_true]), Wk.mk' ⟨rfl, rfl, rfl, rfl, rfl, trivial⟩ ⟨rfl, rfl, rfl, trivial⟩⟩
      · refine w_step tok rfl ?_
        refine s_load rfl rfl rfl ?_
        refine s_end ?_
        refine w_step tok rfl ?_
        refine s_call rfl rfl (small3_c b) rfl rfl rfl rfl ?_
        refine s_end ?_
        refine w_step tok rfl ?_
        refine s_un rfl rfl rfl ?_
        refine s_end ?_
        refine w_step tok rfl ?_
        refine s_pick rfl rfl rfl ?_
        refine s_end ?_
        refine w_step tok rfl ?_
        refine s_move rfl rfl rfl ?_
        refine s_end ?_
        refine w_split (fun h2 => ?_) (fun h2 => ?_)
        · refine w_skip rfl rfl ?_
          refine w_skip rfl rfl ?_
          refine w_skip rfl rfl ?_
          refine w_step tok rfl ?_
          refine s_pick rfl rfl rfl ?_
          refine s_end ?_
          refine w_end rfl (hK _ ?_); clear hK K
          first|(exact absurd h0 (by decide))|exact ⟨_, (by simp only [Bool.not_eq_true', Bool.not_eq_false'] at h0 h1 h2; simp only [h0, h1, h2, Bool.false_and, Bool.true_and, Bool.not_false, Bool.not_true, Bool.and_true]), Wk.mk' ⟨rfl, rfl, rfl, rfl, rfl, trivial⟩ ⟨rfl, rfl, rfl, trivial⟩⟩
        · refine w_step tok rfl ?_
          refine s_load rfl rfl rfl ?_
          refine s_end ?_
          refine w_step tok rfl ?_
          refine s_call rfl rfl (small3_c c) rfl rfl rfl rfl ?_
          refine s_end ?_
          refine w_step tok rfl ?_
          refine s_un rfl rfl rfl ?_
          refine s_end ?_
          refine w_step tok rfl ?_
          refine s_pick rfl rfl rfl ?_
          refine s_end ?_
          refine w_end rfl (hK _ ?_); clear hK K
          first|(exact absurd h0 (by decide))|exact ⟨_, (by simp only [Bool.not_eq_true', Bool.not_eq_false'] at h0 h1 h2; simp only [h0, h1, h2, Bool.false_and, Bool.true_and, Bool.not_false, Bool.not_true, Bool.and_true]), Wk.mk' ⟨rfl, rfl, rfl, rfl, rfl, trivial⟩ ⟨rfl, rfl, rfl, trivial⟩⟩
  rintro x rfl
  refine a_cond rfl (fun hg => ?_) (fun hg => ?_)
  · refine AWP_reg_seq tok fun K hK => ?_
    refine s_call rfl rfl (awake3_c) rfl rfl rfl rfl ?_
    refine s_assign rfl rfl rfl ?_
    refine s_end (hK _ ?_); clear hK K
    refine AWP_ret ?_
    repeat (with_reducible refine tq_ret ?_)
    exact post_ret (fin_mk (by rfl) (by rfl) (by rfl))
  rw [Bool.not_eq_false', Bool.and_eq_true, Bool.and_eq_true] at hg
  have oa := small3_ok hg.1 ha
  have ob := small3_ok hg.2.1 hb
  have oc := small3_ok hg.2.2 hc
  have za := a.cn_nz
  have zb := b.cn_nz
  have zc := c.cn_nz
  have la := oa.cn (by decide)
  have lb := ob.cn (by decide)
  have lc := oc.cn (by decide)
  have oab : (pz2 (gc (gm a.cn b.cn))).OK 25 := pz2_ok (zl_gm la lb (by decide))
  have obc : (pz2 (gc (gm b.cn c.cn))).OK 25 := pz2_ok (zl_gm lb lc (by decide))
  have lia := zl_inv2 (by decide) la
  have lib := zl_inv2 (by decide) lb
  have oia : (pz2 (inv2 a.cn)).OK 12 := pz2_ok lia
  have oib : (pz2 (inv2 b.cn)).OK 12 := pz2_ok lib
  have c1 := tThen_t a b (oa.mono rfl) (ob.mono rfl)
  have c2 := tThen_t b a (ob.mono rfl) (oa.mono rfl)
  rw [gm_comm b.cn a.cn] at c2
  have c3 := tThen_t (pz2 (gc (gm a.cn b.cn))) c (oab.mono rfl) (oc.mono rfl)
  rw [pz2_cn, gc_idem, gc_gm_l (gm_nz za zb) zc] at c3
  have c4 := tThen_t b c (ob.mono rfl) (oc.mono rfl)
  have c5 := tThen_t a (pz2 (gc (gm b.cn c.cn))) (oa.mono rfl) (obc.mono rfl)
  rw [pz2_cn, gc_idem, gc_gm_r za (gm_nz zb zc), ← gm_assoc] at c5
  have c6 := tThen_t a (pz2 one2) (oa.mono rfl) (ok_one.mono rfl)
  rw [pz2_cn, gc_one, gm_comm, gm_one, a.cn_gc] at c6
  have c7 := tSame_t (pz2 a.cn) a ((pz2_ok la).mono rfl) (oa.mono rfl)
  rw [pz2_cn, a.cn_gc, decide_eq_true rfl] at c7
  have c8 := tInv_t a (oa.mono rfl)
  have c9 := tThen_t a (pz2 (inv2 a.cn)) (oa.mono rfl) (oia.mono rfl)
  rw [pz2_cn, inv2_can, gm_inv za] at c9
  have c10 := tInv_t b (ob.mono rfl)
  have c11 := tThen_t (pz2 (gc (gm a.cn b.cn))) (pz2 (inv2 b.cn)) (oab.mono rfl) (oib.mono rfl)
  rw [pz2_cn, pz2_cn, gc_idem, inv2_can, gc_gm_l (gm_nz za zb) (inv2_nz _), gm_assoc, ← gc_gm_r za (gm_nz zb (inv2_nz _)), gm_inv zb, gm_comm a.cn one2, gm_one, a.cn_gc] at c11
  have o3 : (pz2 (gc (gm (gm a.cn b.cn) c.cn))).OK 38 := by
    rw [← gc_gm_l (gm_nz za zb) zc]
    exact pz2_ok (zl_gm (zl_gm la lb (Nat.le_refl 25)) lc (by decide))
  have d1 := rot_same_t _ oab rfl
  have d2 := rot_same_t _ o3 rfl
  have d3 := rot_same_t _ ok_one rfl
  have f1 := tOf1_t
  generalize pz2 (gc (gm a.cn b.cn)) = ab at *
  generalize pz2 (gc (gm b.cn c.cn)) = bc at *
  generalize pz2 (gc (gm (gm a.cn b.cn) c.cn)) = abc at *
  generalize pz2 one2 = o at *
  generalize pz2 (inv2 a.cn) = ia at *
  generalize pz2 (inv2 b.cn) = ib at *
  generalize pz2 a.cn = na at *
  refine AWP_skip ?_
  show AWP _ _ _ _ _ _
  refine AWP_reg_seq tok fun K hK => ?_
  refine s_call rfl rfl (f1) rfl rfl rfl rfl ?_
  refine s_alloc rfl rfl rfl rfl rfl rfl ?_
  refine s_store rfl rfl rfl rfl rfl ?_
  refine s_end (hK _ ?_); clear hK K
  refine AWP_reg_seq tok fun K hK => ?_
  refine s_load rfl rfl rfl ?_
  refine s_load rfl rfl rfl ?_
  refine s_call rfl rfl (c1) rfl rfl rfl rfl ?_
  refine s_alloc rfl rfl rfl rfl rfl rfl ?_
  refine s_store rfl rfl rfl rfl rfl ?_
  refine s_end (hK _ ?_); clear hK K
  refine a_draw tok mixed (A := [[], [], [], [], [1, 2], [0, 1, 2, 3], [0, 1, 2, 3, 4], [0, 1, 2, 3, 4], [0, 1, 2, 3, 4], [0, 1, 2, 3, 4], [0, 1, 2, 3, 4], [0, 1, 2, 3, 4], [0, 1, 2, 3, 4, 6, 7], [0, 1, 2, 3, 4, 6, 7, 8, 10, 11], [0, 1, 2, 3, 4, 6, 7, 9, 10, 11, 12], [0, 1, 2, 3, 4, 6, 7, 8, 9, 10, 11, 12, 13], [0, 1, 2, 3, 4, 5, 6, 7, 8, 9, 10, 11, 12, 13], [0, 1, 2, 3, 4, 5, 6, 7, 8, 9, 10, 11, 12, 13, 14, 15], [0, 1, 2, 3, 4, 5, 6, 7, 8, 9, 10, 11, 12, 13, 14, 15], [0, 1, 2, 3, 4, 5, 6, 7, 8, 9, 10, 11, 12, 13, 14, 15], [0, 1, 2, 3, 4, 5, 6, 7, 8, 9, 10, 11, 12, 13, 14, 15], [0, 1, 2, 3, 4, 5, 6, 7, 8, 9, 10, 11, 12, 13, 14, 15, 17, 18], [0, 1, 2, 3, 4, 5, 6, 7, 8, 9, 10, 11, 12, 13, 14, 15, 17, 18, 19, 20], [0, 1, 2, 3, 4, 5, 6, 7, 8, 9, 10, 11, 12, 13, 14, 15, 16, 17, 18, 19, 20], [0, 1, 2, 3, 4, 5, 6, 7, 8, 9, 10, 11, 12, 13, 14, 15, 16, 17, 18, 19, 20, 21, 22], [0, 1, 2, 3, 4, 5, 6, 7, 8, 9, 10, 11, 12, 13, 14, 15, 16, 17, 18, 19, 20, 21, 22], [0, 1, 2, 3, 4, 5, 6, 7, 8, 9, 10, 11, 12, 13, 14, 15, 16, 17, 18, 19, 20, 21, 22], [0, 1, 2, 3, 4, 5, 6, 7, 8, 9, 10, 11, 12, 13, 14, 15, 16, 17, 18, 19, 20, 21, 22, 25], [0, 1, 2, 3, 4, 5, 6, 7, 8, 9, 10, 11, 12, 13, 14, 15, 16, 17, 18, 19, 20, 21, 22], [0, 1, 2, 3, 4, 5, 6, 7, 8, 9, 10, 11, 12, 13, 14, 15, 16, 17, 18, 19, 20, 21, 22, 24, 25, 26], [0, 1, 2, 3, 4, 5, 6, 7, 8, 9, 10, 11, 12, 13, 14, 15, 16, 17, 18, 19, 20, 21, 22, 24, 25, 26, 27, 28], [0, 1, 2, 3, 4, 5, 6, 7, 8, 9, 10, 11, 12, 13, 14, 15, 16, 17, 18, 19, 20, 21, 22, 23, 24, 25, 26, 27, 28], [0, 1, 2, 3, 4, 5, 6, 7, 8, 9, 10, 11, 12, 13, 14, 15, 16, 17, 18, 19, 20, 21, 22, 23, 24, 25, 26, 27, 28, 29, 30], [0, 1, 2, 3, 4, 5, 6, 7, 8, 9, 10, 11, 12, 13, 14, 15, 16, 17, 18, 19, 20, 21, 22, 23, 24, 25, 26, 27, 28, 29, 30], [0, 1, 2, 3, 4, 5, 6, 7, 8, 9, 10, 11, 12, 13, 14, 15, 16, 17, 18, 19, 20, 21, 22, 23, 24, 25, 26, 27, 28, 29, 30], [0, 1, 2, 3, 4, 5, 6, 7, 8, 9, 10, 11, 12, 13, 14, 15, 16, 17, 18, 19, 20, 21, 22, 23, 24, 25, 26, 27, 28, 29, 30, 33], [0, 1, 2, 3, 4, 5, 6, 7, 8, 9, 10, 11, 12, 13, 14, 15, 16, 17, 18, 19, 20, 21, 22, 23, 24, 25, 26, 27, 28, 29, 30], [0, 1, 2, 3, 4, 5, 6, 7, 8, 9, 10, 11, 12, 13, 14, 15, 16, 17, 18, 19, 20, 21, 22, 23, 24, 25, 26, 27, 28, 29, 30, 32, 33, 34], [0, 1, 2, 3, 4, 5, 6, 7, 8, 9, 10, 11, 12, 13, 14, 15, 16, 17, 18, 19, 20, 21, 22, 23, 24, 25, 26, 27, 28, 29, 30, 32, 33, 34, 35, 36], []]) (an := [{}, {}, {}, {}, {}, {}, {}, {}, {}, { c := [39] }, { c := [39] }, { c := [39] }, {}, {}, {}, {}, {}, {}, {}, {}, { c := [50] }, {}, {}, {}, {}, {}, {}, {}, { c := [57, 58] }, {}, {}, {}, {}, {}, {}, {}, { c := [65, 66] }, {}, {}, {}]) rfl (by kernel_rfl) rfl fun K hK => ?_
  refine s_load rfl rfl rfl ?_
  refine s_load rfl rfl rfl ?_
  refine s_load rfl rfl rfl ?_
  refine s_call rfl rfl (c2) rfl rfl rfl rfl ?_
  refine s_call rfl rfl (d1) rfl rfl rfl rfl ?_
  refine s_move rfl rfl rfl ?_
  refine s_load rfl rfl rfl ?_
  refine s_load rfl rfl rfl ?_
  refine s_call rfl rfl (c3) rfl rfl rfl rfl ?_
  refine s_load rfl rfl rfl ?_
  refine s_load rfl rfl rfl ?_
  refine s_load rfl rfl rfl ?_
  refine s_call rfl rfl (c4) rfl rfl rfl rfl ?_
  refine s_call rfl rfl (c5) rfl rfl rfl rfl ?_
  refine s_call rfl rfl (d2) rfl rfl rfl rfl ?_
  refine s_pick rfl rfl rfl ?_
  refine s_move rfl rfl rfl ?_
  refine s_load rfl rfl rfl ?_
  refine s_load rfl rfl rfl ?_
  refine s_call rfl rfl (c6) rfl rfl rfl rfl ?_
  refine s_load rfl rfl rfl ?_
  refine s_call rfl rfl (c7) rfl rfl rfl rfl ?_
  refine s_pick rfl rfl rfl ?_
  refine s_move rfl rfl rfl ?_
  refine s_load rfl rfl rfl ?_
  refine s_load rfl rfl rfl ?_
  refine s_call rfl rfl (c8) rfl rfl rfl rfl ?_
  refine s_call rfl rfl (c9) rfl rfl rfl rfl ?_
  refine s_load rfl rfl rfl ?_
  refine s_call rfl rfl (d3) rfl rfl rfl rfl ?_
  refine s_pick rfl rfl rfl ?_
  refine s_move rfl rfl rfl ?_
  refine s_load rfl rfl rfl ?_
  refine s_load rfl rfl rfl ?_
  refine s_call rfl rfl (c10) rfl rfl rfl rfl ?_
  refine s_call rfl rfl (c11) rfl rfl rfl rfl ?_
  refine s_load rfl rfl rfl ?_
  refine s_call rfl rfl (c7) rfl rfl rfl rfl ?_
  refine s_pick rfl rfl rfl ?_
  refine s_assign rfl rfl rfl ?_
  refine s_end (hK _ ?_); clear hK K
  refine AWP_ret ?_
  repeat (with_reducible refine tq_ret ?_)
  exact post_ret (fin_mk (by rfl) (by rfl) (by rfl))

theorem square_c (a b c d : RW) (oa : a.OK 4096) (ob : b.OK 4096) (oc : c.OK 4096) (od : d.OK 4096) : Con Tryd.prog 35 [AG a.cs, AG b.cs, AG c.cs, AG d.cs]
    { v := AG (qzW ((c.v - a.v) * (c.v - a.v) + (d.v - b.v) * (d.v - b.v))).cs } := by
  have h1 := ql_sub_le (oc.ql rfl) (oa.ql rfl)
  have h2 := ql_sub_le (od.ql rfl) (ob.ql rfl)
  have c1 := qSub_t c a _ (oc.mono rfl) (oa.mono rfl) rfl
  have c2 := qSub_t d b _ (od.mono rfl) (ob.mono rfl) rfl
  generalize c.v - a.v = x at *
  generalize d.v - b.v = y at *
  have c3 := qMul_t (qzW x) (qzW x) (x * x) ((qzW_ok h1).mono rfl) ((qzW_ok h1).mono rfl) (by rw [qzW_v])
  have c4 := qMul_t (qzW y) (qzW y) (y * y) ((qzW_ok h2).mono rfl) ((qzW_ok h2).mono rfl) (by rw [qzW_v])
  have c5 := qAdd_t (qzW (x * x)) (qzW (y * y)) (x * x + y * y) ((qzW_ok (ql_mul_le h1 h1)).mono rfl) ((qzW_ok (ql_mul_le h2 h2)).mono rfl) (by rw [qzW_v, qzW_v])
  generalize qzW x = X at *
  generalize qzW y = Y at *
  generalize qzW (x * x) = XX at *
  generalize qzW (y * y) = YY at *
  generalize qzW (x * x + y * y) = Z at *
  refine con_intro (fn := Tryd.f35) tok Tryd.func35 (by kernel_rfl) rfl ?_
  intro w0 X
  rw [entry_mkE _ _ [(0, AG a.cs), (1, AG b.cs), (2, AG c.cs), (3, AG d.cs)] rfl rfl]
  refine AWP_reg_seq tok fun K hK => ?_
  refine s_box rfl rfl rfl rfl rfl rfl ?_
  refine s_box rfl rfl rfl rfl rfl rfl ?_
  refine s_box rfl rfl rfl rfl rfl rfl ?_
  refine s_box rfl rfl rfl rfl rfl rfl ?_
  refine s_alloc rfl rfl rfl rfl rfl rfl ?_
  refine s_end (hK _ ?_); clear hK K
  refine a_draw tok mixed (A := [[], [], [], [], [], [0, 1], [], [], [3, 4], []]) (an := [{}, {}, {}, { c := [13] }, { c := [13] }, {}, { c := [13, 16] }, { c := [13, 16, 9] }, {}, {}]) rfl (by kernel_rfl) rfl fun K hK => ?_
  refine s_load rfl rfl rfl ?_
  refine s_load rfl rfl rfl ?_
  refine s_call rfl rfl (c1) rfl rfl rfl rfl ?_
  refine s_load rfl rfl rfl ?_
  refine s_load rfl rfl rfl ?_
  refine s_call rfl rfl (c2) rfl rfl rfl rfl ?_
  refine s_alloc rfl rfl rfl rfl rfl rfl ?_
  refine s_alloc rfl rfl rfl rfl rfl rfl ?_
  refine s_store rfl rfl rfl rfl rfl ?_
  refine s_store rfl rfl rfl rfl rfl ?_
  refine s_end (hK _ ?_); clear hK K
  refine a_draw tok mixed (A := [[], [], [], [], [], [0, 1], [0, 1, 3, 4], []]) (an := [{}, {}, {}, { c := [19] }, { c := [19] }, {}, {}, {}]) rfl (by kernel_rfl) rfl fun K hK => ?_
  refine s_load rfl rfl rfl ?_
  refine s_load rfl rfl rfl ?_
  refine s_call rfl rfl (c3) rfl rfl rfl rfl ?_
  refine s_load rfl rfl rfl ?_
  refine s_load rfl rfl rfl ?_
  refine s_call rfl rfl (c4) rfl rfl rfl rfl ?_
  refine s_call rfl rfl (c5) rfl rfl rfl rfl ?_
  refine s_store rfl rfl rfl rfl rfl ?_
  refine s_end (hK _ ?_); clear hK K
  refine AWP_ret ?_
  repeat (with_reducible refine tq_ret ?_)
  exact post_ret (fin_mk (by rfl) (by rfl) (by rfl))

set_option maxHeartbeats 1000000 in
theorem lRigid_c (t : TR) (p q : SP) (ht : t.W) (hp : p.W) (hq : q.W) : Con Tryd.prog 6 [AG t.cs, AG p.cs, AG q.cs] { v := dB true } := by
  refine con_intro (fn := Tryd.f6) tok Tryd.func6 (by kernel_rfl) rfl ?_
  intro w0 X
  rw [entry_mkE _ _ [(0, AG t.cs), (1, AG p.cs), (2, AG q.cs)] rfl rfl]
  refine AWP_reg_seq tok fun K hK => ?_
  refine s_box rfl rfl rfl rfl rfl rfl ?_
  refine s_box rfl rfl rfl rfl rfl rfl ?_
  refine s_box rfl rfl rfl rfl rfl rfl ?_
  refine s_assign rfl rfl rfl ?_
  refine s_end (hK _ ?_); clear hK K
  refine AWP_seq ?_
  refine a_join (α := Bool) (fun x => mk 77 [(3, .ptr 3 0), (4, .ptr 4 0), (5, .ptr 5 0), (6, dB false), (41, dB x)] [(3, some (.box t.cs)), (4, some (.box p.cs)), (5, some (.box q.cs))] []) (fun x => x = !(light3 t && (small3 p.x && (small3 p.y && (small3 q.x && small3 q.y))))) ?_ ?_
  · refine AWP_regW fun K hK => ?_
    refine w_step tok rfl ?_
    refine s_call rfl rfl (awake3_c) rfl rfl rfl rfl ?_
    refine s_end ?_
    refine w_step tok rfl ?_
    refine s_un rfl rfl rfl ?_
    refine s_end ?_
    refine w_step tok rfl ?_
    refine s_move rfl rfl rfl ?_
    refine s_end ?_
    refine w_split (fun h0 => ?_) (fun h0 => ?_)
    · refine w_skip rfl rfl ?_
      refine w_skip rfl rfl ?_
      refine w_skip rfl rfl ?_
      refine w_step tok rfl ?_
      refine s_pick rfl rfl rfl ?_
      refine s_end ?_
      refine w_step tok rfl ?_
      refine s_move rfl rfl rfl ?_
      refine s_end ?_
      refine w_skip rfl rfl ?_
      refine w_skip rfl rfl ?_
      refine w_skip rfl rfl ?_
      refine w_skip rfl rfl ?_
      refine w_step tok rfl ?_
      refine s_pick rfl rfl rfl ?_
      refine s_end ?_
      refine w_step tok rfl ?_
      refine s_move rfl rfl rfl ?_
      refine s_end ?_
      refine w_skip rfl rfl ?_
      refine w_skip rfl rfl ?_
      refine w_skip rfl rfl ?_
      refine w_skip rfl rfl ?_
      refine w_step tok rfl ?_
      refine s_pick rfl rfl rfl ?_
      refine s_end ?_
      refine w_step tok rfl ?_
      refine s_move rfl rfl rfl ?_
      refine s_end ?_
      refine w_skip rfl rfl ?_
      refine w_skip rfl rfl ?_
      refine w_skip rfl rfl ?_
      refine w_skip rfl rfl ?_
      refine w_step tok rfl ?_
      refine s_pick rfl rfl rfl ?_
      refine s_end ?_
      refine w_step tok rfl ?_
      refine s_move rfl rfl rfl ?_
      refine s_end ?_
      refine w_skip rfl rfl ?_
      refine w_skip rfl rfl ?_
      refine w_skip rfl rfl ?_
      refine w_skip rfl rfl ?_
      refine w_step tok rfl ?_
      refine s_pick rfl rfl rfl ?_
      refine s_end ?_
      refine w_end rfl (hK _ ?_); clear hK K
      first|(exact absurd h0 (by decide))|exact ⟨_, (by simp only [Bool.not_eq_true', Bool.not_eq_false'] at h0; simp only [h0, Bool.false_and, Bool.true_and, Bool.not_false, Bool.not_true, Bool.and_true]), Wk.mk' ⟨rfl, rfl, rfl, rfl, rfl, trivial⟩ ⟨rfl, rfl, rfl, trivial⟩⟩
    · refine w_step tok rfl ?_
      refine s_load rfl rfl rfl ?_
      refine s_end ?_
      refine w_step tok rfl ?_
      refine s_call rfl rfl (light3_c t) rfl rfl rfl rfl ?_
      refine s_end ?_
      refine w_step tok rfl ?_
      refine s_un rfl rfl rfl ?_
      refine s_end ?_
      refine w_step tok rfl ?_
      refine s_pick rfl rfl rfl ?_
      refine s_end ?_
      refine w_step tok rfl ?_
      refine s_move rfl rfl rfl ?_
      refine s_end ?_
      refine w_split (fun h1 => ?_) (fun h1 => ?_)
      · refine w_skip rfl rfl ?_
        refine w_skip rfl rfl ?_
        refine w_skip rfl rfl ?_
        refine w_skip rfl rfl ?_
        refine w_step tok rfl ?_
        refine s_pick rfl rfl rfl ?_
        refine s_end ?_
        refine w_step tok rfl ?_
        refine s_move rfl rfl rfl ?_
        refine s_end ?_
        refine w_skip rfl rfl ?_
        refine w_skip rfl rfl ?_
        refine w_skip rfl rfl ?_
        refine w_skip rfl rfl ?_
        refine w_step tok rfl ?_
        refine s_pick rfl rfl rfl ?_
        refine s_end ?_
        refine w_step tok rfl ?_
        refine s_move rfl rfl rfl ?_
        refine s_end ?_
        refine w_skip rfl rfl ?_
        refine w_skip rfl rfl ?_
        refine w_skip rfl rfl ?_
        refine w_skip rfl rfl ?_
        refine w_step tok rfl ?_
        refine s_pick rfl rfl rfl ?_
        refine s_end ?_
        refine w_step tok rfl ?_
        refine s_move rfl rfl rfl ?_
        refine s_end ?_
        refine w_skip rfl rfl ?_
        refine w_skip rfl rfl ?_
        refine w_skip rfl rfl ?_
        refine w_skip rfl rfl ?_
        refine w_step tok rfl ?_
        refine s_pick rfl rfl rfl ?_
        refine s_end ?_
        refine w_end rfl (hK _ ?_); clear hK K
        first|(exact absurd h0 (by decide))|exact ⟨_, (by simp only [Bool.not_eq_true', Bool.not_eq_false'] at h0 h1; simp only [h0, h1, Bool.false_and, Bool.true_and, Bool.not_false, Bool.not_true, Bool.and_true]), Wk.mk' ⟨rfl, rfl, rfl, rfl, rfl, trivial⟩ ⟨rfl, rfl, rfl, trivial⟩⟩
      · refine w_step tok rfl ?_
        refine s_fieldAddr rfl rfl rfl ?_
        refine s_end ?_
        refine w_step tok rfl ?_
        refine s_load rfl rfl rfl ?_
        refine s_end ?_
        refine w_step tok rfl ?_
        refine s_call rfl rfl (short3_c p.x) rfl rfl rfl rfl ?_
        refine s_end ?_
        refine w_step tok rfl ?_
        refine s_un rfl rfl rfl ?_
        refine s_end ?_
        refine w_step tok rfl ?_
        refine s_pick rfl rfl rfl ?_
        refine s_end ?_
        refine w_step tok rfl ?_
        refine s_move rfl rfl rfl ?_
        refine s_end ?_
        refine w_split (fun h2 => ?_) (fun h2 => ?_)
        · refine w_skip rfl rfl ?_
          refine w_skip rfl rfl ?_
          refine w_skip rfl rfl ?_
          refine w_skip rfl rfl ?_
          refine w_step tok rfl ?_
          refine s_pick rfl rfl rfl ?_
          refine s_end ?_
          refine w_step tok rfl ?_
          refine s_move rfl rfl rfl ?_
          refine s_end ?_
          refine w_skip rfl rfl ?_
          refine w_skip rfl rfl ?_
          refine w_skip rfl rfl ?_
          refine w_skip rfl rfl ?_
          refine w_step tok rfl ?_
          refine s_pick rfl rfl rfl ?_
          refine s_end ?_
          refine w_step tok rfl ?_
          refine s_move rfl rfl rfl ?_
          refine s_end ?_
          refine w_skip rfl rfl ?_
          refine w_skip rfl rfl ?_
          refine w_skip rfl rfl ?_
          refine w_skip rfl rfl ?_
          refine w_step tok rfl ?_
          refine s_pick rfl rfl rfl ?_
          refine s_end ?_
          refine w_end rfl (hK _ ?_); clear hK K
          first|(exact absurd h0 (by decide))|exact ⟨_, (by simp only [Bool.not_eq_true', Bool.not_eq_false'] at h0 h1 h2; simp only [h0, h1, h2, Bool.false_and, Bool.true_and, Bool.not_false, Bool.not_true, Bool.and_true]), Wk.mk' ⟨rfl, rfl, rfl, rfl, rfl, trivial⟩ ⟨rfl, rfl, rfl, trivial⟩⟩
        · refine w_step tok rfl ?_
          refine s_fieldAddr rfl rfl rfl ?_
          refine s_end ?_
          refine w_step tok rfl ?_
          refine s_load rfl rfl rfl ?_
          refine s_end ?_
          refine w_step tok rfl ?_
          refine s_call rfl rfl (short3_c p.y) rfl rfl rfl rfl ?_
          refine s_end ?_
          refine w_step tok rfl ?_
          refine s_un rfl rfl rfl ?_
          refine s_end ?_
          refine w_step tok rfl ?_
          refine s_pick rfl rfl rfl ?_
          refine s_end ?_
          refine w_step tok rfl ?_
          refine s_move rfl rfl rfl ?_
          refine s_end ?_
          refine w_split (fun h3 => ?_) (fun h3 => ?_)
          · refine w_skip rfl rfl ?_
            refine w_skip rfl rfl ?_
            refine w_skip rfl rfl ?_
            refine w_skip rfl rfl ?_
            refine w_step tok rfl ?_
            refine s_pick rfl rfl rfl ?_
            refine s_end ?_
            refine w_step tok rfl ?_
            refine s_move rfl rfl rfl ?_
            refine s_end ?_
            refine w_skip rfl rfl ?_
            refine w_skip rfl rfl ?_
            refine w_skip rfl rfl ?_
            refine w_skip rfl rfl ?_
            refine w_step tok rfl ?_
            refine s_pick rfl rfl rfl ?_
            refine s_end ?_
            refine w_end rfl (hK _ ?_); clear hK K
            first|(exact absurd h0 (by decide))|exact ⟨_, (by simp only [Bool.not_eq_true', Bool.not_eq_false'] at h0 h1 h2 h3; simp only [h0, h1, h2, h3, Bool.false_and, Bool.true_and, Bool.not_false, Bool.not_true, Bool.and_true]), Wk.mk' ⟨rfl, rfl, rfl, rfl, rfl, trivial⟩ ⟨rfl, rfl, rfl, trivial⟩⟩
          · refine w_step tok rfl ?_
            refine s_fieldAddr rfl rfl rfl ?_
            refine s_end ?_
            refine w_step tok rfl ?_
            refine s_load rfl rfl rfl ?_
            refine s_end ?_
            refine w_step tok rfl ?_
            refine s_call rfl rfl (short3_c q.x) rfl rfl rfl rfl ?_
            refine s_end ?_
            refine w_step tok rfl ?_
            refine s_un rfl rfl rfl ?_
            refine s_end ?_
            refine w_step tok rfl ?_
            refine s_pick rfl rfl rfl ?_
            refine s_end ?_
            refine w_step tok rfl ?_
            refine s_move rfl rfl rfl ?_
            refine s_end ?_
            refine w_split (fun h4 => ?_) (fun h4 => ?_)
            · refine w_skip rfl rfl ?_
              refine w_skip rfl rfl ?_
              refine w_skip rfl rfl ?_
              refine w_skip rfl rfl ?_
              refine w_step tok rfl ?_
              refine s_pick rfl rfl rfl ?_
              refine s_end ?_
              refine w_end rfl (hK _ ?_); clear hK K
              first|(exact absurd h0 (by decide))|exact ⟨_, (by simp only [Bool.not_eq_true', Bool.not_eq_false'] at h0 h1 h2 h3 h4; simp only [h0, h1, h2, h3, h4, Bool.false_and, Bool.true_and, Bool.not_false, Bool.not_true, Bool.and_true]), Wk.mk' ⟨rfl, rfl, rfl, rfl, rfl, trivial⟩ ⟨rfl, rfl, rfl, trivial⟩⟩
            · refine w_step tok rfl ?_
              refine s_fieldAddr rfl rfl rfl ?_
              refine s_end ?_
              refine w_step tok rfl ?_
              refine s_load rfl rfl rfl ?_
              refine s_end ?_
              refine w_step tok rfl ?_
              refine s_call rfl rfl (short3_c q.y) rfl rfl rfl rfl ?_
              refine s_end ?_
              refine w_step tok rfl ?_
              refine s_un rfl rfl rfl ?_
              refine s_end ?_
              refine w_step tok rfl ?_
              refine s_pick rfl rfl rfl ?_
              refine s_end ?_
              refine w_end rfl (hK _ ?_); clear hK K
              first|(exact absurd h0 (by decide))|exact ⟨_, (by simp only [Bool.not_eq_true', Bool.not_eq_false'] at h0 h1 h2 h3 h4; simp only [h0, h1, h2, h3, h4, Bool.false_and, Bool.true_and, Bool.not_false, Bool.not_true, Bool.and_true]), Wk.mk' ⟨rfl, rfl, rfl, rfl, rfl, trivial⟩ ⟨rfl, rfl, rfl, trivial⟩⟩
  rintro x rfl
  refine a_cond rfl (fun hg => ?_) (fun hg => ?_)
  · refine AWP_reg_seq tok fun K hK => ?_
    refine s_call rfl rfl (awake3_c) rfl rfl rfl rfl ?_
    refine s_assign rfl rfl rfl ?_
    refine s_end (hK _ ?_); clear hK K
    refine AWP_ret ?_
    repeat (with_reducible refine tq_ret ?_)
    exact post_ret (fin_mk (by rfl) (by rfl) (by rfl))
  rw [Bool.not_eq_false', Bool.and_eq_true, Bool.and_eq_true, Bool.and_eq_true, Bool.and_eq_true] at hg
  have ot := light3_ok hg.1 ht
  have o1 := small3_ok hg.2.1 hp.1
  have o2 := small3_ok hg.2.2.1 hp.2
  have o3 := small3_ok hg.2.2.2.1 hq.1
  have o4 := small3_ok hg.2.2.2.2 hq.2
  have c1 := tAct_t t p.x p.y (ot.mono rfl) (o1.mono rfl) (o2.mono rfl)
  have c2 := tAct_t t q.x q.y (ot.mono rfl) (o3.mono rfl) (o4.mono rfl)
  have b1 := ac_ql (m := 100) ot rfl (o1.ql rfl) (o2.ql rfl) (by decide)
  have b2 := ac_ql (m := 100) ot rfl (o3.ql rfl) (o4.ql rfl) (by decide)
  have c3 := square_c p.x p.y q.x q.y (o1.mono rfl) (o2.mono rfl) (o3.mono rfl) (o4.mono rfl)
  have c4 := square_c (qzW (acX t p.x.v p.y.v)) (qzW (acY t p.x.v p.y.v)) (qzW (acX t q.x.v q.y.v)) (qzW (acY t q.x.v q.y.v)) ((qzW_ok b1.1).mono rfl) ((qzW_ok b1.2).mono rfl) ((qzW_ok b2.1).mono rfl) ((qzW_ok b2.2).mono rfl)
  rw [qzW_v, qzW_v, qzW_v, qzW_v] at c4
  have s1 : ql ((q.x.v - p.x.v) * (q.x.v - p.x.v) + (q.y.v - p.y.v) * (q.y.v - p.y.v)) ≤ 200 :=
    le_d (ql_add_le (ql_mul_le (ql_sub_le (o3.ql rfl) (o1.ql rfl)) (ql_sub_le (o3.ql rfl) (o1.ql rfl))) (ql_mul_le (ql_sub_le (o4.ql rfl) (o2.ql rfl)) (ql_sub_le (o4.ql rfl) (o2.ql rfl)))) rfl
  have e : (q.x.v - p.x.v) * (q.x.v - p.x.v) + (q.y.v - p.y.v) * (q.y.v - p.y.v) = (acX t q.x.v q.y.v - acX t p.x.v p.y.v) * (acX t q.x.v q.y.v - acX t p.x.v p.y.v) + (acY t q.x.v q.y.v - acY t p.x.v p.y.v) * (acY t q.x.v q.y.v - acY t p.x.v p.y.v) := by
    have := tn_len t.r.cn_nz (q.x.v - p.x.v) (q.y.v - p.y.v)
    rw [← this]
    unfold acX acY tnX tnY
    grind
  rw [← e] at c4
  have c5 := qCmp_t (qzW ((q.x.v - p.x.v) * (q.x.v - p.x.v) + (q.y.v - p.y.v) * (q.y.v - p.y.v))) (qzW ((q.x.v - p.x.v) * (q.x.v - p.x.v) + (q.y.v - p.y.v) * (q.y.v - p.y.v))) ((qzW_ok s1).mono rfl) ((qzW_ok s1).mono rfl)
  rw [qzW_v] at c5
  generalize (q.x.v - p.x.v) * (q.x.v - p.x.v) + (q.y.v - p.y.v) * (q.y.v - p.y.v) = D at *
  generalize qzW (acX t p.x.v p.y.v) = A1 at *
  generalize qzW (acY t p.x.v p.y.v) = A2 at *
  generalize qzW (acX t q.x.v q.y.v) = A3 at *
  generalize qzW (acY t q.x.v q.y.v) = A4 at *
  generalize qzW D = DD at *
  refine AWP_skip ?_
  show AWP _ _ _ _ _ _
  refine AWP_reg_seq tok fun K hK => ?_
  refine s_load rfl rfl rfl ?_
  refine s_fieldAddr rfl rfl rfl ?_
  refine s_load rfl rfl rfl ?_
  refine s_fieldAddr rfl rfl rfl ?_
  refine s_load rfl rfl rfl ?_
  refine s_call rfl rfl (c1) rfl rfl rfl rfl ?_
  refine s_move rfl rfl rfl ?_
  refine s_extract rfl rfl rfl ?_
  refine s_extract rfl rfl rfl ?_
  refine s_alloc rfl rfl rfl rfl rfl rfl ?_
  refine s_alloc rfl rfl rfl rfl rfl rfl ?_
  refine s_store rfl rfl rfl rfl rfl ?_
  refine s_store rfl rfl rfl rfl rfl ?_
  refine s_end (hK _ ?_); clear hK K
  refine AWP_reg_seq tok fun K hK => ?_
  refine s_load rfl rfl rfl ?_
  refine s_fieldAddr rfl rfl rfl ?_
  refine s_load rfl rfl rfl ?_
  refine s_fieldAddr rfl rfl rfl ?_
  refine s_load rfl rfl rfl ?_
  refine s_call rfl rfl (c2) rfl rfl rfl rfl ?_
  refine s_move rfl rfl rfl ?_
  refine s_extract rfl rfl rfl ?_
  refine s_extract rfl rfl rfl ?_
  refine s_alloc rfl rfl rfl rfl rfl rfl ?_
  refine s_alloc rfl rfl rfl rfl rfl rfl ?_
  refine s_store rfl rfl rfl rfl rfl ?_
  refine s_store rfl rfl rfl rfl rfl ?_
  refine s_end (hK _ ?_); clear hK K
  refine a_draw tok mixed (A := [[], [], [], [], [], [], [], [], [0, 2, 4, 6], [], [], [], [], [0, 1, 2, 3, 4, 5, 6, 7], [0, 1, 2, 3, 4, 5, 6, 7, 9, 10, 11, 12], [0, 1, 2, 3, 4, 5, 6, 7, 8, 9, 10, 11, 12, 13], []]) (an := [{}, {}, {}, {}, {}, {}, {}, {}, {}, { c := [69] }, { c := [69] }, { c := [69] }, { c := [69] }, {}, {}, {}, {}]) rfl (by kernel_rfl) rfl fun K hK => ?_
  refine s_fieldAddr rfl rfl rfl ?_
  refine s_load rfl rfl rfl ?_
  refine s_fieldAddr rfl rfl rfl ?_
  refine s_load rfl rfl rfl ?_
  refine s_fieldAddr rfl rfl rfl ?_
  refine s_load rfl rfl rfl ?_
  refine s_fieldAddr rfl rfl rfl ?_
  refine s_load rfl rfl rfl ?_
  refine s_call rfl rfl (c3) rfl rfl rfl rfl ?_
  refine s_load rfl rfl rfl ?_
  refine s_load rfl rfl rfl ?_
  refine s_load rfl rfl rfl ?_
  refine s_load rfl rfl rfl ?_
  refine s_call rfl rfl (c4) rfl rfl rfl rfl ?_
  refine s_call rfl rfl (c5) rfl rfl rfl rfl ?_
  refine s_bin rfl (e_q0 rfl) rfl ?_
  refine s_assign rfl rfl rfl ?_
  refine s_end (hK _ ?_); clear hK K
  refine AWP_ret ?_
  repeat (with_reducible refine tq_ret ?_)
  exact post_ret (fin_mk (by rfl) (by rfl) (by rfl))
end Go.Proofs.YtipenembpidoiaaDoor

/- Law 3: actions, marks. No condition. -/
namespace Go.Proofs.YtipenembpidoiaaDoor
attribute [local irreducible] lexA

theorem cm_cn (t u : TR) : (cmV t u).r.cn = gc (gm t.r.cn u.r.cn) := by show (pz2 _).cn = _; rw [pz2_cn, gc_idem]
theorem bk_cn (t : TR) : (bkV t).r.cn = inv2 t.r.cn := by show (pz2 _).cn = _; rw [pz2_cn, inv2_can]
theorem ac_cm (t u : TR) (x y : Rat) : acX (cmV t u) x y = acX t (acX u x y) (acY u x y) ∧ acY (cmV t u) x y = acY t (acX u x y) (acY u x y) := by
  have h := tn_gm t.r.cn_nz u.r.cn_nz x y
  have h2 := tn_lin t.r.cn (tnX u.r.cn x y) (tnY u.r.cn x y) u.x.v u.y.v
  have e1 : (cmV t u).x.v = acX t u.x.v u.y.v := qzW_v _
  have e2 : (cmV t u).y.v = acY t u.x.v u.y.v := qzW_v _
  constructor
  · show tnX (cmV t u).r.cn x y + (cmV t u).x.v = tnX t.r.cn (acX u x y) (acY u x y) + t.x.v
    rw [cm_cn, h.1, e1]
    unfold acX acY
    rw [h2.1]; grind
  · show tnY (cmV t u).r.cn x y + (cmV t u).y.v = tnY t.r.cn (acX u x y) (acY u x y) + t.y.v
    rw [cm_cn, h.2, e2]
    unfold acX acY
    rw [h2.2]; grind
theorem ac_bk (u : TR) (x y : Rat) : acX (bkV u) (acX u x y) (acY u x y) = x ∧ acY (bkV u) (acX u x y) (acY u x y) = y := by
  have h := tn_undo u.r.cn_nz x y
  have h2 := tn_lin (inv2 u.r.cn) (tnX u.r.cn x y + u.x.v) (tnY u.r.cn x y + u.y.v) (-u.x.v) (-u.y.v)
  have e1 : (bkV u).x.v = tnX (inv2 u.r.cn) (-u.x.v) (-u.y.v) := qzW_v _
  have e2 : (bkV u).y.v = tnY (inv2 u.r.cn) (-u.x.v) (-u.y.v) := qzW_v _
  have z : ∀ a b : Rat, a + b + -b = a := fun a b => by grind
  rw [z, z] at h2
  constructor
  · show tnX (bkV u).r.cn (acX u x y) (acY u x y) + (bkV u).x.v = x
    rw [bk_cn, e1]; unfold acX acY
    rw [← h2.1, h.1]
  · show tnY (bkV u).r.cn (acX u x y) (acY u x y) + (bkV u).y.v = y
    rw [bk_cn, e2]; unfold acX acY
    rw [← h2.2, h.2]
theorem eq_bk (t : TR) (z w : RW) (hz : z.v = 0) (hw : w.v = 0) : eqT (cmV t (bkV t)) (shV z w) = true := by
  have h := tn_redo t.r.cn_nz (-t.x.v) (-t.y.v)
  have e1 : (cmV t (bkV t)).x.v = 0 := by
    have e : (cmV t (bkV t)).x.v = acX t (bkV t).x.v (bkV t).y.v := qzW_v _
    have b1 : (bkV t).x.v = tnX (inv2 t.r.cn) (-t.x.v) (-t.y.v) := qzW_v _
    have b2 : (bkV t).y.v = tnY (inv2 t.r.cn) (-t.x.v) (-t.y.v) := qzW_v _
    rw [e, b1, b2]; unfold acX; rw [h.1]; grind
  have e2 : (cmV t (bkV t)).y.v = 0 := by
    have e : (cmV t (bkV t)).y.v = acY t (bkV t).x.v (bkV t).y.v := qzW_v _
    have b1 : (bkV t).x.v = tnX (inv2 t.r.cn) (-t.x.v) (-t.y.v) := qzW_v _
    have b2 : (bkV t).y.v = tnY (inv2 t.r.cn) (-t.x.v) (-t.y.v) := qzW_v _
    rw [e, b1, b2]; unfold acY; rw [h.2]; grind
  have s1 : (shV z w).x.v = 0 := by show (qzW z.v).v = 0; rw [qzW_v, hz]
  have s2 : (shV z w).y.v = 0 := by show (qzW w.v).v = 0; rw [qzW_v, hw]
  have s3 : (shV z w).r.cn = one2 := by show (pz2 one2).cn = _; rw [pz2_cn, gc_one]
  unfold eqT
  rw [e1, e2, s1, s2, s3, cm_cn, bk_cn, gm_inv t.r.cn_nz, decide_eq_true rfl, decide_eq_true rfl]; rfl

set_option maxHeartbeats 4000000 in
theorem lActs_c (t u : TR) (p : SP) (ht : t.W) (hu : u.W) (hp : p.W) : Con Tryd.prog 9 [AG t.cs, AG u.cs, AG p.cs] { v := dB true } := by
  refine con_intro (fn := Tryd.f9) tok Tryd.func9 (by kernel_rfl) rfl ?_
  intro w0 X
  rw [entry_mkE _ _ [(0, AG t.cs), (1, AG u.cs), (2, AG p.cs)] rfl rfl]
  refine AWP_reg_seq tok fun K hK => ?_
  refine s_box rfl rfl rfl rfl rfl rfl ?_
  refine s_box rfl rfl rfl rfl rfl rfl ?_
  refine s_box rfl rfl rfl rfl rfl rfl ?_
  refine s_assign rfl rfl rfl ?_
  refine s_end (hK _ ?_); clear hK K
  refine AWP_seq ?_
  refine a_join (α := Bool) (fun x => mk 109 [(3, .ptr 3 0), (4, .ptr 4 0), (5, .ptr 5 0), (6, dB false), (39, dB x)] [(3, some (.box t.cs)), (4, some (.box u.cs)), (5, some (.box p.cs))] []) (fun x => x = !(light3 t && (light3 u && (small3 p.x && small3 p.y)))) ?_ ?_
  · refine AWP_regW fun K hK => ?_
    refine w_step tok rfl ?_
    refine s_call rfl rfl (awake3_c) rfl rfl rfl rfl ?_
    refine s_end ?_
    refine w_step tok rfl ?_
    refine s_un rfl rfl rfl ?_
    refine s_end ?_
    refine w_step tok rfl ?_
    refine s_move rfl rfl rfl ?_
    refine s_end ?_
    refine w_split (fun h0 => ?_) (fun h0 => ?_)
    · refine w_skip rfl rfl ?_
      refine w_skip rfl rfl ?_
      refine w_skip rfl rfl ?_
      refine w_step tok rfl ?_
      refine s_pick rfl rfl rfl ?_
      refine s_end ?_
      refine w_step tok rfl ?_
      refine s_move rfl rfl rfl ?_
      refine s_end ?_
      refine w_skip rfl rfl ?_
      refine w_skip rfl rfl ?_
      refine w_skip rfl rfl ?_
      refine w_step tok rfl ?_
      refine s_pick rfl rfl rfl ?_
      refine s_end ?_
      refine w_step tok rfl ?_
      refine s_move rfl rfl rfl ?_
      refine s_end ?_
      refine w_skip rfl rfl ?_
      refine w_skip rfl rfl ?_
      refine w_skip rfl rfl ?_
      refine w_skip rfl rfl ?_
      refine w_step tok rfl ?_
      refine s_pick rfl rfl rfl ?_
      refine s_end ?_
      refine w_step tok rfl ?_
      refine s_move rfl rfl rfl ?_
      refine s_end ?_
      refine w_skip rfl rfl ?_
      refine w_skip rfl rfl ?_
      refine w_skip rfl rfl ?_
      refine w_skip rfl rfl ?_
      refine w_step tok rfl ?_
      refine s_pick rfl rfl rfl ?_
      refine s_end ?_
      refine w_end rfl (hK _ ?_); clear hK K
      first|(exact absurd h0 (by decide))|exact ⟨_, (by simp only [Bool.not_eq_true', Bool.not_eq_false'] at h0; simp only [h0, Bool.false_and, Bool.true_and, Bool.not_false, Bool.not_true, Bool.and_true]), Wk.mk' ⟨rfl, rfl, rfl, rfl, rfl, trivial⟩ ⟨rfl, rfl, rfl, trivial⟩⟩
    · refine w_step tok rfl ?_
      refine s_load rfl rfl rfl ?_
      refine s_end ?_
      refine w_step tok rfl ?_
      refine s_call rfl rfl (light3_c t) rfl rfl rfl rfl ?_
      refine s_end ?_
      refine w_step tok rfl ?_
      refine s_un rfl rfl rfl ?_
      refine s_end ?_
      refine w_step tok rfl ?_
      refine s_pick rfl rfl rfl ?_
      refine s_end ?_
      refine w_step tok rfl ?_
      refine s_move rfl rfl rfl ?_
      refine s_end ?_
      refine w_split (fun h1 => ?_) (fun h1 => ?_)
      · refine w_skip rfl rfl ?_
        refine w_skip rfl rfl ?_
        refine w_skip rfl rfl ?_
        refine w_step tok rfl ?_
        refine s_pick rfl rfl rfl ?_
        refine s_end ?_
        refine w_step tok rfl ?_
        refine s_move rfl rfl rfl ?_
        refine s_end ?_
        refine w_skip rfl rfl ?_
        refine w_skip rfl rfl ?_
        refine w_skip rfl rfl ?_
        refine w_skip rfl rfl ?_
        refine w_step tok rfl ?_
        refine s_pick rfl rfl rfl ?_
        refine s_end ?_
        refine w_step tok rfl ?_
        refine s_move rfl rfl rfl ?_
        refine s_end ?_
        refine w_skip rfl rfl ?_
        refine w_skip rfl rfl ?_
        refine w_skip rfl rfl ?_
        refine w_skip rfl rfl ?_
        refine w_step tok rfl ?_
        refine s_pick rfl rfl rfl ?_
        refine s_end ?_
        refine w_end rfl (hK _ ?_); clear hK K
        first|(exact absurd h0 (by decide))|exact ⟨_, (by simp only [Bool.not_eq_true', Bool.not_eq_false'] at h0 h1; simp only [h0, h1, Bool.false_and, Bool.true_and, Bool.not_false, Bool.not_true, Bool.and_true]), Wk.mk' ⟨rfl, rfl, rfl, rfl, rfl, trivial⟩ ⟨rfl, rfl, rfl, trivial⟩⟩
      · refine w_step tok rfl ?_
        refine s_load rfl rfl rfl ?_
        refine s_end ?_
        refine w_step tok rfl ?_
        refine s_call rfl rfl (light3_c u) rfl rfl rfl rfl ?_
        refine s_end ?_
        refine w_step tok rfl ?_
        refine s_un rfl rfl rfl ?_
        refine s_end ?_
        refine w_step tok rfl ?_
        refine s_pick rfl rfl rfl ?_
        refine s_end ?_
        refine w_step tok rfl ?_
        refine s_move rfl rfl rfl ?_
        refine s_end ?_
        refine w_split (fun h2 => ?_) (fun h2 => ?_)
        · refine w_skip rfl rfl ?_
          refine w_skip rfl rfl ?_
          refine w_skip rfl rfl ?_
          refine w_skip rfl rfl ?_
          refine w_step tok rfl ?_
          refine s_pick rfl rfl rfl ?_
          refine s_end ?_
          refine w_step tok rfl ?_
          refine s_move rfl rfl rfl ?_
          refine s_end ?_
          refine w_skip rfl rfl ?_
          refine w_skip rfl rfl ?_
          refine w_skip rfl rfl ?_
          refine w_skip rfl rfl ?_
          refine w_step tok rfl ?_
          refine s_pick rfl rfl rfl ?_
          refine s_end ?_
          refine w_end rfl (hK _ ?_); clear hK K
          first|(exact absurd h0 (by decide))|exact ⟨_, (by simp only [Bool.not_eq_true', Bool.not_eq_false'] at h0 h1 h2; simp only [h0, h1, h2, Bool.false_and, Bool.true_and, Bool.not_false, Bool.not_true, Bool.and_true]), Wk.mk' ⟨rfl, rfl, rfl, rfl, rfl, trivial⟩ ⟨rfl, rfl, rfl, trivial⟩⟩
        · refine w_step tok rfl ?_
          refine s_fieldAddr rfl rfl rfl ?_
          refine s_end ?_
          refine w_step tok rfl ?_
          refine s_load rfl rfl rfl ?_
          refine s_end ?_
          refine w_step tok rfl ?_
          refine s_call rfl rfl (short3_c p.x) rfl rfl rfl rfl ?_
          refine s_end ?_
          refine w_step tok rfl ?_
          refine s_un rfl rfl rfl ?_
          refine s_end ?_
          refine w_step tok rfl ?_
          refine s_pick rfl rfl rfl ?_
          refine s_end ?_
          refine w_step tok rfl ?_
          refine s_move rfl rfl rfl ?_
          refine s_end ?_
          refine w_split (fun h3 => ?_) (fun h3 => ?_)
          · refine w_skip rfl rfl ?_
            refine w_skip rfl rfl ?_
            refine w_skip rfl rfl ?_
            refine w_skip rfl rfl ?_
            refine w_step tok rfl ?_
            refine s_pick rfl rfl rfl ?_
            refine s_end ?_
            refine w_end rfl (hK _ ?_); clear hK K
            first|(exact absurd h0 (by decide))|exact ⟨_, (by simp only [Bool.not_eq_true', Bool.not_eq_false'] at h0 h1 h2 h3; simp only [h0, h1, h2, h3, Bool.false_and, Bool.true_and, Bool.not_false, Bool.not_true, Bool.and_true]), Wk.mk' ⟨rfl, rfl, rfl, rfl, rfl, trivial⟩ ⟨rfl, rfl, rfl, trivial⟩⟩
          · refine w_step tok rfl ?_
            refine s_fieldAddr rfl rfl rfl ?_
            refine s_end ?_
            refine w_step tok rfl ?_
            refine s_load rfl rfl rfl ?_
            refine s_end ?_
            refine w_step tok rfl ?_
            refine s_call rfl rfl (short3_c p.y) rfl rfl rfl rfl ?_
            refine s_end ?_
            refine w_step tok rfl ?_
            refine s_un rfl rfl rfl ?_
            refine s_end ?_
            refine w_step tok rfl ?_
            refine s_pick rfl rfl rfl ?_
            refine s_end ?_
            refine w_end rfl (hK _ ?_); clear hK K
            first|(exact absurd h0 (by decide))|exact ⟨_, (by simp only [Bool.not_eq_true', Bool.not_eq_false'] at h0 h1 h2 h3; simp only [h0, h1, h2, h3, Bool.false_and, Bool.true_and, Bool.not_false, Bool.not_true, Bool.and_true]), Wk.mk' ⟨rfl, rfl, rfl, rfl, rfl, trivial⟩ ⟨rfl, rfl, rfl, trivial⟩⟩
  rintro x rfl
  refine a_cond rfl (fun hg => ?_) (fun hg => ?_)
  · refine AWP_reg_seq tok fun K hK => ?_
    refine s_call rfl rfl (awake3_c) rfl rfl rfl rfl ?_
    refine s_assign rfl rfl rfl ?_
    refine s_end (hK _ ?_); clear hK K
    refine AWP_ret ?_
    repeat (with_reducible refine tq_ret ?_)
    exact post_ret (fin_mk (by rfl) (by rfl) (by rfl))
  rw [Bool.not_eq_false', Bool.and_eq_true, Bool.and_eq_true, Bool.and_eq_true] at hg
  have ot := light3_ok hg.1 ht
  have ou := light3_ok hg.2.1 hu
  have o1 := small3_ok hg.2.2.1 hp.1
  have o2 := small3_ok hg.2.2.2 hp.2
  have c1 := tAct_t u p.x p.y (ou.mono rfl) (o1.mono rfl) (o2.mono rfl)
  have b1 := ac_ql (m := 100) ou rfl (o1.ql rfl) (o2.ql rfl) (by decide)
  have ob := bk_ok (m := 100) ou rfl (by decide)
  have obt := bk_ok (m := 100) ot rfl (by decide)
  have oc := cm_ok (m := 100) ot rfl ou rfl (by decide)
  have oct := cm_ok (m := 1000) ot rfl obt rfl (by decide)
  have c3 := tCompose_t t u (ot.mono rfl) (ou.mono rfl)
  have c4 := tAct_t (cmV t u) p.x p.y (oc.mono rfl) (o1.mono rfl) (o2.mono rfl)
  rw [(ac_cm t u _ _).1, (ac_cm t u _ _).2] at c4
  have c5 := tBack_t u (ou.mono rfl)
  have c6 := tAct_t (bkV u) (qzW (acX u p.x.v p.y.v)) (qzW (acY u p.x.v p.y.v)) (ob.mono rfl) ((qzW_ok b1.1).mono rfl) ((qzW_ok b1.2).mono rfl)
  rw [qzW_v, qzW_v, (ac_bk u _ _).1, (ac_bk u _ _).2] at c6
  have c2 := tAct_t t (qzW (acX u p.x.v p.y.v)) (qzW (acY u p.x.v p.y.v)) (ot.mono rfl) ((qzW_ok b1.1).mono rfl) ((qzW_ok b1.2).mono rfl)
  rw [qzW_v, qzW_v] at c2
  have b2 := ac_ql (m := 300) ot rfl b1.1 b1.2 (by decide)
  have c7 := tBack_t t (ot.mono rfl)
  have c8 := tCompose_t t (bkV t) (ot.mono rfl) (obt.mono rfl)
  have c9 := rat_same_t _ (qzW_ok b2.1) rfl
  have c10 := rat_same_t _ (qzW_ok b2.2) rfl
  have c11 := qCmp_t (qzW p.x.v) p.x ((qzW_ok (o1.ql rfl)).mono rfl) (o1.mono rfl)
  rw [qzW_v] at c11
  have c12 := qCmp_t (qzW p.y.v) p.y ((qzW_ok (o2.ql rfl)).mono rfl) (o2.mono rfl)
  rw [qzW_v] at c12
  have c13 := tShift_t (qzW 0) (qzW 0) (ok_q0.mono rfl) (ok_q0.mono rfl)
  have c14 := tEqual_t (cmV t (bkV t)) (shV (qzW 0) (qzW 0)) (oct.mono rfl) ((sh_ok rfl ok_q0 ok_q0).mono rfl)
  rw [eq_bk t _ _ (qzW_v 0) (qzW_v 0)] at c14
  have f1 := qOf0_t
  generalize cmV t (bkV t) = id at *
  generalize shV (qzW 0) (qzW 0) = sh at *
  generalize cmV t u = tu at *
  generalize bkV t = bt at *
  generalize bkV u = bu at *
  generalize qzW (acX t (acX u p.x.v p.y.v) (acY u p.x.v p.y.v)) = v1 at *
  generalize qzW (acY t (acX u p.x.v p.y.v) (acY u p.x.v p.y.v)) = v2 at *
  generalize qzW (acX u p.x.v p.y.v) = x1 at *
  generalize qzW (acY u p.x.v p.y.v) = x2 at *
  generalize qzW (0 : Rat) = z at *
  generalize qzW p.x.v = px at *
  generalize qzW p.y.v = py at *
  refine AWP_skip ?_
  show AWP _ _ _ _ _ _
  refine AWP_reg_seq tok fun K hK => ?_
  refine s_load rfl rfl rfl ?_
  refine s_fieldAddr rfl rfl rfl ?_
  refine s_load rfl rfl rfl ?_
  refine s_fieldAddr rfl rfl rfl ?_
  refine s_load rfl rfl rfl ?_
  refine s_call rfl rfl (c1) rfl rfl rfl rfl ?_
  refine s_move rfl rfl rfl ?_
  refine s_extract rfl rfl rfl ?_
  refine s_extract rfl rfl rfl ?_
  refine s_alloc rfl rfl rfl rfl rfl rfl ?_
  refine s_alloc rfl rfl rfl rfl rfl rfl ?_
  refine s_store rfl rfl rfl rfl rfl ?_
  refine s_store rfl rfl rfl rfl rfl ?_
  refine s_end (hK _ ?_); clear hK K
  refine AWP_reg_seq tok fun K hK => ?_
  refine s_load rfl rfl rfl ?_
  refine s_load rfl rfl rfl ?_
  refine s_load rfl rfl rfl ?_
  refine s_call rfl rfl (c2) rfl rfl rfl rfl ?_
  refine s_move rfl rfl rfl ?_
  refine s_extract rfl rfl rfl ?_
  refine s_extract rfl rfl rfl ?_
  refine s_alloc rfl rfl rfl rfl rfl rfl ?_
  refine s_alloc rfl rfl rfl rfl rfl rfl ?_
  refine s_store rfl rfl rfl rfl rfl ?_
  refine s_store rfl rfl rfl rfl rfl ?_
  refine s_end (hK _ ?_); clear hK K
  refine a_draw tok mixed (A := [[], [], [], [], [], [], [], [0, 1, 3, 5], [0, 1, 2, 3, 4, 5, 6], [0, 1, 2, 3, 4, 5, 6, 7], [0, 1, 2, 3, 4, 5, 6, 7], [], [], [], []]) (an := [{}, {}, {}, { c := [60] }, { c := [60] }, { c := [60] }, { c := [60] }, {}, {}, {}, {}, { c := [60, 65] }, { c := [60, 65, 11] }, {}, {}]) rfl (by kernel_rfl) rfl fun K hK => ?_
  refine s_load rfl rfl rfl ?_
  refine s_load rfl rfl rfl ?_
  refine s_call rfl rfl (c3) rfl rfl rfl rfl ?_
  refine s_fieldAddr rfl rfl rfl ?_
  refine s_load rfl rfl rfl ?_
  refine s_fieldAddr rfl rfl rfl ?_
  refine s_load rfl rfl rfl ?_
  refine s_call rfl rfl (c4) rfl rfl rfl rfl ?_
  refine s_move rfl rfl rfl ?_
  refine s_extract rfl rfl rfl ?_
  refine s_extract rfl rfl rfl ?_
  refine s_alloc rfl rfl rfl rfl rfl rfl ?_
  refine s_alloc rfl rfl rfl rfl rfl rfl ?_
  refine s_store rfl rfl rfl rfl rfl ?_
  refine s_store rfl rfl rfl rfl rfl ?_
  refine s_end (hK _ ?_); clear hK K
  refine a_draw tok mixed (A := [[], [], [], [], [0], [0, 1, 2, 3], [0, 1, 2, 3, 4], [0, 1, 2, 3, 4], [], [], [], []]) (an := [{}, {}, { c := [70] }, { c := [70] }, {}, {}, {}, {}, { c := [70, 73] }, { c := [70, 73, 13] }, {}, {}]) rfl (by kernel_rfl) rfl fun K hK => ?_
  refine s_load rfl rfl rfl ?_
  refine s_call rfl rfl (c5) rfl rfl rfl rfl ?_
  refine s_load rfl rfl rfl ?_
  refine s_load rfl rfl rfl ?_
  refine s_call rfl rfl (c6) rfl rfl rfl rfl ?_
  refine s_move rfl rfl rfl ?_
  refine s_extract rfl rfl rfl ?_
  refine s_extract rfl rfl rfl ?_
  refine s_alloc rfl rfl rfl rfl rfl rfl ?_
  refine s_alloc rfl rfl rfl rfl rfl rfl ?_
  refine s_store rfl rfl rfl rfl rfl ?_
  refine s_store rfl rfl rfl rfl rfl ?_
  refine s_end (hK _ ?_); clear hK K
  refine a_draw tok mixed (A := [[], [], [], [1], [], []]) (an := [{}, {}, {}, {}, { c := [78, 79] }, {}]) rfl (by kernel_rfl) rfl fun K hK => ?_
  refine s_load rfl rfl rfl ?_
  refine s_load rfl rfl rfl ?_
  refine s_call rfl rfl (c7) rfl rfl rfl rfl ?_
  refine s_call rfl rfl (c8) rfl rfl rfl rfl ?_
  refine s_alloc rfl rfl rfl rfl rfl rfl ?_
  refine s_store rfl rfl rfl rfl rfl ?_
  refine s_end (hK _ ?_); clear hK K
  refine a_draw tok mixed (A := [[], [], [], [0, 1], [0, 1, 2], [0, 1, 2], [0, 1, 2], [0, 1, 2, 4, 5], [0, 1, 2, 3, 4, 5], [0, 1, 2, 3, 4, 5, 6, 7], [0, 1, 2, 3, 4, 5, 6, 7], [0, 1, 2, 3, 4, 5, 6, 7], [0, 1, 2, 3, 4, 5, 6, 7, 10], [0, 1, 2, 3, 4, 5, 6, 7, 9, 10, 11], [0, 1, 2, 3, 4, 5, 6, 7, 9, 10, 11, 12], [0, 1, 2, 3, 4, 5, 6, 7, 8, 9, 10, 11, 13], [0, 1, 2, 3, 4, 5, 6, 7, 8, 9, 10, 11, 12, 13, 14], [0, 1, 2, 3, 4, 5, 6, 7, 8, 9, 10, 11, 12, 13, 14], [0, 1, 2, 3, 4, 5, 6, 7, 8, 9, 10, 11, 12, 13, 14], [0, 1, 2, 3, 4, 5, 6, 7, 8, 9, 10, 11, 12, 13, 14, 17], [0, 1, 2, 3, 4, 5, 6, 7, 8, 9, 10, 11, 12, 13, 14, 16, 17, 18], [0, 1, 2, 3, 4, 5, 6, 7, 8, 9, 10, 11, 12, 13, 14, 16, 17, 18, 19], [0, 1, 2, 3, 4, 5, 6, 7, 8, 9, 10, 11, 12, 13, 14, 15, 16, 17, 18, 20], [0, 1, 2, 3, 4, 5, 6, 7, 8, 9, 10, 11, 12, 13, 14, 15, 16, 17, 18, 19, 20, 21], [0, 1, 2, 3, 4, 5, 6, 7, 8, 9, 10, 11, 12, 13, 14, 15, 16, 17, 18, 19, 20, 21], [0, 1, 2, 3, 4, 5, 6, 7, 8, 9, 10, 11, 12, 13, 14, 15, 16, 17, 18, 19, 20, 21], [0, 1, 2, 3, 4, 5, 6, 7, 8, 9, 10, 11, 12, 13, 14, 15, 16, 17, 18, 19, 20, 21], [0, 1, 2, 3, 4, 5, 6, 7, 8, 9, 10, 11, 12, 13, 14, 15, 16, 17, 18, 19, 20, 21, 24, 25], [0, 1, 2, 3, 4, 5, 6, 7, 8, 9, 10, 11, 12, 13, 14, 15, 16, 17, 18, 19, 20, 21, 23, 24, 25, 26], []]) (an := [{}, {}, {}, {}, {}, {}, {}, {}, {}, {}, {}, {}, {}, {}, {}, {}, {}, {}, {}, {}, {}, {}, {}, {}, {}, {}, {}, {}, {}, {}]) rfl (by kernel_rfl) rfl fun K hK => ?_
  refine s_load rfl rfl rfl ?_
  refine s_load rfl rfl rfl ?_
  refine s_call rfl rfl (c9) rfl rfl rfl rfl ?_
  refine s_move rfl rfl rfl ?_
  refine s_load rfl rfl rfl ?_
  refine s_load rfl rfl rfl ?_
  refine s_call rfl rfl (c10) rfl rfl rfl rfl ?_
  refine s_pick rfl rfl rfl ?_
  refine s_move rfl rfl rfl ?_
  refine s_load rfl rfl rfl ?_
  refine s_fieldAddr rfl rfl rfl ?_
  refine s_load rfl rfl rfl ?_
  refine s_call rfl rfl (c11) rfl rfl rfl rfl ?_
  refine s_bin rfl (e_q0 rfl) rfl ?_
  refine s_pick rfl rfl rfl ?_
  refine s_move rfl rfl rfl ?_
  refine s_load rfl rfl rfl ?_
  refine s_fieldAddr rfl rfl rfl ?_
  refine s_load rfl rfl rfl ?_
  refine s_call rfl rfl (c12) rfl rfl rfl rfl ?_
  refine s_bin rfl (e_q0 rfl) rfl ?_
  refine s_pick rfl rfl rfl ?_
  refine s_move rfl rfl rfl ?_
  refine s_load rfl rfl rfl ?_
  refine s_call rfl rfl (f1) rfl rfl rfl rfl ?_
  refine s_call rfl rfl (f1) rfl rfl rfl rfl ?_
  refine s_call rfl rfl (c13) rfl rfl rfl rfl ?_
  refine s_call rfl rfl (c14) rfl rfl rfl rfl ?_
  refine s_pick rfl rfl rfl ?_
  refine s_assign rfl rfl rfl ?_
  refine s_end (hK _ ?_); clear hK K
  refine AWP_ret ?_
  repeat (with_reducible refine tq_ret ?_)
  exact post_ret (fin_mk (by rfl) (by rfl) (by rfl))
end Go.Proofs.YtipenembpidoiaaDoor

/- Law 3: marks, sums of exponents, orders. No condition. -/
namespace Go.Proofs.YtipenembpidoiaaDoor
attribute [local irreducible] lexA

theorem drN_le (h : Nat) : ∀ n, (-8192 ≤ (drN h n).1 ∧ (drN h n).1 ≤ 8192) ∧ (-8192 ≤ (drN h n).2 ∧ (drN h n).2 ≤ 8192)
  | 0 => by
    have h1 : ((h % 64 : Nat) : Int) ≤ 63 := by omega
    have h2 : 0 ≤ ((h % 64 : Nat) : Int) * ((h % 64 : Nat) : Int) := Int.mul_nonneg (by omega) (by omega)
    have h3 : ((h % 64 : Nat) : Int) * ((h % 64 : Nat) : Int) ≤ 63 * 63 := Int.mul_le_mul h1 h1 (by omega) (by omega)
    simp only [drN]
    omega
  | n + 1 => by
    have := drN_le h n
    simp only [drN]
    omega
theorem drD_le (h : Nat) : 0 < drD h ∧ drD h ≤ 8192 := by
  have h1 : ((h % 64 : Nat) : Int) ≤ 63 := by omega
  have h2 : 0 ≤ ((h % 64 : Nat) : Int) * ((h % 64 : Nat) : Int) := Int.mul_nonneg (by omega) (by omega)
  have h3 : ((h % 64 : Nat) : Int) * ((h % 64 : Nat) : Int) ≤ 63 * 63 := Int.mul_le_mul h1 h1 (by omega) (by omega)
  unfold drD; omega
def vcs (x y d : Int) : List SC := [.d (lI x), .d (lI y), .d (lI d)]

theorem direction_c (h : Int) (hh : I64 h) : Con Tryd.prog 36 [dI h] { v := AG (vcs (drN (h % 256).toNat ((h % 256).toNat / 64)).1 (drN (h % 256).toNat ((h % 256).toNat / 64)).2 (drD (h % 256).toNat)) } := by
  have c1 := bMod_c h 256 hh (by decide) (by decide)
  have hM0 : ((h % 256).toNat : Int) = h % 256 := by omega
  obtain ⟨H, hH⟩ : ∃ H, (h % 256).toNat = H := ⟨_, rfl⟩
  rw [hH] at hM0
  rw [hH]
  rw [← hM0] at c1
  have hH2 : H < 256 := by omega
  have e2 : effBin tab .rem 3 (dI H) (dI 64) = .set (dI ((H % 64 : Nat) : Int)) := e_remI' (by decide)
  have e3 : effBin tab .quo 3 (dI H) (dI 64) = .set (dI ((H / 64 : Nat) : Int)) := e_quoI' (by decide) rfl (by unfold I64; omega)
  have b0 := drN_le H 0
  have bd := drD_le H
  have hkk : ((H % 64 : Nat) : Int) ≤ 63 := by omega
  have h2 : 0 ≤ ((H % 64 : Nat) : Int) * ((H % 64 : Nat) : Int) := Int.mul_nonneg (by omega) (by omega)
  have h3 : ((H % 64 : Nat) : Int) * ((H % 64 : Nat) : Int) ≤ 63 * 63 := Int.mul_le_mul hkk hkk (by omega) (by omega)
  have q1 : 4096 - ((H % 64 : Nat) : Int) * ((H % 64 : Nat) : Int) = (drN H 0).1 := rfl
  have q2 : 128 * ((H % 64 : Nat) : Int) = (drN H 0).2 := rfl
  have q3 : 4096 + ((H % 64 : Nat) : Int) * ((H % 64 : Nat) : Int) = drD H := rfl
  refine con_intro (fn := Tryd.f36) tok Tryd.func36 (by kernel_rfl) rfl ?_
  intro w0 X
  rw [entry_mkE _ _ [(0, dI h)] rfl rfl]
  refine AWP_reg_seq tok fun K hK => ?_
  refine s_alloc rfl rfl rfl rfl rfl rfl ?_
  refine s_end (hK _ ?_); clear hK K
  refine AWP_reg_seq tok fun K hK => ?_
  refine s_move rfl rfl rfl ?_
  refine s_call rfl rfl (c1) rfl rfl rfl rfl ?_
  refine s_assign rfl rfl rfl ?_
  refine s_end (hK _ ?_); clear hK K
  refine AWP_reg_seq tok fun K hK => ?_
  refine s_move rfl rfl rfl ?_
  refine s_bin rfl e2 rfl ?_
  refine s_assign rfl rfl rfl ?_
  refine s_end (hK _ ?_); clear hK K
  refine AWP_reg_seq tok fun K hK => ?_
  refine s_move rfl rfl rfl ?_
  refine s_move rfl rfl rfl ?_
  refine s_bin rfl (e_mul rfl (by omega)) rfl ?_
  refine s_bin rfl (e_sub q1 (by omega)) rfl ?_
  refine s_move rfl rfl rfl ?_
  refine s_bin rfl (e_mul q2 (by omega)) rfl ?_
  refine s_move rfl rfl rfl ?_
  refine s_move rfl rfl rfl ?_
  refine s_bin rfl (e_mul rfl (by omega)) rfl ?_
  refine s_bin rfl (e_add q3 (by omega)) rfl ?_
  refine s_build rfl rfl rfl ?_
  refine s_alloc rfl rfl rfl rfl rfl rfl ?_
  refine s_store rfl rfl rfl rfl rfl ?_
  refine s_end (hK _ ?_); clear hK K
  refine AWP_seq ?_
  refine AWP_reg_seq tok fun K hK => ?_
  refine s_assign rfl rfl rfl ?_
  refine s_end (hK _ ?_); clear hK K
  refine AWP_block (a_loop (α := Nat) (fun i => mk 36 [(0, dI H), (2, .ptr 2 0), (4, .ptr 4 0), (5, dI i)] [(2, some (.box [.d (lI 0), .d (lI 0), .d (lI 0)])), (4, some (.box (vcs (drN H i).1 (drN H i).2 (drD H))))] []) (fun i => i ≤ H / 64) (fun i => H / 64 - i) 0 ?_ (Nat.zero_le _) ?_)
  · exact Wk.mk' ⟨rfl, rfl, rfl, rfl, trivial⟩ ⟨rfl, rfl, trivial⟩
  intro i hi
  refine AWP_seq ?_
  refine AWP_reg_seq tok fun K hK => ?_
  refine s_move rfl rfl rfl ?_
  refine s_move rfl rfl rfl ?_
  refine s_bin rfl e3 rfl ?_
  refine s_bin rfl rfl rfl ?_
  refine s_end (hK _ ?_); clear hK K
  refine a_cond rfl (fun hg => ?_) (fun hg => ?_)
  · have hg : i < H / 64 := by have := of_decide_eq_true hg; omega
    have bi := drN_le H i
    refine AWP_skip ?_
    show AWP _ _ _ _ _ _
    refine AWP_seq ?_
    refine AWP_block ?_
    refine AWP_reg tok fun K hK => ?_
    refine s_fieldAddr rfl rfl rfl ?_
    refine s_load rfl rfl rfl ?_
    refine s_un rfl (e_negI (c := -(drN H i).2) rfl (by unfold I64; omega)) rfl ?_
    refine s_fieldAddr rfl rfl rfl ?_
    refine s_load rfl rfl rfl ?_
    refine s_fieldAddr rfl rfl rfl ?_
    refine s_load rfl rfl rfl ?_
    refine s_build rfl rfl rfl ?_
    refine s_store rfl rfl rfl rfl rfl ?_
    refine s_end (hK _ ?_); clear hK K
    show AWP _ _ _ _ _ _
    refine AWP_reg tok fun K hK => ?_
    refine s_move rfl rfl rfl ?_
    refine s_bin rfl (e_add (c := ((i + 1 : Nat) : Int)) (by omega) (by omega)) rfl ?_
    refine s_assign rfl rfl rfl ?_
    refine s_end (hK _ ?_); clear hK K
    exact ⟨i + 1, by omega, hg, Wk.mk' ⟨rfl, rfl, rfl, rfl, trivial⟩ ⟨rfl, rfl, trivial⟩⟩
  · have hg : i = H / 64 := by have := of_decide_eq_false hg; omega
    subst hg
    refine AWP_exit ?_
    show AWP _ _ _ _ _ _
    refine AWP_reg_seq tok fun K hK => ?_
    refine s_load rfl rfl rfl ?_
    refine s_store rfl rfl rfl rfl rfl ?_
    refine s_end (hK _ ?_); clear hK K
    refine AWP_ret ?_
    repeat (with_reducible refine tq_ret ?_)
    exact post_ret (fin_mk (by rfl) (by rfl) (by rfl))
theorem mul_b {a b : Int} (ha : -8192 ≤ a ∧ a ≤ 8192) (hb : -8192 ≤ b ∧ b ≤ 8192) : -67108864 ≤ a * b ∧ a * b ≤ 67108864 := by
  have h1 : (a * b).natAbs ≤ 8192 * 8192 := by rw [Int.natAbs_mul]; exact Nat.mul_le_mul (by omega) (by omega)
  omega
theorem mk2_ok (h : Int) : (pz2 (mk2 (h % 256).toNat)).OK 16 := by
  obtain ⟨H, hH⟩ : ∃ H, (h % 256).toNat = H := ⟨_, rfl⟩
  rw [hH]
  have : ∀ n, zl (mkN H n).1 ≤ n * 3 + 2 ∧ zl (mkN H n).2 ≤ n * 3 + 2 := by
    intro n
    induction n with
    | zero => exact gc_zl (by decide) ⟨zl_i64 ⟨by simp only; omega, by simp only; omega⟩, zl_i64 ⟨by simp only; omega, by simp only; omega⟩⟩
    | succ n ih => exact zl_gm (l := 1) ih ⟨by decide, by decide⟩ (by omega)
  have := this (H / 64)
  exact pz2_ok ⟨by show zl (mkN H (H / 64)).1 ≤ _; omega, by show zl (mkN H (H / 64)).2 ≤ _; omega⟩

theorem qOfR_t (n d : Int) (hn : I64 n) (hd : I64 d) : Con Tryd.prog 15 [dI n, dI d] { v := AG (qzW ((n : Rat) / (d : Rat))).cs } := by
  rw [← Rat.divInt_eq_div]
  exact qOf_c n d hn hd
theorem rat_q (x1 y1 d1 x2 y2 d2 : Int) (h1 : 0 < d1) (h2 : 0 < d2) :
    ((x1 : Rat) / d1) * ((x2 : Rat) / d2) - ((y1 : Rat) / d1) * ((y2 : Rat) / d2) = ((x1 * x2 - y1 * y2 : Int) : Rat) / ((d1 * d2 : Int) : Rat) ∧
    ((y1 : Rat) / d1) * ((x2 : Rat) / d2) + ((x1 : Rat) / d1) * ((y2 : Rat) / d2) = ((x1 * y2 + y1 * x2 : Int) : Rat) / ((d1 * d2 : Int) : Rat) := by
  have n1 : (d1 : Rat) ≠ 0 := by intro h; have : d1 = 0 := by exact_mod_cast h
                                 omega
  have n2 : (d2 : Rat) ≠ 0 := by intro h; have : d2 = 0 := by exact_mod_cast h
                                 omega
  simp only [Rat.intCast_sub, Rat.intCast_mul, Rat.intCast_add]
  generalize (d1 : Rat) = a at *
  generalize (d2 : Rat) = b at *
  constructor <;> grind

set_option maxHeartbeats 4000000 in
theorem lMarks_c (h k : Int) (hh : I64 h) (hk : I64 k) : Con Tryd.prog 7 [dI h, dI k] { v := dB true } := by
  have c1 := direction_c h hh
  have c2 := direction_c k hk
  have m1 := tMark_t h
  have m2 := tMark_t k
  have o1 := mk2_ok h
  have o2 := mk2_ok k
  generalize (h % 256).toNat = H at *
  generalize (k % 256).toNat = G at *
  have b1 := drN_le H (H / 64)
  have b2 := drN_le G (G / 64)
  have d1 := drD_le H
  have d2 := drD_le G
  have s1 : cs2 (mk2 H) = _ ∧ sn2 (mk2 H) = _ := mkN_cs H (H / 64)
  have s2 : cs2 (mk2 G) = _ ∧ sn2 (mk2 G) = _ := mkN_cs G (G / 64)
  have z1 : nz (mk2 H) := mkN_nz H (H / 64)
  have z2 : nz (mk2 G) := mkN_nz G (G / 64)
  have g1 : gc (mk2 H) = mk2 H := mkN_gc H (H / 64)
  have g2 : gc (mk2 G) = mk2 G := mkN_gc G (G / 64)
  generalize mk2 H = A at *
  generalize mk2 G = B at *
  generalize (drN H (H / 64)).1 = x1 at *
  generalize (drN H (H / 64)).2 = y1 at *
  generalize (drN G (G / 64)).1 = x2 at *
  generalize (drN G (G / 64)).2 = y2 at *
  generalize drD H = e1 at *
  generalize drD G = e2 at *
  have q1 := mul_b b1.1 b2.1
  have q2 := mul_b b1.2 b2.2
  have q3 := mul_b b1.1 b2.2
  have q4 := mul_b b1.2 b2.1
  have q5 := mul_b (a := e1) (b := e2) ⟨by omega, by omega⟩ ⟨by omega, by omega⟩
  have hr := rat_q x1 y1 e1 x2 y2 e2 d1.1 d2.1
  have c3 := tThen_t (pz2 A) (pz2 B) (o1.mono rfl) (o2.mono rfl)
  rw [pz2_cn, pz2_cn, g1, g2] at c3
  have la := o1.cn (by decide)
  have lb := o2.cn (by decide)
  rw [pz2_cn, g1] at la
  rw [pz2_cn, g2] at lb
  have oab : (pz2 (gc (gm A B))).OK 33 := pz2_ok (zl_gm la lb (by decide))
  have t1 := tCos_t (pz2 A) (o1.mono rfl)
  have t2 := tSin_t (pz2 A) (o1.mono rfl)
  have l1 := cs_ql o1 (by decide)
  rw [pz2_cn, g1] at t1 t2 l1
  rw [s1.1] at t1 l1
  rw [s1.2] at t2 l1
  have t3 := tCos_t (pz2 (gc (gm A B))) (oab.mono rfl)
  have t4 := tSin_t (pz2 (gc (gm A B))) (oab.mono rfl)
  have l2 := cs_ql oab (by decide)
  have csg := cs_of_gc (gm_nz z1 z2)
  rw [pz2_cn, gc_idem, csg.1, (cs_gm z1 z2).1, s1.1, s1.2, s2.1, s2.2, hr.1] at t3
  rw [pz2_cn, gc_idem, csg.2, (cs_gm z1 z2).2, s1.1, s1.2, s2.1, s2.2, hr.2] at t4
  rw [pz2_cn, gc_idem, csg.1, csg.2, (cs_gm z1 z2).1, (cs_gm z1 z2).2, s1.1, s1.2, s2.1, s2.2, hr.1, hr.2] at l2
  have f1 := qOfR_t x1 e1 (by unfold I64; omega) (by unfold I64; omega)
  have f2 := qOfR_t y1 e1 (by unfold I64; omega) (by unfold I64; omega)
  have f3 := qOfR_t (x1 * x2 - y1 * y2) (e1 * e2) (by unfold I64; omega) (by unfold I64; omega)
  have f4 := qOfR_t (x1 * y2 + y1 * x2) (e1 * e2) (by unfold I64; omega) (by unfold I64; omega)
  have r1 := rat_same_t _ (qzW_ok l1.1) rfl
  have r2 := rat_same_t _ (qzW_ok l1.2) rfl
  have r3 := rat_same_t _ (qzW_ok l2.1) rfl
  have r4 := rat_same_t _ (qzW_ok l2.2) rfl
  generalize qzW ((x1 : Rat) / (e1 : Rat)) = v1 at *
  generalize qzW ((y1 : Rat) / (e1 : Rat)) = v2 at *
  generalize qzW (((x1 * x2 - y1 * y2 : Int) : Rat) / ((e1 * e2 : Int) : Rat)) = v3 at *
  generalize qzW (((x1 * y2 + y1 * x2 : Int) : Rat) / ((e1 * e2 : Int) : Rat)) = v4 at *
  generalize pz2 (gc (gm A B)) = ab at *
  generalize pz2 A = a at *
  generalize pz2 B = b at *
  refine con_intro (fn := Tryd.f7) tok Tryd.func7 (by kernel_rfl) rfl ?_
  intro w0 X
  rw [entry_mkE _ _ [(0, dI h), (1, dI k)] rfl rfl]
  refine AWP_reg_seq tok fun K hK => ?_
  refine s_assign rfl rfl rfl ?_
  refine s_end (hK _ ?_); clear hK K
  refine AWP_seq ?_
  refine AWP_reg_seq tok fun K hK => ?_
  refine s_call rfl rfl (awake3_c) rfl rfl rfl rfl ?_
  refine s_un rfl rfl rfl ?_
  refine s_end (hK _ ?_); clear hK K
  refine a_cond rfl (fun hc => by cases hc) (fun _ => ?_)
  refine AWP_skip ?_
  show AWP _ _ _ _ _ _
  refine AWP_reg_seq tok fun K hK => ?_
  refine s_move rfl rfl rfl ?_
  refine s_call rfl rfl (c1) rfl rfl rfl rfl ?_
  refine s_alloc rfl rfl rfl rfl rfl rfl ?_
  refine s_store rfl rfl rfl rfl rfl ?_
  refine s_end (hK _ ?_); clear hK K
  refine AWP_reg_seq tok fun K hK => ?_
  refine s_move rfl rfl rfl ?_
  refine s_call rfl rfl (c2) rfl rfl rfl rfl ?_
  refine s_alloc rfl rfl rfl rfl rfl rfl ?_
  refine s_store rfl rfl rfl rfl rfl ?_
  refine s_end (hK _ ?_); clear hK K
  refine AWP_reg_seq tok fun K hK => ?_
  refine s_fieldAddr rfl rfl rfl ?_
  refine s_load rfl rfl rfl ?_
  refine s_fieldAddr rfl rfl rfl ?_
  refine s_load rfl rfl rfl ?_
  refine s_bin rfl (e_mul rfl (by omega)) rfl ?_
  refine s_fieldAddr rfl rfl rfl ?_
  refine s_load rfl rfl rfl ?_
  refine s_fieldAddr rfl rfl rfl ?_
  refine s_load rfl rfl rfl ?_
  refine s_bin rfl (e_mul rfl (by omega)) rfl ?_
  refine s_bin rfl (e_sub rfl (by omega)) rfl ?_
  refine s_fieldAddr rfl rfl rfl ?_
  refine s_load rfl rfl rfl ?_
  refine s_fieldAddr rfl rfl rfl ?_
  refine s_load rfl rfl rfl ?_
  refine s_bin rfl (e_mul rfl (by omega)) rfl ?_
  refine s_fieldAddr rfl rfl rfl ?_
  refine s_load rfl rfl rfl ?_
  refine s_fieldAddr rfl rfl rfl ?_
  refine s_load rfl rfl rfl ?_
  refine s_bin rfl (e_mul rfl (by omega)) rfl ?_
  refine s_bin rfl (e_add rfl (by omega)) rfl ?_
  refine s_fieldAddr rfl rfl rfl ?_
  refine s_load rfl rfl rfl ?_
  refine s_fieldAddr rfl rfl rfl ?_
  refine s_load rfl rfl rfl ?_
  refine s_bin rfl (e_mul rfl (by omega)) rfl ?_
  refine s_build rfl rfl rfl ?_
  refine s_store rfl rfl rfl rfl rfl ?_
  refine s_end (hK _ ?_); clear hK K
  refine AWP_reg_seq tok fun K hK => ?_
  refine s_move rfl rfl rfl ?_
  refine s_call rfl rfl (m1) rfl rfl rfl rfl ?_
  refine s_move rfl rfl rfl ?_
  refine s_call rfl rfl (m2) rfl rfl rfl rfl ?_
  refine s_alloc rfl rfl rfl rfl rfl rfl ?_
  refine s_alloc rfl rfl rfl rfl rfl rfl ?_
  refine s_store rfl rfl rfl rfl rfl ?_
  refine s_store rfl rfl rfl rfl rfl ?_
  refine s_end (hK _ ?_); clear hK K
  refine AWP_reg_seq tok fun K hK => ?_
  refine s_load rfl rfl rfl ?_
  refine s_load rfl rfl rfl ?_
  refine s_call rfl rfl (c3) rfl rfl rfl rfl ?_
  refine s_alloc rfl rfl rfl rfl rfl rfl ?_
  refine s_store rfl rfl rfl rfl rfl ?_
  refine s_end (hK _ ?_); clear hK K
  refine a_draw tok mixed (A := [[], [], [], [], [], [], [0, 2, 4], [0, 2, 3, 4, 5], [0, 1, 2, 3, 4, 5, 6], [0, 1, 2, 3, 4, 5, 6, 7], [0, 1, 2, 3, 4, 5, 6, 7], [0, 1, 2, 3, 4, 5, 6, 7], [0, 1, 2, 3, 4, 5, 6, 7], [0, 1, 2, 3, 4, 5, 6, 7], [0, 1, 2, 3, 4, 5, 6, 7], [0, 1, 2, 3, 4, 5, 6, 7, 9, 11, 13], [0, 1, 2, 3, 4, 5, 6, 7, 9, 11, 12, 13, 14], [0, 1, 2, 3, 4, 5, 6, 7, 9, 10, 11, 12, 13, 14, 15], [0, 1, 2, 3, 4, 5, 6, 7, 8, 9, 10, 11, 12, 13, 14, 15], [0, 1, 2, 3, 4, 5, 6, 7, 8, 9, 10, 11, 12, 13, 14, 15, 16, 17], [0, 1, 2, 3, 4, 5, 6, 7, 8, 9, 10, 11, 12, 13, 14, 15, 16, 17], [0, 1, 2, 3, 4, 5, 6, 7, 8, 9, 10, 11, 12, 13, 14, 15, 16, 17], [0, 1, 2, 3, 4, 5, 6, 7, 8, 9, 10, 11, 12, 13, 14, 15, 16, 17], [0, 1, 2, 3, 4, 5, 6, 7, 8, 9, 10, 11, 12, 13, 14, 15, 16, 17], [0, 1, 2, 3, 4, 5, 6, 7, 8, 9, 10, 11, 12, 13, 14, 15, 16, 17], [0, 1, 2, 3, 4, 5, 6, 7, 8, 9, 10, 11, 12, 13, 14, 15, 16, 17, 19, 21, 23], [0, 1, 2, 3, 4, 5, 6, 7, 8, 9, 10, 11, 12, 13, 14, 15, 16, 17, 19, 21, 22, 23, 24], [0, 1, 2, 3, 4, 5, 6, 7, 8, 9, 10, 11, 12, 13, 14, 15, 16, 17, 19, 20, 21, 22, 23, 24, 25], [0, 1, 2, 3, 4, 5, 6, 7, 8, 9, 10, 11, 12, 13, 14, 15, 16, 17, 18, 19, 20, 21, 22, 23, 24, 25], [0, 1, 2, 3, 4, 5, 6, 7, 8, 9, 10, 11, 12, 13, 14, 15, 16, 17, 18, 19, 20, 21, 22, 23, 24, 25, 26, 27], [0, 1, 2, 3, 4, 5, 6, 7, 8, 9, 10, 11, 12, 13, 14, 15, 16, 17, 18, 19, 20, 21, 22, 23, 24, 25, 26, 27], [0, 1, 2, 3, 4, 5, 6, 7, 8, 9, 10, 11, 12, 13, 14, 15, 16, 17, 18, 19, 20, 21, 22, 23, 24, 25, 26, 27], [0, 1, 2, 3, 4, 5, 6, 7, 8, 9, 10, 11, 12, 13, 14, 15, 16, 17, 18, 19, 20, 21, 22, 23, 24, 25, 26, 27], [0, 1, 2, 3, 4, 5, 6, 7, 8, 9, 10, 11, 12, 13, 14, 15, 16, 17, 18, 19, 20, 21, 22, 23, 24, 25, 26, 27], [0, 1, 2, 3, 4, 5, 6, 7, 8, 9, 10, 11, 12, 13, 14, 15, 16, 17, 18, 19, 20, 21, 22, 23, 24, 25, 26, 27], [0, 1, 2, 3, 4, 5, 6, 7, 8, 9, 10, 11, 12, 13, 14, 15, 16, 17, 18, 19, 20, 21, 22, 23, 24, 25, 26, 27, 29, 31, 33], [0, 1, 2, 3, 4, 5, 6, 7, 8, 9, 10, 11, 12, 13, 14, 15, 16, 17, 18, 19, 20, 21, 22, 23, 24, 25, 26, 27, 29, 31, 32, 33, 34], [0, 1, 2, 3, 4, 5, 6, 7, 8, 9, 10, 11, 12, 13, 14, 15, 16, 17, 18, 19, 20, 21, 22, 23, 24, 25, 26, 27, 29, 30, 31, 32, 33, 34, 35], []]) (an := [{}, {}, { c := [52] }, { c := [52] }, { c := [52] }, { c := [52] }, {}, {}, {}, {}, {}, { c := [61] }, { c := [61] }, { c := [61] }, { c := [61] }, {}, {}, {}, {}, {}, {}, { c := [71] }, { c := [71] }, { c := [71] }, { c := [71] }, {}, {}, {}, {}, {}, {}, { c := [81] }, { c := [81] }, { c := [81] }, { c := [81] }, {}, {}, {}, {}]) rfl (by kernel_rfl) rfl fun K hK => ?_
  refine s_load rfl rfl rfl ?_
  refine s_call rfl rfl (t1) rfl rfl rfl rfl ?_
  refine s_fieldAddr rfl rfl rfl ?_
  refine s_load rfl rfl rfl ?_
  refine s_fieldAddr rfl rfl rfl ?_
  refine s_load rfl rfl rfl ?_
  refine s_call rfl rfl (f1) rfl rfl rfl rfl ?_
  refine s_call rfl rfl (r1) rfl rfl rfl rfl ?_
  refine s_move rfl rfl rfl ?_
  refine s_load rfl rfl rfl ?_
  refine s_call rfl rfl (t2) rfl rfl rfl rfl ?_
  refine s_fieldAddr rfl rfl rfl ?_
  refine s_load rfl rfl rfl ?_
  refine s_fieldAddr rfl rfl rfl ?_
  refine s_load rfl rfl rfl ?_
  refine s_call rfl rfl (f2) rfl rfl rfl rfl ?_
  refine s_call rfl rfl (r2) rfl rfl rfl rfl ?_
  refine s_pick rfl rfl rfl ?_
  refine s_move rfl rfl rfl ?_
  refine s_load rfl rfl rfl ?_
  refine s_call rfl rfl (t3) rfl rfl rfl rfl ?_
  refine s_fieldAddr rfl rfl rfl ?_
  refine s_load rfl rfl rfl ?_
  refine s_fieldAddr rfl rfl rfl ?_
  refine s_load rfl rfl rfl ?_
  refine s_call rfl rfl (f3) rfl rfl rfl rfl ?_
  refine s_call rfl rfl (r3) rfl rfl rfl rfl ?_
  refine s_pick rfl rfl rfl ?_
  refine s_move rfl rfl rfl ?_
  refine s_load rfl rfl rfl ?_
  refine s_call rfl rfl (t4) rfl rfl rfl rfl ?_
  refine s_fieldAddr rfl rfl rfl ?_
  refine s_load rfl rfl rfl ?_
  refine s_fieldAddr rfl rfl rfl ?_
  refine s_load rfl rfl rfl ?_
  refine s_call rfl rfl (f4) rfl rfl rfl rfl ?_
  refine s_call rfl rfl (r4) rfl rfl rfl rfl ?_
  refine s_pick rfl rfl rfl ?_
  refine s_assign rfl rfl rfl ?_
  refine s_end (hK _ ?_); clear hK K
  refine AWP_ret ?_
  repeat (with_reducible refine tq_ret ?_)
  exact post_ret (fin_mk (by rfl) (by rfl) (by rfl))
end Go.Proofs.YtipenembpidoiaaDoor

/- Law 3: sums of exponents, orders. No condition. -/
namespace Go.Proofs.YtipenembpidoiaaDoor
attribute [local irreducible] lexA

theorem e_gtL {T : Tab} {t : TypeId} {n : Nat} {m : Int} {k : Nat} (hm : m = (k : Int)) : effBin T .gtr t (dI n) (dI m) = .set (dB (!decide (n ≤ k))) := by
  subst hm
  show Eff.set (dB (decide ((n : Int) > (k : Int)))) = _
  rw [show decide ((n : Int) > (k : Int)) = !decide (n ≤ k) from by rw [Bool.eq_iff_iff]; simp only [decide_eq_true_eq, Bool.not_eq_true', decide_eq_false_iff_not]; omega]
theorem e_eqI0 {T : Tab} {t : TypeId} {x : Int} {d : Bool} (h : decide (x = 0) = d) : effBin T .eql t (dI x) (dI 0) = .set (dB d) := by
  subst h; rfl
theorem e_eqBB (x : Bool) : effBin tab .eql 4 (dB x) (dB x) = .set (dB true) := by cases x <;> rfl
def tiny3 (r : RW) : Bool := decide (r.wp.length ≤ 1) && decide (r.wq.length ≤ 1)
theorem tiny3_ok {r : RW} (h : tiny3 r = true) (hw : r.W) : r.OK 1 := by
  rw [tiny3, Bool.and_eq_true, decide_eq_true_eq, decide_eq_true_eq] at h
  exact ⟨hw.1, hw.2, h.1, h.2⟩
theorem pz2_inj {a b : Int × Int} (h : pz2 a = pz2 b) : a = b := by
  have h1 := pzW_p a.1 a.2
  have h2 := pzW_q a.1 a.2
  have h3 := pzW_p b.1 b.2
  have h4 := pzW_q b.1 b.2
  unfold pz2 at h
  rw [h] at h1 h2
  exact Prod.ext (h1.symm.trans h3) (h2.symm.trans h4)
theorem powV_in {r : RW} {n : Int} (h : -64 ≤ n ∧ n ≤ 64) : powV r n = (pz2 (pwZ r.cn n), 0) := by unfold powV; rw [if_pos h]

set_option maxHeartbeats 4000000 in
theorem lAdds3_c (a : RW) (m n : Int) (hw : a.W) (hm : I64 m) (hn : I64 n) : Con Tryd.prog 8 [AG a.cs, dI m, dI n] { v := dB true } := by
  refine con_intro (fn := Tryd.f8) tok Tryd.func8 (by kernel_rfl) rfl ?_
  intro w0 X
  rw [entry_mkE _ _ [(0, AG a.cs), (1, dI m), (2, dI n)] rfl rfl]
  refine AWP_reg_seq tok fun K hK => ?_
  refine s_box rfl rfl rfl rfl rfl rfl ?_
  refine s_assign rfl rfl rfl ?_
  refine s_end (hK _ ?_); clear hK K
  refine AWP_seq ?_
  refine a_join (α := Bool) (fun x => mk 92 [(1, dI m), (2, dI n), (3, .ptr 3 0), (6, dB false), (30, dB x)] [(3, some (.box a.cs))] []) (fun x => x = !tiny3 a) ?_ ?_
  · refine AWP_regW fun K hK => ?_
    refine w_step tok rfl ?_
    refine s_call rfl rfl (awake3_c) rfl rfl rfl rfl ?_
    refine s_end ?_
    refine w_step tok rfl ?_
    refine s_un rfl rfl rfl ?_
    refine s_end ?_
    refine w_step tok rfl ?_
    refine s_move rfl rfl rfl ?_
    refine s_end ?_
    refine w_split (fun h0 => ?_) (fun h0 => ?_)
    · refine w_skip rfl rfl ?_
      refine w_skip rfl rfl ?_
      refine w_skip rfl rfl ?_
      refine w_skip rfl rfl ?_
      refine w_skip rfl rfl ?_
      refine w_step tok rfl ?_
      refine s_pick rfl rfl rfl ?_
      refine s_end ?_
      refine w_step tok rfl ?_
      refine s_move rfl rfl rfl ?_
      refine s_end ?_
      refine w_skip rfl rfl ?_
      refine w_skip rfl rfl ?_
      refine w_skip rfl rfl ?_
      refine w_skip rfl rfl ?_
      refine w_skip rfl rfl ?_
      refine w_step tok rfl ?_
      refine s_pick rfl rfl rfl ?_
      refine s_end ?_
      refine w_end rfl (hK _ ?_); clear hK K
      first|(exact absurd h0 (by decide))|exact ⟨_, (by simp only [Bool.not_eq_true', Bool.not_eq_false'] at h0; simp only [tiny3, h0, Bool.false_and, Bool.true_and, Bool.not_false, Bool.not_true, Bool.and_true]), Wk.mk' ⟨rfl, rfl, rfl, rfl, rfl, trivial⟩ ⟨rfl, trivial⟩⟩
    · refine w_step tok rfl ?_
      refine s_fieldAddr rfl rfl rfl ?_
      refine s_end ?_
      refine w_step tok rfl ?_
      refine s_fieldAddr rfl rfl rfl ?_
      refine s_end ?_
      refine w_step tok rfl ?_
      refine s_load rfl rfl rfl ?_
      refine s_end ?_
      refine w_step tok rfl ?_
      refine s_blt rfl (len_w rfl rfl rfl) rfl ?_
      refine s_end ?_
      refine w_step tok rfl ?_
      refine s_bin rfl (e_gtL (k := 1) rfl) rfl ?_
      refine s_end ?_
      refine w_step tok rfl ?_
      refine s_pick rfl rfl rfl ?_
      refine s_end ?_
      refine w_step tok rfl ?_
      refine s_move rfl rfl rfl ?_
      refine s_end ?_
      refine w_split (fun h1 => ?_) (fun h1 => ?_)
      · refine w_skip rfl rfl ?_
        refine w_skip rfl rfl ?_
        refine w_skip rfl rfl ?_
        refine w_skip rfl rfl ?_
        refine w_skip rfl rfl ?_
        refine w_step tok rfl ?_
        refine s_pick rfl rfl rfl ?_
        refine s_end ?_
        refine w_end rfl (hK _ ?_); clear hK K
        first|(exact absurd h0 (by decide))|exact ⟨_, (by simp only [Bool.not_eq_true', Bool.not_eq_false'] at h0 h1; simp only [tiny3, h0, h1, Bool.false_and, Bool.true_and, Bool.not_false, Bool.not_true, Bool.and_true]), Wk.mk' ⟨rfl, rfl, rfl, rfl, rfl, trivial⟩ ⟨rfl, trivial⟩⟩
      · refine w_step tok rfl ?_
        refine s_fieldAddr rfl rfl rfl ?_
        refine s_end ?_
        refine w_step tok rfl ?_
        refine s_fieldAddr rfl rfl rfl ?_
        refine s_end ?_
        refine w_step tok rfl ?_
        refine s_load rfl rfl rfl ?_
        refine s_end ?_
        refine w_step tok rfl ?_
        refine s_blt rfl (len_w rfl rfl rfl) rfl ?_
        refine s_end ?_
        refine w_step tok rfl ?_
        refine s_bin rfl (e_gtL (k := 1) rfl) rfl ?_
        refine s_end ?_
        refine w_step tok rfl ?_
        refine s_pick rfl rfl rfl ?_
        refine s_end ?_
        refine w_end rfl (hK _ ?_); clear hK K
        first|(exact absurd h0 (by decide))|exact ⟨_, (by simp only [Bool.not_eq_true', Bool.not_eq_false'] at h0 h1; simp only [tiny3, h0, h1, Bool.false_and, Bool.true_and, Bool.not_false, Bool.not_true, Bool.and_true]), Wk.mk' ⟨rfl, rfl, rfl, rfl, rfl, trivial⟩ ⟨rfl, trivial⟩⟩
  rintro x rfl
  refine a_cond rfl (fun hg => ?_) (fun hg => ?_)
  · refine AWP_reg_seq tok fun K hK => ?_
    refine s_call rfl rfl (awake3_c) rfl rfl rfl rfl ?_
    refine s_assign rfl rfl rfl ?_
    refine s_end (hK _ ?_); clear hK K
    refine AWP_ret ?_
    repeat (with_reducible refine tq_ret ?_)
    exact post_ret (fin_mk (by rfl) (by rfl) (by rfl))
  rw [Bool.not_eq_false'] at hg
  have ok := tiny3_ok hg hw
  have la := ok.cn (by decide)
  have za := a.cn_nz
  have m1 := bMod_c m 33 hm (by decide) (by decide)
  have m2 := bMod_c n 33 hn (by decide) (by decide)
  have bm : 0 ≤ m % 33 ∧ m % 33 < 33 := ⟨Int.emod_nonneg _ (by decide), Int.emod_lt_of_pos _ (by decide)⟩
  have bn : 0 ≤ n % 33 ∧ n % 33 < 33 := ⟨Int.emod_nonneg _ (by decide), Int.emod_lt_of_pos _ (by decide)⟩
  obtain ⟨M, hM⟩ : ∃ M, m % 33 - 16 = M := ⟨_, rfl⟩
  obtain ⟨N, hN⟩ : ∃ N, n % 33 - 16 = N := ⟨_, rfl⟩
  generalize m % 33 = m' at *
  generalize n % 33 = n' at *
  have c1 := tPower_t a M (ok.mono rfl) (by unfold I64; omega)
  rw [powV_in (by omega)] at c1
  have c2 := tPower_t a N (ok.mono rfl) (by unfold I64; omega)
  rw [powV_in (by omega)] at c2
  have c3 := tPower_t a (M + N) (ok.mono rfl) (by unfold I64; omega)
  rw [powV_in (by omega)] at c3
  have c4 := tInv_t a (ok.mono rfl)
  have c5 := tPower_t (pz2 (inv2 a.cn)) (-M) ((pz2_ok (zl_inv2 (by decide) la)).mono rfl) (by unfold I64; omega)
  rw [powV_in (by omega), pz2_cn, inv2_can, pwZ_inv za a.cn_gc] at c5
  have zM := zl_pwZ (n := 16) (z := M) (by decide) la (by omega)
  have zN := zl_pwZ (n := 16) (z := N) (by decide) la (by omega)
  have zMN := zl_pwZ (n := 32) (z := M + N) (by decide) la (by omega)
  have oM : (pz2 (pwZ a.cn M)).OK 100 := pz2_ok ⟨by omega, by omega⟩
  have oN : (pz2 (pwZ a.cn N)).OK 100 := pz2_ok ⟨by omega, by omega⟩
  have oMN : (pz2 (pwZ a.cn (M + N))).OK 100 := pz2_ok ⟨by omega, by omega⟩
  have c6 := tThen_t (pz2 (pwZ a.cn M)) (pz2 (pwZ a.cn N)) (oM.mono rfl) (oN.mono rfl)
  rw [pz2_cn, pz2_cn, pwZ_gc za, pwZ_gc za, pwZ_add za] at c6
  have d1 := rot_same_t _ oMN rfl
  have d2 := rot_same_t _ oM rfl
  generalize pz2 (pwZ a.cn M) = x1 at *
  generalize pz2 (pwZ a.cn N) = x2 at *
  generalize pz2 (pwZ a.cn (M + N)) = x3 at *
  generalize pz2 (inv2 a.cn) = x4 at *
  refine AWP_skip ?_
  show AWP _ _ _ _ _ _
  refine AWP_reg_seq tok fun K hK => ?_
  refine s_move rfl rfl rfl ?_
  refine s_call rfl rfl (m1) rfl rfl rfl rfl ?_
  refine s_bin rfl (e_sub hM (by omega)) rfl ?_
  refine s_move rfl rfl rfl ?_
  refine s_call rfl rfl (m2) rfl rfl rfl rfl ?_
  refine s_bin rfl (e_sub hN (by omega)) rfl ?_
  refine s_assign rfl rfl rfl ?_
  refine s_assign rfl rfl rfl ?_
  refine s_end (hK _ ?_); clear hK K
  refine AWP_reg_seq tok fun K hK => ?_
  refine s_load rfl rfl rfl ?_
  refine s_move rfl rfl rfl ?_
  refine s_call rfl rfl (c1) rfl rfl rfl rfl ?_
  refine s_move rfl rfl rfl ?_
  refine s_extract rfl rfl rfl ?_
  refine s_extract rfl rfl rfl ?_
  refine s_alloc rfl rfl rfl rfl rfl rfl ?_
  refine s_store rfl rfl rfl rfl rfl ?_
  refine s_assign rfl rfl rfl ?_
  refine s_end (hK _ ?_); clear hK K
  refine AWP_reg_seq tok fun K hK => ?_
  refine s_load rfl rfl rfl ?_
  refine s_move rfl rfl rfl ?_
  refine s_call rfl rfl (c2) rfl rfl rfl rfl ?_
  refine s_move rfl rfl rfl ?_
  refine s_extract rfl rfl rfl ?_
  refine s_extract rfl rfl rfl ?_
  refine s_alloc rfl rfl rfl rfl rfl rfl ?_
  refine s_store rfl rfl rfl rfl rfl ?_
  refine s_assign rfl rfl rfl ?_
  refine s_end (hK _ ?_); clear hK K
  refine AWP_reg_seq tok fun K hK => ?_
  refine s_load rfl rfl rfl ?_
  refine s_move rfl rfl rfl ?_
  refine s_move rfl rfl rfl ?_
  refine s_bin rfl (e_add rfl (by omega)) rfl ?_
  refine s_call rfl rfl (c3) rfl rfl rfl rfl ?_
  refine s_move rfl rfl rfl ?_
  refine s_extract rfl rfl rfl ?_
  refine s_extract rfl rfl rfl ?_
  refine s_alloc rfl rfl rfl rfl rfl rfl ?_
  refine s_store rfl rfl rfl rfl rfl ?_
  refine s_assign rfl rfl rfl ?_
  refine s_end (hK _ ?_); clear hK K
  refine AWP_reg_seq tok fun K hK => ?_
  refine s_load rfl rfl rfl ?_
  refine s_call rfl rfl (c4) rfl rfl rfl rfl ?_
  refine s_move rfl rfl rfl ?_
  refine s_un rfl (e_negI rfl (by unfold I64; omega)) rfl ?_
  refine s_call rfl rfl (c5) rfl rfl rfl rfl ?_
  refine s_move rfl rfl rfl ?_
  refine s_extract rfl rfl rfl ?_
  refine s_extract rfl rfl rfl ?_
  refine s_alloc rfl rfl rfl rfl rfl rfl ?_
  refine s_store rfl rfl rfl rfl rfl ?_
  refine s_assign rfl rfl rfl ?_
  refine s_end (hK _ ?_); clear hK K
  refine a_draw tok mixed (A := [[], [], [0], [0, 1], [0, 1], [0, 1, 3], [0, 1, 3, 4], [0, 1, 2, 3, 4, 5], [0, 1, 2, 3, 4, 5], [0, 1, 2, 3, 4, 5, 7], [0, 1, 2, 3, 4, 5, 7, 8], [0, 1, 2, 3, 4, 5, 6, 7, 8, 9], [0, 1, 2, 3, 4, 5, 6, 7, 8, 9], [0, 1, 2, 3, 4, 5, 6, 7, 8, 9, 11], [0, 1, 2, 3, 4, 5, 6, 7, 8, 9, 11, 12], [0, 1, 2, 3, 4, 5, 6, 7, 8, 9, 10, 11, 12, 13], [0, 1, 2, 3, 4, 5, 6, 7, 8, 9, 10, 11, 12, 13], [0, 1, 2, 3, 4, 5, 6, 7, 8, 9, 10, 11, 12, 13], [0, 1, 2, 3, 4, 5, 6, 7, 8, 9, 10, 11, 12, 13], [0, 1, 2, 3, 4, 5, 6, 7, 8, 9, 10, 11, 12, 13, 15, 16], [0, 1, 2, 3, 4, 5, 6, 7, 8, 9, 10, 11, 12, 13, 15, 16, 17, 18], [0, 1, 2, 3, 4, 5, 6, 7, 8, 9, 10, 11, 12, 13, 14, 15, 16, 17, 18], [0, 1, 2, 3, 4, 5, 6, 7, 8, 9, 10, 11, 12, 13, 14, 15, 16, 17, 18, 19, 20], [0, 1, 2, 3, 4, 5, 6, 7, 8, 9, 10, 11, 12, 13, 14, 15, 16, 17, 18, 19, 20], [0, 1, 2, 3, 4, 5, 6, 7, 8, 9, 10, 11, 12, 13, 14, 15, 16, 17, 18, 19, 20], [0, 1, 2, 3, 4, 5, 6, 7, 8, 9, 10, 11, 12, 13, 14, 15, 16, 17, 18, 19, 20, 22, 23], []]) (an := [{}, {}, {}, {}, {}, {}, {}, {}, {}, {}, {}, {}, {}, {}, {}, {}, {}, {}, { c := [83] }, {}, {}, {}, {}, {}, {}, {}, {}]) rfl (by kernel_rfl) rfl fun K hK => ?_
  refine s_move rfl rfl rfl ?_
  refine s_bin rfl rfl rfl ?_
  refine s_move rfl rfl rfl ?_
  refine s_move rfl rfl rfl ?_
  refine s_bin rfl rfl rfl ?_
  refine s_pick rfl rfl rfl ?_
  refine s_move rfl rfl rfl ?_
  refine s_move rfl rfl rfl ?_
  refine s_bin rfl rfl rfl ?_
  refine s_pick rfl rfl rfl ?_
  refine s_move rfl rfl rfl ?_
  refine s_move rfl rfl rfl ?_
  refine s_bin rfl rfl rfl ?_
  refine s_pick rfl rfl rfl ?_
  refine s_move rfl rfl rfl ?_
  refine s_load rfl rfl rfl ?_
  refine s_load rfl rfl rfl ?_
  refine s_call rfl rfl (c6) rfl rfl rfl rfl ?_
  refine s_load rfl rfl rfl ?_
  refine s_call rfl rfl (d1) rfl rfl rfl rfl ?_
  refine s_pick rfl rfl rfl ?_
  refine s_move rfl rfl rfl ?_
  refine s_load rfl rfl rfl ?_
  refine s_load rfl rfl rfl ?_
  refine s_call rfl rfl (d2) rfl rfl rfl rfl ?_
  refine s_pick rfl rfl rfl ?_
  refine s_assign rfl rfl rfl ?_
  refine s_end (hK _ ?_); clear hK K
  refine AWP_ret ?_
  repeat (with_reducible refine tq_ret ?_)
  exact post_ret (fin_mk (by rfl) (by rfl) (by rfl))

set_option maxHeartbeats 4000000 in
theorem lOrders_c (a : RW) (n : Int) (hw : a.W) (hn : I64 n) : Con Tryd.prog 10 [AG a.cs, dI n] { v := dB true } := by
  refine con_intro (fn := Tryd.f10) tok Tryd.func10 (by kernel_rfl) rfl ?_
  intro w0 X
  rw [entry_mkE _ _ [(0, AG a.cs), (1, dI n)] rfl rfl]
  refine AWP_reg_seq tok fun K hK => ?_
  refine s_box rfl rfl rfl rfl rfl rfl ?_
  refine s_assign rfl rfl rfl ?_
  refine s_end (hK _ ?_); clear hK K
  refine AWP_seq ?_
  refine a_join (α := Bool) (fun x => mk 86 [(1, dI n), (2, .ptr 2 0), (4, dB false), (26, dB x)] [(2, some (.box a.cs))] []) (fun x => x = !tiny3 a) ?_ ?_
  · refine AWP_regW fun K hK => ?_
    refine w_step tok rfl ?_
    refine s_call rfl rfl (awake3_c) rfl rfl rfl rfl ?_
    refine s_end ?_
    refine w_step tok rfl ?_
    refine s_un rfl rfl rfl ?_
    refine s_end ?_
    refine w_step tok rfl ?_
    refine s_move rfl rfl rfl ?_
    refine s_end ?_
    refine w_split (fun h0 => ?_) (fun h0 => ?_)
    · refine w_skip rfl rfl ?_
      refine w_skip rfl rfl ?_
      refine w_skip rfl rfl ?_
      refine w_skip rfl rfl ?_
      refine w_skip rfl rfl ?_
      refine w_step tok rfl ?_
      refine s_pick rfl rfl rfl ?_
      refine s_end ?_
      refine w_step tok rfl ?_
      refine s_move rfl rfl rfl ?_
      refine s_end ?_
      refine w_skip rfl rfl ?_
      refine w_skip rfl rfl ?_
      refine w_skip rfl rfl ?_
      refine w_skip rfl rfl ?_
      refine w_skip rfl rfl ?_
      refine w_step tok rfl ?_
      refine s_pick rfl rfl rfl ?_
      refine s_end ?_
      refine w_end rfl (hK _ ?_); clear hK K
      first|(exact absurd h0 (by decide))|exact ⟨_, (by simp only [Bool.not_eq_true', Bool.not_eq_false'] at h0; simp only [tiny3, h0, Bool.false_and, Bool.true_and, Bool.not_false, Bool.not_true, Bool.and_true]), Wk.mk' ⟨rfl, rfl, rfl, rfl, trivial⟩ ⟨rfl, trivial⟩⟩
    · refine w_step tok rfl ?_
      refine s_fieldAddr rfl rfl rfl ?_
      refine s_end ?_
      refine w_step tok rfl ?_
      refine s_fieldAddr rfl rfl rfl ?_
      refine s_end ?_
      refine w_step tok rfl ?_
      refine s_load rfl rfl rfl ?_
      refine s_end ?_
      refine w_step tok rfl ?_
      refine s_blt rfl (len_w rfl rfl rfl) rfl ?_
      refine s_end ?_
      refine w_step tok rfl ?_
      refine s_bin rfl (e_gtL (k := 1) rfl) rfl ?_
      refine s_end ?_
      refine w_step tok rfl ?_
      refine s_pick rfl rfl rfl ?_
      refine s_end ?_
      refine w_step tok rfl ?_
      refine s_move rfl rfl rfl ?_
      refine s_end ?_
      refine w_split (fun h1 => ?_) (fun h1 => ?_)
      · refine w_skip rfl rfl ?_
        refine w_skip rfl rfl ?_
        refine w_skip rfl rfl ?_
        refine w_skip rfl rfl ?_
        refine w_skip rfl rfl ?_
        refine w_step tok rfl ?_
        refine s_pick rfl rfl rfl ?_
        refine s_end ?_
        refine w_end rfl (hK _ ?_); clear hK K
        first|(exact absurd h0 (by decide))|exact ⟨_, (by simp only [Bool.not_eq_true', Bool.not_eq_false'] at h0 h1; simp only [tiny3, h0, h1, Bool.false_and, Bool.true_and, Bool.not_false, Bool.not_true, Bool.and_true]), Wk.mk' ⟨rfl, rfl, rfl, rfl, trivial⟩ ⟨rfl, trivial⟩⟩
      · refine w_step tok rfl ?_
        refine s_fieldAddr rfl rfl rfl ?_
        refine s_end ?_
        refine w_step tok rfl ?_
        refine s_fieldAddr rfl rfl rfl ?_
        refine s_end ?_
        refine w_step tok rfl ?_
        refine s_load rfl rfl rfl ?_
        refine s_end ?_
        refine w_step tok rfl ?_
        refine s_blt rfl (len_w rfl rfl rfl) rfl ?_
        refine s_end ?_
        refine w_step tok rfl ?_
        refine s_bin rfl (e_gtL (k := 1) rfl) rfl ?_
        refine s_end ?_
        refine w_step tok rfl ?_
        refine s_pick rfl rfl rfl ?_
        refine s_end ?_
        refine w_end rfl (hK _ ?_); clear hK K
        first|(exact absurd h0 (by decide))|exact ⟨_, (by simp only [Bool.not_eq_true', Bool.not_eq_false'] at h0 h1; simp only [tiny3, h0, h1, Bool.false_and, Bool.true_and, Bool.not_false, Bool.not_true, Bool.and_true]), Wk.mk' ⟨rfl, rfl, rfl, rfl, trivial⟩ ⟨rfl, trivial⟩⟩
  rintro x rfl
  refine a_cond rfl (fun hg => ?_) (fun hg => ?_)
  · refine AWP_reg_seq tok fun K hK => ?_
    refine s_call rfl rfl (awake3_c) rfl rfl rfl rfl ?_
    refine s_assign rfl rfl rfl ?_
    refine s_end (hK _ ?_); clear hK K
    refine AWP_ret ?_
    repeat (with_reducible refine tq_ret ?_)
    exact post_ret (fin_mk (by rfl) (by rfl) (by rfl))
  rw [Bool.not_eq_false'] at hg
  have ok := tiny3_ok hg hw
  have la := ok.cn (by decide)
  have za := a.cn_nz
  have m1 := bMod_c n 32 hn (by decide) (by decide)
  have bn : 0 ≤ n % 32 ∧ n % 32 < 32 := ⟨Int.emod_nonneg _ (by decide), Int.emod_lt_of_pos _ (by decide)⟩
  obtain ⟨N, hN⟩ : ∃ N : Nat, (N : Int) = 1 + n % 32 := ⟨(1 + n % 32).toNat, by omega⟩
  generalize n % 32 = n' at *
  have c1 := tOrder_t a (ok.mono rfl)
  have c2 := tPower_t a N (ok.mono rfl) (by unfold I64; omega)
  rw [powV_in (by omega)] at c2
  have c3 := tPower_t a (ordN a.cn) (ok.mono rfl) (by have := ordN_vals a.cn; unfold I64; omega)
  rw [powV_in (by have := ordN_vals a.cn; omega), pw_ord a.cn_Cn] at c3
  have hp : pwZ a.cn N = pw a.cn N := by unfold pwZ; rw [if_neg (by omega)]; rfl
  rw [hp] at c2
  have hiff := ord_iff a.cn_Cn N (by omega)
  have zN := zl_pw la N
  have oN : (pz2 (pw a.cn N)).OK 100 := by
    have : N * (1 + 1) ≤ 32 * 2 := Nat.mul_le_mul (by omega) (Nat.le_refl _)
    exact pz2_ok ⟨by omega, by omega⟩
  have d1 := rot_same_t _ ok_one rfl
  have d2 := bRot_c (pz2 (pw a.cn N)) (pz2 one2) (oN.big rfl).1 (oN.big rfl).2
  have f1 := tOf1_t
  have hd : decide (pz2 (pw a.cn N) = pz2 one2) = decide (ordN a.cn ≠ 0 ∧ ((N : Int)).tmod (ordN a.cn) = 0) :=
    decide_eq_decide.2 ⟨fun h => hiff.1 (pz2_inj h), fun h => by rw [hiff.2 h]⟩
  rw [hd] at d2
  generalize pz2 (pw a.cn N) = r at *
  generalize pz2 one2 = o at *
  generalize a.cn = A at *
  refine AWP_skip ?_
  show AWP _ _ _ _ _ _
  refine AWP_reg_seq tok fun K hK => ?_
  refine s_move rfl rfl rfl ?_
  refine s_call rfl rfl (m1) rfl rfl rfl rfl ?_
  refine s_bin rfl (e_add hN.symm (by omega)) rfl ?_
  refine s_assign rfl rfl rfl ?_
  refine s_end (hK _ ?_); clear hK K
  refine AWP_reg_seq tok fun K hK => ?_
  refine s_call rfl rfl (f1) rfl rfl rfl rfl ?_
  refine s_alloc rfl rfl rfl rfl rfl rfl ?_
  refine s_store rfl rfl rfl rfl rfl ?_
  refine s_end (hK _ ?_); clear hK K
  refine AWP_reg_seq tok fun K hK => ?_
  refine s_load rfl rfl rfl ?_
  refine s_call rfl rfl (c1) rfl rfl rfl rfl ?_
  refine s_assign rfl rfl rfl ?_
  refine s_end (hK _ ?_); clear hK K
  refine AWP_reg_seq tok fun K hK => ?_
  refine s_load rfl rfl rfl ?_
  refine s_move rfl rfl rfl ?_
  refine s_call rfl rfl (c2) rfl rfl rfl rfl ?_
  refine s_move rfl rfl rfl ?_
  refine s_extract rfl rfl rfl ?_
  refine s_extract rfl rfl rfl ?_
  refine s_alloc rfl rfl rfl rfl rfl rfl ?_
  refine s_store rfl rfl rfl rfl rfl ?_
  refine s_assign rfl rfl rfl ?_
  refine s_end (hK _ ?_); clear hK K
  rcases ordN_vals A with e | e | e | e
  · rw [e] at c3 d2
    rw [decide_eq_false (fun h => h.1 rfl)] at d2
    rw [e]
    refine AWP_reg_seq tok fun K hK => ?_
    refine s_load rfl rfl rfl ?_
    refine s_move rfl rfl rfl ?_
    refine s_call rfl rfl (c3) rfl rfl rfl rfl ?_
    refine s_move rfl rfl rfl ?_
    refine s_extract rfl rfl rfl ?_
    refine s_extract rfl rfl rfl ?_
    refine s_alloc rfl rfl rfl rfl rfl rfl ?_
    refine s_store rfl rfl rfl rfl rfl ?_
    refine s_assign rfl rfl rfl ?_
    refine s_end (hK _ ?_); clear hK K
    refine AWP_seq ?_
    refine AWP_reg_seq tok fun K hK => ?_
    refine s_move rfl rfl rfl ?_
    refine s_bin rfl rfl rfl ?_
    refine s_move rfl rfl rfl ?_
    refine s_move rfl rfl rfl ?_
    refine s_bin rfl rfl rfl ?_
    refine s_pick rfl rfl rfl ?_
    refine s_move rfl rfl rfl ?_
    refine s_load rfl rfl rfl ?_
    refine s_load rfl rfl rfl ?_
    refine s_call rfl rfl (d1) rfl rfl rfl rfl ?_
    refine s_un rfl rfl rfl ?_
    refine s_pick rfl rfl rfl ?_
    refine s_move rfl rfl rfl ?_
    refine s_move rfl rfl rfl ?_
    refine s_bin rfl rfl rfl ?_
    refine s_move rfl rfl rfl ?_
    refine s_skip rfl ?_
    refine s_skip rfl ?_
    refine s_pick rfl rfl rfl ?_
    refine s_move rfl rfl rfl ?_
    refine s_skip rfl ?_
    refine s_skip rfl ?_
    refine s_pick rfl rfl rfl ?_
    refine s_move rfl rfl rfl ?_
    refine s_skip rfl ?_
    refine s_skip rfl ?_
    refine s_pick rfl rfl rfl ?_
    refine s_pick rfl rfl rfl ?_
    refine s_end (hK _ ?_); clear hK K
    refine a_cond rfl (fun hc => by cases hc) (fun _ => ?_)
    refine AWP_skip ?_
    show AWP _ _ _ _ _ _
    refine AWP_reg_seq tok fun K hK => ?_
    refine s_load rfl rfl rfl ?_
    refine s_load rfl rfl rfl ?_
    refine s_call rfl rfl (d2) rfl rfl rfl rfl ?_
    refine s_move rfl rfl rfl ?_
    refine s_bin rfl rfl rfl ?_
    refine s_move rfl rfl rfl ?_
    refine s_skip rfl ?_
    refine s_skip rfl ?_
    refine s_skip rfl ?_
    refine s_skip rfl ?_
    refine s_pick rfl rfl rfl ?_
    refine s_bin rfl rfl rfl ?_
    refine s_assign rfl rfl rfl ?_
    refine s_end (hK _ ?_); clear hK K
    refine AWP_ret ?_
    repeat (with_reducible refine tq_ret ?_)
    exact post_ret (fin_mk (by rfl) (by rfl) (by rfl))
  · rw [e] at c3 d2
    rw [decide_eq_decide.2 (show ((1 : Int) ≠ 0 ∧ ((N : Int)).tmod 1 = 0) ↔ (N : Int).tmod 1 = 0 from ⟨fun h => h.2, fun h => ⟨by decide, h⟩⟩)] at d2
    rw [e]
    refine AWP_reg_seq tok fun K hK => ?_
    refine s_load rfl rfl rfl ?_
    refine s_move rfl rfl rfl ?_
    refine s_call rfl rfl (c3) rfl rfl rfl rfl ?_
    refine s_move rfl rfl rfl ?_
    refine s_extract rfl rfl rfl ?_
    refine s_extract rfl rfl rfl ?_
    refine s_alloc rfl rfl rfl rfl rfl rfl ?_
    refine s_store rfl rfl rfl rfl rfl ?_
    refine s_assign rfl rfl rfl ?_
    refine s_end (hK _ ?_); clear hK K
    refine AWP_seq ?_
    refine AWP_reg_seq tok fun K hK => ?_
    refine s_move rfl rfl rfl ?_
    refine s_bin rfl rfl rfl ?_
    refine s_move rfl rfl rfl ?_
    refine s_move rfl rfl rfl ?_
    refine s_bin rfl rfl rfl ?_
    refine s_pick rfl rfl rfl ?_
    refine s_move rfl rfl rfl ?_
    refine s_load rfl rfl rfl ?_
    refine s_load rfl rfl rfl ?_
    refine s_call rfl rfl (d1) rfl rfl rfl rfl ?_
    refine s_un rfl rfl rfl ?_
    refine s_pick rfl rfl rfl ?_
    refine s_move rfl rfl rfl ?_
    refine s_move rfl rfl rfl ?_
    refine s_bin rfl rfl rfl ?_
    refine s_move rfl rfl rfl ?_
    refine s_move rfl rfl rfl ?_
    refine s_bin rfl rfl rfl ?_
    refine s_pick rfl rfl rfl ?_
    refine s_move rfl rfl rfl ?_
    refine s_skip rfl ?_
    refine s_skip rfl ?_
    refine s_pick rfl rfl rfl ?_
    refine s_move rfl rfl rfl ?_
    refine s_skip rfl ?_
    refine s_skip rfl ?_
    refine s_pick rfl rfl rfl ?_
    refine s_pick rfl rfl rfl ?_
    refine s_end (hK _ ?_); clear hK K
    refine a_cond rfl (fun hc => by cases hc) (fun _ => ?_)
    refine AWP_skip ?_
    show AWP _ _ _ _ _ _
    generalize hdd : decide ((N : Int).tmod 1 = 0) = dd at *
    refine AWP_reg_seq tok fun K hK => ?_
    refine s_load rfl rfl rfl ?_
    refine s_load rfl rfl rfl ?_
    refine s_call rfl rfl (d2) rfl rfl rfl rfl ?_
    refine s_move rfl rfl rfl ?_
    refine s_bin rfl rfl rfl ?_
    refine s_move rfl rfl rfl ?_
    refine s_move rfl rfl rfl ?_
    refine s_move rfl rfl rfl ?_
    refine s_bin rfl (e_remI' (by decide)) rfl ?_
    refine s_bin rfl (e_eqI0 hdd) rfl ?_
    refine s_pick rfl rfl rfl ?_
    refine s_bin rfl (e_eqBB dd) rfl ?_
    refine s_assign rfl rfl rfl ?_
    refine s_end (hK _ ?_); clear hK K
    refine AWP_ret ?_
    repeat (with_reducible refine tq_ret ?_)
    exact post_ret (fin_mk (by rfl) (by rfl) (by rfl))
  · rw [e] at c3 d2
    rw [decide_eq_decide.2 (show ((2 : Int) ≠ 0 ∧ ((N : Int)).tmod 2 = 0) ↔ (N : Int).tmod 2 = 0 from ⟨fun h => h.2, fun h => ⟨by decide, h⟩⟩)] at d2
    rw [e]
    refine AWP_reg_seq tok fun K hK => ?_
    refine s_load rfl rfl rfl ?_
    refine s_move rfl rfl rfl ?_
    refine s_call rfl rfl (c3) rfl rfl rfl rfl ?_
    refine s_move rfl rfl rfl ?_
    refine s_extract rfl rfl rfl ?_
    refine s_extract rfl rfl rfl ?_
    refine s_alloc rfl rfl rfl rfl rfl rfl ?_
    refine s_store rfl rfl rfl rfl rfl ?_
    refine s_assign rfl rfl rfl ?_
    refine s_end (hK _ ?_); clear hK K
    refine AWP_seq ?_
    refine AWP_reg_seq tok fun K hK => ?_
    refine s_move rfl rfl rfl ?_
    refine s_bin rfl rfl rfl ?_
    refine s_move rfl rfl rfl ?_
    refine s_move rfl rfl rfl ?_
    refine s_bin rfl rfl rfl ?_
    refine s_pick rfl rfl rfl ?_
    refine s_move rfl rfl rfl ?_
    refine s_load rfl rfl rfl ?_
    refine s_load rfl rfl rfl ?_
    refine s_call rfl rfl (d1) rfl rfl rfl rfl ?_
    refine s_un rfl rfl rfl ?_
    refine s_pick rfl rfl rfl ?_
    refine s_move rfl rfl rfl ?_
    refine s_move rfl rfl rfl ?_
    refine s_bin rfl rfl rfl ?_
    refine s_move rfl rfl rfl ?_
    refine s_move rfl rfl rfl ?_
    refine s_bin rfl rfl rfl ?_
    refine s_pick rfl rfl rfl ?_
    refine s_move rfl rfl rfl ?_
    refine s_move rfl rfl rfl ?_
    refine s_bin rfl rfl rfl ?_
    refine s_pick rfl rfl rfl ?_
    refine s_move rfl rfl rfl ?_
    refine s_skip rfl ?_
    refine s_skip rfl ?_
    refine s_pick rfl rfl rfl ?_
    refine s_pick rfl rfl rfl ?_
    refine s_end (hK _ ?_); clear hK K
    refine a_cond rfl (fun hc => by cases hc) (fun _ => ?_)
    refine AWP_skip ?_
    show AWP _ _ _ _ _ _
    generalize hdd : decide ((N : Int).tmod 2 = 0) = dd at *
    refine AWP_reg_seq tok fun K hK => ?_
    refine s_load rfl rfl rfl ?_
    refine s_load rfl rfl rfl ?_
    refine s_call rfl rfl (d2) rfl rfl rfl rfl ?_
    refine s_move rfl rfl rfl ?_
    refine s_bin rfl rfl rfl ?_
    refine s_move rfl rfl rfl ?_
    refine s_move rfl rfl rfl ?_
    refine s_move rfl rfl rfl ?_
    refine s_bin rfl (e_remI' (by decide)) rfl ?_
    refine s_bin rfl (e_eqI0 hdd) rfl ?_
    refine s_pick rfl rfl rfl ?_
    refine s_bin rfl (e_eqBB dd) rfl ?_
    refine s_assign rfl rfl rfl ?_
    refine s_end (hK _ ?_); clear hK K
    refine AWP_ret ?_
    repeat (with_reducible refine tq_ret ?_)
    exact post_ret (fin_mk (by rfl) (by rfl) (by rfl))
  · rw [e] at c3 d2
    rw [decide_eq_decide.2 (show ((4 : Int) ≠ 0 ∧ ((N : Int)).tmod 4 = 0) ↔ (N : Int).tmod 4 = 0 from ⟨fun h => h.2, fun h => ⟨by decide, h⟩⟩)] at d2
    rw [e]
    refine AWP_reg_seq tok fun K hK => ?_
    refine s_load rfl rfl rfl ?_
    refine s_move rfl rfl rfl ?_
    refine s_call rfl rfl (c3) rfl rfl rfl rfl ?_
    refine s_move rfl rfl rfl ?_
    refine s_extract rfl rfl rfl ?_
    refine s_extract rfl rfl rfl ?_
    refine s_alloc rfl rfl rfl rfl rfl rfl ?_
    refine s_store rfl rfl rfl rfl rfl ?_
    refine s_assign rfl rfl rfl ?_
    refine s_end (hK _ ?_); clear hK K
    refine AWP_seq ?_
    refine AWP_reg_seq tok fun K hK => ?_
    refine s_move rfl rfl rfl ?_
    refine s_bin rfl rfl rfl ?_
    refine s_move rfl rfl rfl ?_
    refine s_move rfl rfl rfl ?_
    refine s_bin rfl rfl rfl ?_
    refine s_pick rfl rfl rfl ?_
    refine s_move rfl rfl rfl ?_
    refine s_load rfl rfl rfl ?_
    refine s_load rfl rfl rfl ?_
    refine s_call rfl rfl (d1) rfl rfl rfl rfl ?_
    refine s_un rfl rfl rfl ?_
    refine s_pick rfl rfl rfl ?_
    refine s_move rfl rfl rfl ?_
    refine s_move rfl rfl rfl ?_
    refine s_bin rfl rfl rfl ?_
    refine s_move rfl rfl rfl ?_
    refine s_move rfl rfl rfl ?_
    refine s_bin rfl rfl rfl ?_
    refine s_pick rfl rfl rfl ?_
    refine s_move rfl rfl rfl ?_
    refine s_move rfl rfl rfl ?_
    refine s_bin rfl rfl rfl ?_
    refine s_pick rfl rfl rfl ?_
    refine s_move rfl rfl rfl ?_
    refine s_move rfl rfl rfl ?_
    refine s_bin rfl rfl rfl ?_
    refine s_pick rfl rfl rfl ?_
    refine s_pick rfl rfl rfl ?_
    refine s_end (hK _ ?_); clear hK K
    refine a_cond rfl (fun hc => by cases hc) (fun _ => ?_)
    refine AWP_skip ?_
    show AWP _ _ _ _ _ _
    generalize hdd : decide ((N : Int).tmod 4 = 0) = dd at *
    refine AWP_reg_seq tok fun K hK => ?_
    refine s_load rfl rfl rfl ?_
    refine s_load rfl rfl rfl ?_
    refine s_call rfl rfl (d2) rfl rfl rfl rfl ?_
    refine s_move rfl rfl rfl ?_
    refine s_bin rfl rfl rfl ?_
    refine s_move rfl rfl rfl ?_
    refine s_move rfl rfl rfl ?_
    refine s_move rfl rfl rfl ?_
    refine s_bin rfl (e_remI' (by decide)) rfl ?_
    refine s_bin rfl (e_eqI0 hdd) rfl ?_
    refine s_pick rfl rfl rfl ?_
    refine s_bin rfl (e_eqBB dd) rfl ?_
    refine s_assign rfl rfl rfl ?_
    refine s_end (hK _ ?_); clear hK K
    refine AWP_ret ?_
    repeat (with_reducible refine tq_ret ?_)
    exact post_ret (fin_mk (by rfl) (by rfl) (by rfl))
end Go.Proofs.YtipenembpidoiaaDoor
