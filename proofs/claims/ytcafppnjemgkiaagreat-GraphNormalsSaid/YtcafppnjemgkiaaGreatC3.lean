/- Part of a proof that a Go function answers true for every input. No condition. -/
import Derived.Test.YtcafppnjemgkiaaGreatC2
set_option linter.unusedVariables false
set_option linter.unusedSimpArgs false
set_option linter.unusedSectionVars false
/- Integers: words trimmed, made into integers, compared. No condition. -/
namespace Go.Proofs.YtcafppnjemgkiaaGreat
attribute [local irreducible] lexA

theorem trim_c (ws : List Nat) (hl : ws.length ≤ 1073741824) : Con Tryz.prog 93 [V1 (dW ws)] { v := V1 (dW (trimW ws)) } := by
  refine con_intro (fn := Tryz.f93) tok Tryz.func93 (by kernel_rfl) rfl ?_
  intro w0 X
  rw [entry_mkE _ _ [(0, V1 (dW ws))] rfl rfl]
  refine AWP_reg_seq tok fun K hK => ?_
  refine s_assign rfl rfl rfl ?_
  refine s_end (hK _ ?_); clear hK K
  refine AWP_seq (AWP_block (a_loop (α := List Nat) (fun us => mk 21 [(0, V1 (dW us))] [] []) (fun us => us.length ≤ ws.length ∧ trimW us = trimW ws) List.length ws ?_ ⟨Nat.le_refl _, rfl⟩ ?_))
  · exact Wk.mk' ⟨rfl, trivial⟩ trivial
  rintro us ⟨hle, hus⟩
  refine AWP_seq ?_
  refine AWP_reg_seq tok fun K hK => ?_
  refine s_move rfl rfl rfl ?_
  refine s_blt rfl (len_w rfl rfl rfl) rfl ?_
  refine s_bin rfl rfl rfl ?_
  refine s_split (fun hb => ?_) (fun hb => ?_)
  · rcases List.eq_nil_or_concat us with rfl | ⟨vs, x, rfl⟩
    · simp at hb
    rw [List.concat_eq_append] at *
    simp only [List.length_append, List.length_singleton] at *
    refine s_move rfl rfl rfl ?_
    refine s_move rfl rfl rfl ?_
    refine s_move rfl rfl rfl ?_
    refine s_blt rfl (len_w rfl rfl (List.length_append)) rfl ?_
    refine s_bin rfl (e_sub (c := (vs.length : Int)) (by simp) (by omega)) rfl ?_
    refine s_indexAddr rfl (x_w (i := vs.length) rfl rfl rfl rfl rfl (by simp)) rfl ?_
    refine s_load rfl rfl rfl ?_
    refine s_bin rfl rfl rfl ?_
    refine s_pick rfl rfl rfl ?_
    refine s_end (hK _ ?_); clear hK K
    refine a_cond rfl (fun h => ?_) (fun h => ?_)
    · refine AWP_skip ?_
      show AWP _ _ _ _ _ _
      have hx : x = 0 := by simpa using h
      subst hx
      refine AWP_block ?_
      refine AWP_reg tok fun K hK => ?_
      refine s_move rfl rfl rfl ?_
      refine s_move rfl rfl rfl ?_
      refine s_blt rfl (len_w rfl rfl (List.length_append)) rfl ?_
      refine s_bin rfl (e_sub (c := (vs.length : Int)) (by simp) (by omega)) rfl ?_
      refine s_slice rfl rfl rfl (sl_w (lo := 0) (hi := vs.length) rfl rfl rfl rfl rfl rfl (by omega) (by simp)) rfl ?_
      refine s_assign rfl rfl rfl ?_
      refine s_end (hK _ ?_); clear hK K
      exact ⟨vs, by simp, ⟨by omega, by rw [← hus, trimW_snoc0]⟩, Wk.mk' ⟨by show V1 _ = _; simp, trivial⟩ trivial⟩
    · have hx : x ≠ 0 := by simpa using h
      refine AWP_exit ?_
      show AWP _ _ _ _ _ _
      refine AWP_reg_seq tok fun K hK => ?_
      refine s_move rfl rfl rfl ?_
      refine s_assign rfl rfl rfl ?_
      refine s_end (hK _ ?_); clear hK K
      refine AWP_ret ?_
      repeat (with_reducible refine tq_ret ?_)
      exact post_ret (fin_mk (by rfl) (by rfl) (by rw [← hus, trimW_snoc _ hx]; rfl))
  · have hu : us = [] := by simpa using hb
    subst hu
    refine s_move rfl rfl rfl ?_
    refine s_skip rfl ?_
    refine s_skip rfl ?_
    refine s_skip rfl ?_
    refine s_skip rfl ?_
    refine s_skip rfl ?_
    refine s_skip rfl ?_
    refine s_skip rfl ?_
    refine s_pick rfl rfl rfl ?_
    refine s_end (hK _ ?_); clear hK K
    refine a_cond rfl (fun h => by cases h) (fun _ => ?_)
    refine AWP_exit ?_
    show AWP _ _ _ _ _ _
    refine AWP_reg_seq tok fun K hK => ?_
    refine s_move rfl rfl rfl ?_
    refine s_assign rfl rfl rfl ?_
    refine s_end (hK _ ?_); clear hK K
    refine AWP_ret ?_
    repeat (with_reducible refine tq_ret ?_)
    exact post_ret (fin_mk (by rfl) (by rfl) (by rw [← hus]; rfl))

/-- The cells of an integer. -/
def IC (neg : Bool) (ws : List Nat) : List SC := [.d (.lit (.bool neg)), .d (dW ws)]
/-- Its value. -/
def zv (neg : Bool) (ws : List Nat) : Int := if neg then -(wv ws : Int) else wv ws
/-- The cells of the canonical integer. -/
def ZC (z : Int) : List SC := IC (decide (z < 0)) (wof z.natAbs)
abbrev AG (cs : List SC) : SV := .val (.agg cs)

theorem zv_abs (neg : Bool) (ws : List Nat) : (zv neg ws).natAbs = wv ws := by unfold zv; split <;> omega
theorem zv_neg (neg : Bool) (ws : List Nat) : decide (zv neg ws < 0) = (neg && decide (wv ws ≠ 0)) := by
  unfold zv
  cases neg with
  | true =>
    by_cases h : wv ws = 0
    · simp [h]
    · have : -(wv ws : Int) < 0 := by omega
      simp [h]; omega
  | false => simp
theorem made_eq {neg : Bool} {ws : List Nat} (hw : wOK ws) : ZC (zv neg ws) = IC (neg && decide (wv ws ≠ 0)) (trimW ws) := by
  unfold ZC
  rw [zv_neg, zv_abs, trimW_eq hw]
theorem zv_ZC (z : Int) : zv (decide (z < 0)) (wof z.natAbs) = z := by
  unfold zv
  rw [wv_wof]
  by_cases h : z < 0
  · simp only [h, decide_true, if_true]; omega
  · simp only [h, decide_false]; simp; omega

theorem made_c (neg : Bool) (ws : List Nat) (hw : wOK ws) (hl : ws.length ≤ 1073741824) : Con Tryz.prog 89 [dB neg, V1 (dW ws)] { v := AG (ZC (zv neg ws)) } := by
  refine con_intro (fn := Tryz.f89) tok Tryz.func89 (by kernel_rfl) rfl ?_
  intro w0 X
  rw [entry_mkE _ _ [(0, dB neg), (1, V1 (dW ws))] rfl rfl]
  rw [made_eq hw]
  refine AWP_reg_seq tok fun K hK => ?_
  refine s_alloc rfl rfl rfl rfl rfl rfl ?_
  refine s_end (hK _ ?_); clear hK K
  refine AWP_reg_seq tok fun K hK => ?_
  refine s_move rfl rfl rfl ?_
  refine s_call rfl rfl (trim_c ws hl) rfl rfl rfl rfl ?_
  refine s_assign rfl rfl rfl ?_
  refine s_end (hK _ ?_); clear hK K
  have hv := trimW_wv ws
  have ht := trimW_top ws
  generalize trimW ws = us at *
  refine AWP_seq ?_
  refine AWP_reg_seq tok fun K hK => ?_
  refine s_move rfl rfl rfl ?_
  refine s_blt rfl (len_w rfl rfl rfl) rfl ?_
  refine s_bin rfl rfl rfl ?_
  refine s_end (hK _ ?_); clear hK K
  refine a_cond rfl (fun hb => ?_) (fun hb => ?_)
  · have hu : us = [] := by simpa using hb
    subst hu
    refine AWP_reg_seq tok fun K hK => ?_
    refine s_build rfl rfl rfl ?_
    refine s_store rfl rfl rfl rfl rfl ?_
    refine s_end (hK _ ?_); clear hK K
    refine AWP_ret ?_
    repeat (with_reducible refine tq_ret ?_)
    exact post_ret (fin_mk (by rfl) (by rfl) (by rw [← hv]; simp [wv]; rfl))
  · have hu : us ≠ [] := by simpa using hb
    refine AWP_skip ?_
    show AWP _ _ _ _ _ _
    refine AWP_reg_seq tok fun K hK => ?_
    refine s_move rfl rfl rfl ?_
    refine s_move rfl rfl rfl ?_
    refine s_build rfl rfl rfl ?_
    refine s_store rfl rfl rfl rfl rfl ?_
    refine s_end (hK _ ?_); clear hK K
    have h0 : wv ws ≠ 0 := by
      have h1 := wv_ge ht hu
      have h2 := pow_pos (us.length - 1)
      omega
    refine AWP_ret ?_
    repeat (with_reducible refine tq_ret ?_)
    exact post_ret (fin_mk (by rfl) (by rfl) (by simp [h0]; rfl))
end Go.Proofs.YtcafppnjemgkiaaGreat

/- Sums, differences, quotients and lengths of words, as package math/bits computes them. No condition. -/
namespace Go.Proofs.YtcafppnjemgkiaaGreat
attribute [local irreducible] lexA

theorem add32_c (x y c : Nat) (hx : x < 4294967296) (hy : y < 4294967296) (hc : c ≤ 1) : Con Tryz.prog 107 [dU x, dU y, dU c] { v := .tup [.one (.d (.lit (.int .u32 (((x + y + c) % 4294967296 : Nat) : Int)))), .one (.d (.lit (.int .u32 (((x + y + c) / 4294967296 : Nat) : Int))))] } := by
  refine con_intro (fn := Tryz.f107) tok Tryz.func107 (by kernel_rfl) rfl ?_
  intro w0 X
  rw [entry_mkE _ _ [(0, dU x), (1, dU y), (2, dU c)] rfl rfl]
  refine AWP_reg_seq tok fun K hK => ?_
  refine s_assign rfl rfl rfl ?_
  refine s_assign rfl rfl rfl ?_
  refine s_end (hK _ ?_); clear hK K
  refine AWP_reg_seq tok fun K hK => ?_
  refine s_move rfl rfl rfl ?_
  refine s_conv rfl (e_conv rfl rfl rfl (wrapL (by omega))) rfl ?_
  refine s_move rfl rfl rfl ?_
  refine s_conv rfl (e_conv rfl rfl rfl (wrapL (by omega))) rfl ?_
  refine s_bin rfl (e_addL rfl (by omega)) rfl ?_
  refine s_move rfl rfl rfl ?_
  refine s_conv rfl (e_conv rfl rfl rfl (wrapL (by omega))) rfl ?_
  refine s_bin rfl (e_addL rfl (by omega)) rfl ?_
  refine s_assign rfl rfl rfl ?_
  refine s_end (hK _ ?_); clear hK K
  refine AWP_reg_seq tok fun K hK => ?_
  refine s_move rfl rfl rfl ?_
  refine s_conv rfl (e_conv rfl rfl rfl (wrapU _)) rfl ?_
  refine s_assign rfl rfl rfl ?_
  refine s_end (hK _ ?_); clear hK K
  refine AWP_reg_seq tok fun K hK => ?_
  refine s_move rfl rfl rfl ?_
  refine s_bin rfl (e_shrL (s := 32) (by omega) rfl) rfl ?_
  refine s_conv rfl (e_conv rfl rfl rfl (wrapU _)) rfl ?_
  refine s_assign rfl rfl rfl ?_
  refine s_end (hK _ ?_); clear hK K
  refine AWP_ret ?_
  refine ⟨_, _, rfl, rfl, ?_⟩
  have : (x + y + c) / 2 ^ 32 % 4294967296 = (x + y + c) / 4294967296 := by show _ % _ = _ / 4294967296; omega
  rw [this]; rfl

theorem div32_c (h l d : Nat) (hh : h < d) (hd : d < 4294967296) (hl : l < 4294967296) : Con Tryz.prog 113 [dU h, dU l, dU d] { v := .tup [.one (.d (.lit (.int .u32 (((h * 4294967296 + l) / d : Nat) : Int)))), .one (.d (.lit (.int .u32 (((h * 4294967296 + l) % d : Nat) : Int))))] } := by
  refine con_intro (fn := Tryz.f113) tok Tryz.func113 (by kernel_rfl) rfl ?_
  intro w0 X
  rw [entry_mkE _ _ [(0, dU h), (1, dU l), (2, dU d)] rfl rfl]
  have hq : (h * 4294967296 + l) / d < 4294967296 := by
    rw [Nat.div_lt_iff_lt_mul (by omega)]
    have : h * 4294967296 + 4294967296 ≤ d * 4294967296 := by rw [← Nat.succ_mul]; exact Nat.mul_le_mul_right _ hh
    rw [Nat.mul_comm 4294967296 d]; omega
  have hr : (h * 4294967296 + l) % d < d := Nat.mod_lt _ (by omega)
  refine AWP_reg_seq tok fun K hK => ?_
  refine s_assign rfl rfl rfl ?_
  refine s_assign rfl rfl rfl ?_
  refine s_end (hK _ ?_); clear hK K
  refine AWP_seq ?_
  refine AWP_reg_seq tok fun K hK => ?_
  refine s_move rfl rfl rfl ?_
  refine s_bin rfl rfl rfl ?_
  refine s_move rfl rfl rfl ?_
  refine s_env (v' := dB true) (by show dB _ = _; congr; simp; omega) ?_
  refine s_move rfl rfl rfl ?_
  refine s_move rfl rfl rfl ?_
  refine s_bin rfl rfl rfl ?_
  refine s_pick rfl rfl rfl ?_
  refine s_end (hK _ ?_); clear hK K
  refine a_cond rfl (fun hb => ?_) (fun hb => ?_)
  · simp at hb; omega
  refine AWP_skip ?_
  show AWP _ _ _ _ _ _
  refine AWP_reg_seq tok fun K hK => ?_
  refine s_move rfl rfl rfl ?_
  refine s_conv rfl (e_conv rfl rfl rfl (wrapL (by omega))) rfl ?_
  refine s_bin rfl (e_shlL (s := 32) (z := h * 4294967296) (by omega) (by show h * 4294967296 % _ = h * 4294967296; omega)) rfl ?_
  refine s_move rfl rfl rfl ?_
  refine s_conv rfl (e_conv rfl rfl rfl (wrapL (by omega))) rfl ?_
  refine s_bin rfl (e_orL (s := 32) (by show h * 4294967296 % 4294967296 = 0; omega) (by omega) (by omega) rfl) rfl ?_
  refine s_assign rfl rfl rfl ?_
  refine s_end (hK _ ?_); clear hK K
  refine a_draw tok mixed (A := [[], [], [], [1], [0, 1, 2], [], [], [], [6], [5, 6, 7], [], []]) (an := [{}, {}, {}, {}, {}, {}, {}, {}, {}, {}, {}, {}]) rfl (by kernel_rfl) rfl fun K hK => ?_
  refine s_move rfl rfl rfl ?_
  refine s_move rfl rfl rfl ?_
  refine s_conv rfl (e_conv rfl rfl rfl (wrapL (by omega))) rfl ?_
  refine s_bin rfl (e_quoL (by omega) (by omega) rfl) rfl ?_
  refine s_conv rfl (e_conv rfl rfl rfl (wrapU _)) rfl ?_
  refine s_move rfl rfl rfl ?_
  refine s_move rfl rfl rfl ?_
  refine s_conv rfl (e_conv rfl rfl rfl (wrapL (by omega))) rfl ?_
  refine s_bin rfl (e_remL (by omega) rfl) rfl ?_
  refine s_conv rfl (e_conv rfl rfl rfl (wrapU _)) rfl ?_
  refine s_assign rfl rfl rfl ?_
  refine s_assign rfl rfl rfl ?_
  refine s_end (hK _ ?_); clear hK K
  refine AWP_ret ?_
  refine ⟨_, _, rfl, rfl, ?_⟩
  rw [Nat.mod_eq_of_lt hq, Nat.mod_eq_of_lt (show (h * 4294967296 + l) % d < 4294967296 by omega)]; rfl

section
variable {T : Tab} {t : TypeId}
theorem ofI32 (a : BitVec 32) : BitVec.ofInt 32 (a.toNat : Int) = a := by
  apply BitVec.eq_of_toNat_eq
  simp only [BitVec.toNat_ofInt]
  have := a.isLt
  omega
theorem wB (a : BitVec 32) : IntKind.u32.wrap (a.toNat : Int) = (a.toNat : Int) := IntWalk.u32_in _ (by have := a.isLt; omega)
theorem e_andU (a b : BitVec 32) : effBin T .and t (dU a.toNat) (dU b.toNat) = .set (dU (a &&& b).toNat) := by
  show setLit (.int .u32 (IntKind.u32.wrap ((BitVec.ofInt 32 (a.toNat : Int) &&& BitVec.ofInt 32 (b.toNat : Int)).toNat : Int))) = _
  rw [ofI32, ofI32, wB]; rfl
theorem e_orU (a b : BitVec 32) : effBin T .or t (dU a.toNat) (dU b.toNat) = .set (dU (a ||| b).toNat) := by
  show setLit (.int .u32 (IntKind.u32.wrap ((BitVec.ofInt 32 (a.toNat : Int) ||| BitVec.ofInt 32 (b.toNat : Int)).toNat : Int))) = _
  rw [ofI32, ofI32, wB]; rfl
theorem e_xorU (a b : BitVec 32) : effBin T .xor t (dU a.toNat) (dU b.toNat) = .set (dU (a ^^^ b).toNat) := by
  show setLit (.int .u32 (IntKind.u32.wrap ((BitVec.ofInt 32 (a.toNat : Int) ^^^ BitVec.ofInt 32 (b.toNat : Int)).toNat : Int))) = _
  rw [ofI32, ofI32, wB]; rfl
theorem e_notU (a : BitVec 32) : effUn .xor (dU a.toNat) = .set (dU (~~~a).toNat) := by
  show setLit (.int .u32 (IntKind.u32.wrap ((BitVec.ofInt 32 4294967295 ^^^ BitVec.ofInt 32 (a.toNat : Int)).toNat : Int))) = _
  have h : BitVec.ofInt 32 4294967295 = BitVec.allOnes 32 := by decide
  rw [ofI32, wB, h, BitVec.allOnes_xor]; rfl
theorem e_subU (a b : BitVec 32) : effBin T .sub t (dU a.toNat) (dU b.toNat) = .set (dU (a - b).toNat) := by
  show setLit (.int .u32 (IntKind.u32.wrap ((a.toNat : Int) - b.toNat))) = _
  have : IntKind.u32.wrap ((a.toNat : Int) - b.toNat) = ((a - b).toNat : Int) := by
    rw [IntKind.wrap_u32, BitVec.toNat_sub]
    have := a.isLt
    have := b.isLt
    omega
  rw [this]; rfl
end

theorem sub_borrow (a b c : BitVec 32) (hc : c.toNat ≤ 1) : ((~~~a &&& b) ||| (~~~(a ^^^ b) &&& (a - b - c))).toNat / 2 ^ 31 = if a.toNat < b.toNat + c.toNat then 1 else 0 := by
  have key : ∀ v : BitVec 32, v.toNat / 2 ^ 31 = v.msb.toNat := by
    intro v
    rw [BitVec.msb_eq_decide]
    have := v.isLt
    by_cases h : 2 ^ (32 - 1) ≤ v.toNat
    · simp only [h, decide_true, Bool.toNat_true]; omega
    · simp only [h, decide_false, Bool.toNat_false]; omega
  rw [key, BitVec.msb_or, BitVec.msb_and, BitVec.msb_and, BitVec.msb_not, BitVec.msb_not, BitVec.msb_xor]
  have ha := a.isLt
  have hb := b.isLt
  have hcl := c.isLt
  have hd : (a - b - c).toNat = (a.toNat + 8589934592 - b.toNat - c.toNat) % 4294967296 := by
    rw [BitVec.toNat_sub, BitVec.toNat_sub]; omega
  have ma : a.msb = decide (2147483648 ≤ a.toNat) := BitVec.msb_eq_decide a
  have mb : b.msb = decide (2147483648 ≤ b.toNat) := BitVec.msb_eq_decide b
  have md : (a - b - c).msb = decide (2147483648 ≤ (a - b - c).toNat) := BitVec.msb_eq_decide _
  rw [ma, mb, md, hd]
  by_cases h1 : 2147483648 ≤ a.toNat <;> by_cases h2 : 2147483648 ≤ b.toNat <;> by_cases h3 : a.toNat < b.toNat + c.toNat <;>
    by_cases h4 : 2147483648 ≤ (a.toNat + 8589934592 - b.toNat - c.toNat) % 4294967296 <;> simp [h1, h2, h3, h4] <;> omega

theorem sub32_c (x y c : Nat) (hx : x < 4294967296) (hy : y < 4294967296) (hc : c ≤ 1) : Con Tryz.prog 108 [dU x, dU y, dU c]
    { v := .tup [.one (.d (.lit (.int .u32 (((x + 8589934592 - y - c) % 4294967296 : Nat) : Int)))), .one (.d (.lit (.int .u32 ((if x < y + c then 1 else 0 : Nat) : Int))))] } := by
  obtain ⟨a, rfl⟩ : ∃ a : BitVec 32, a.toNat = x := ⟨BitVec.ofNat 32 x, by rw [BitVec.toNat_ofNat]; omega⟩
  obtain ⟨b, rfl⟩ : ∃ b : BitVec 32, b.toNat = y := ⟨BitVec.ofNat 32 y, by rw [BitVec.toNat_ofNat]; omega⟩
  obtain ⟨e, rfl⟩ : ∃ e : BitVec 32, e.toNat = c := ⟨BitVec.ofNat 32 c, by rw [BitVec.toNat_ofNat]; omega⟩
  refine con_intro (fn := Tryz.f108) tok Tryz.func108 (by kernel_rfl) rfl ?_
  intro w0 X
  rw [entry_mkE _ _ [(0, dU a.toNat), (1, dU b.toNat), (2, dU e.toNat)] rfl rfl]
  refine AWP_reg_seq tok fun K hK => ?_
  refine s_assign rfl rfl rfl ?_
  refine s_assign rfl rfl rfl ?_
  refine s_end (hK _ ?_); clear hK K
  refine AWP_reg_seq tok fun K hK => ?_
  refine s_move rfl rfl rfl ?_
  refine s_move rfl rfl rfl ?_
  refine s_bin rfl (e_subU a b) rfl ?_
  refine s_move rfl rfl rfl ?_
  refine s_bin rfl (e_subU (a - b) e) rfl ?_
  refine s_assign rfl rfl rfl ?_
  refine s_end (hK _ ?_); clear hK K
  refine AWP_reg_seq tok fun K hK => ?_
  refine s_move rfl rfl rfl ?_
  refine s_un rfl (e_notU a) rfl ?_
  refine s_move rfl rfl rfl ?_
  refine s_bin rfl (e_andU (~~~a) b) rfl ?_
  refine s_move rfl rfl rfl ?_
  refine s_move rfl rfl rfl ?_
  refine s_bin rfl (e_xorU a b) rfl ?_
  refine s_un rfl (e_notU (a ^^^ b)) rfl ?_
  refine s_move rfl rfl rfl ?_
  refine s_bin rfl (e_andU (~~~(a ^^^ b)) (a - b - e)) rfl ?_
  refine s_bin rfl (e_orU (~~~a &&& b) (~~~(a ^^^ b) &&& (a - b - e))) rfl ?_
  refine s_bin rfl (e_shrU (s := 31) (by omega) (sub_borrow a b e hc)) rfl ?_
  refine s_assign rfl rfl rfl ?_
  refine s_end (hK _ ?_); clear hK K
  refine AWP_ret ?_
  refine ⟨_, _, rfl, rfl, ?_⟩
  have : (a - b - e).toNat = (a.toNat + 8589934592 - b.toNat - e.toNat) % 4294967296 := by
    have ha := a.isLt
    have hb := b.isLt
    rw [BitVec.toNat_sub, BitVec.toNat_sub]; omega
  rw [← this]; rfl
end Go.Proofs.YtcafppnjemgkiaaGreat

/- The number of bits of a word; magnitudes compared. No condition. -/
namespace Go.Proofs.YtcafppnjemgkiaaGreat
attribute [local irreducible] lexA

/-- The number of bits. -/
def bl (n : Nat) : Nat := if n = 0 then 0 else n.log2 + 1
theorem bl_shift {x k : Nat} (h : 2 ^ k ≤ x) : k + bl (x / 2 ^ k) = bl x := by
  have h0 : 0 < 2 ^ k := Nat.two_pow_pos k
  have h1 : x / 2 ^ k ≠ 0 := by have := Nat.div_pos h h0; omega
  have h2 : x ≠ 0 := by omega
  unfold bl
  rw [if_neg h1, if_neg h2]
  have : x.log2 = (x / 2 ^ k).log2 + k := by
    rw [Nat.log2_eq_iff h2]
    have h3 := Nat.log2_self_le h1
    have h4 := @Nat.lt_log2_self (x / 2 ^ k)
    refine ⟨?_, ?_⟩
    · rw [Nat.pow_add]; exact (Nat.le_div_iff_mul_le h0).1 h3
    · rw [Nat.add_right_comm, Nat.pow_add]; exact (Nat.div_lt_iff_lt_mul h0).1 h4
  omega
theorem bl_le {x k : Nat} (h : x < 2 ^ k) : bl x ≤ k := by
  unfold bl
  split
  · omega
  · rename_i h0; have := (Nat.log2_lt h0).2 h; omega
theorem bl_bounds {x : Nat} (h : x ≠ 0) : 2 ^ (bl x - 1) ≤ x ∧ x < 2 ^ bl x ∧ 1 ≤ bl x := by
  unfold bl
  rw [if_neg h]
  exact ⟨by simpa using Nat.log2_self_le h, Nat.lt_log2_self, by omega⟩

def lenOK (s : ByteArray) : Bool := (List.range 256).all fun b => match s[b]? with
  | some u => u.toNat == bl b
  | none => false
theorem x_len {T : Tab} {t : TypeId} {ti : TI} {s : ByteArray} {b : Nat} (h1 : T t = some ti) (h2 : ti.und = .string) (hs : lenOK s = true) (hb : b < 256) :
    effIndex T t (V1 (.lit (.string s))) (V1 (.lit (.int .u8 (b : Int)))) = .set (V1 (.lit (.int .u8 (bl b : Int)))) := by
  have := List.all_eq_true.1 hs b (List.mem_range.2 hb)
  simp only [effIndex, h1, litOf, intOfS, h2]
  rw [if_pos (Int.natCast_nonneg _)]
  simp only [Int.toNat_natCast]
  cases hg : s[b]? with
  | none => rw [hg] at this; cases this
  | some u => rw [hg] at this; simp only [beq_iff_eq] at this; simp only [this, setLit]

set_option maxRecDepth 20000 in
theorem len32_c (x : Nat) (hx : x < 4294967296) : Con Tryz.prog 114 [dU x] { v := dI (bl x) } := by
  refine con_intro (fn := Tryz.f114) tok Tryz.func114 (by kernel_rfl) rfl ?_
  intro w0 X
  rw [entry_mkE _ _ [(0, dU x)] rfl rfl]
  refine AWP_reg_seq tok fun K hK => ?_
  refine s_assign rfl rfl rfl ?_
  refine s_end (hK _ ?_); clear hK K
  refine a_join (α := Nat × Nat) (fun p => mk 19 [(0, dU p.1), (2, dI p.2)] [] []) (fun p => p.1 < 65536 ∧ p.2 ≤ 16 ∧ p.2 + bl p.1 = bl x) ?_ ?_
  · refine AWP_reg_seq tok fun K hK => ?_
    refine s_move rfl rfl rfl ?_
    refine s_bin rfl rfl rfl ?_
    refine s_end (hK _ ?_); clear hK K
    refine a_cond rfl (fun hb => ?_) (fun hb => ?_)
    · have hb : 65536 ≤ x := by simp at hb; omega
      refine AWP_reg_seq tok fun K hK => ?_
      refine s_move rfl rfl rfl ?_
      refine s_bin rfl (e_shrU (s := 16) (by omega) rfl) rfl ?_
      refine s_assign rfl rfl rfl ?_
      refine s_end (hK _ ?_); clear hK K
      refine AWP_reg tok fun K hK => ?_
      refine s_assign rfl rfl rfl ?_
      refine s_end (hK _ ?_); clear hK K
      exact ⟨(x / 2 ^ 16, 16), ⟨by simp only; omega, by simp, bl_shift hb⟩, Wk.mk' ⟨rfl, rfl, trivial⟩ trivial⟩
    · have hb : x < 65536 := by simp at hb; omega
      refine AWP_skip ?_
      exact ⟨(x, 0), ⟨hb, by simp, by simp⟩, Wk.mk' ⟨rfl, rfl, trivial⟩ trivial⟩
  rintro ⟨y, n⟩ ⟨hy, hn, hbl⟩
  simp only at hy hn hbl
  refine a_join (α := Nat × Nat) (fun p => mk 19 [(0, dU p.1), (2, dI p.2)] [] []) (fun p => p.1 < 256 ∧ p.2 ≤ 24 ∧ p.2 + bl p.1 = bl x) ?_ ?_
  · refine AWP_reg_seq tok fun K hK => ?_
    refine s_move rfl rfl rfl ?_
    refine s_bin rfl rfl rfl ?_
    refine s_end (hK _ ?_); clear hK K
    refine a_cond rfl (fun hb => ?_) (fun hb => ?_)
    · have hb : 256 ≤ y := by simp at hb; omega
      refine AWP_reg_seq tok fun K hK => ?_
      refine s_move rfl rfl rfl ?_
      refine s_bin rfl (e_shrU (s := 8) (by omega) rfl) rfl ?_
      refine s_assign rfl rfl rfl ?_
      refine s_end (hK _ ?_); clear hK K
      refine AWP_reg tok fun K hK => ?_
      refine s_move rfl rfl rfl ?_
      refine s_bin rfl (e_add (c := ((n + 8 : Nat) : Int)) (by omega) (by omega)) rfl ?_
      refine s_assign rfl rfl rfl ?_
      refine s_end (hK _ ?_); clear hK K
      have := bl_shift (k := 8) (x := y) hb
      exact ⟨(y / 2 ^ 8, n + 8), ⟨by simp only; omega, by simp only; omega, by simp only; omega⟩, Wk.mk' ⟨rfl, rfl, trivial⟩ trivial⟩
    · have hb : y < 256 := by simp at hb; omega
      refine AWP_skip ?_
      exact ⟨(y, n), ⟨hb, by simp only; omega, by simp only; omega⟩, Wk.mk' ⟨rfl, rfl, trivial⟩ trivial⟩
  rintro ⟨y, n⟩ ⟨hy, hn, hbl⟩
  simp only at hy hn hbl
  have h8 := bl_le (k := 8) (x := y) (by omega)
  refine AWP_reg_seq tok fun K hK => ?_
  refine s_move rfl rfl rfl ?_
  refine s_move rfl rfl rfl ?_
  refine s_conv rfl (e_conv (m := (y : Int)) rfl rfl rfl (by rw [IntKind.wrap_u8]; omega)) rfl ?_
  refine s_index rfl (x_len rfl rfl (by kernel_rfl) hy) rfl ?_
  refine s_conv rfl (e_conv (m := (bl y : Int)) rfl rfl rfl (IntWalk.i64_in _ (by omega))) rfl ?_
  refine s_bin rfl (e_add (c := ((bl x : Nat) : Int)) (by omega) (by omega)) rfl ?_
  refine s_assign rfl rfl rfl ?_
  refine s_end (hK _ ?_); clear hK K
  refine AWP_ret ?_
  repeat (with_reducible refine tq_ret ?_)
  exact post_ret (fin_mk (by rfl) (by rfl) (by rfl))

theorem lz32_c (x : Nat) (hx : x < 4294967296) : Con Tryz.prog 111 [dU x] { v := dI (32 - (bl x : Int)) } := by
  refine con_intro (fn := Tryz.f111) tok Tryz.func111 (by kernel_rfl) rfl ?_
  intro w0 X
  rw [entry_mkE _ _ [(0, dU x)] rfl rfl]
  have h8 := bl_le (k := 32) (x := x) (by omega)
  refine AWP_reg_seq tok fun K hK => ?_
  refine s_assign rfl rfl rfl ?_
  refine s_end (hK _ ?_); clear hK K
  refine AWP_reg_seq tok fun K hK => ?_
  refine s_move rfl rfl rfl ?_
  refine s_call rfl rfl (len32_c x hx) rfl rfl rfl rfl ?_
  refine s_bin rfl (e_sub rfl (by omega)) rfl ?_
  refine s_assign rfl rfl rfl ?_
  refine s_end (hK _ ?_); clear hK K
  refine AWP_ret ?_
  repeat (with_reducible refine tq_ret ?_)
  exact post_ret (fin_mk (by rfl) (by rfl) (by rfl))
end Go.Proofs.YtcafppnjemgkiaaGreat

/- Magnitudes compared. No condition. -/
namespace Go.Proofs.YtcafppnjemgkiaaGreat
attribute [local irreducible] lexA

def ncmp (m n : Nat) : Int := if m < n then -1 else if n < m then 1 else 0
theorem wv_split (a : List Nat) (k : Nat) (h : k ≤ a.length) : wv a = wv (a.take k) + 4294967296 ^ k * wv (a.drop k) := by
  have := wv_append (a.take k) (a.drop k)
  rw [List.take_append_drop, List.length_take, Nat.min_eq_left h] at this
  exact this
theorem wv_less {a b : List Nat} (ha : wOK a) (hl : a.length = b.length) {k : Nat} (hk : k < a.length) (hd : a.drop (k + 1) = b.drop (k + 1)) (hlt : a[k] < b[k]'(by omega)) : wv a < wv b := by
  rw [wv_split a (k + 1) (by omega), wv_split b (k + 1) (by omega), hd, wv_take_succ hk, wv_take_succ (by omega)]
  have h1 := wv_lt (ha.take k)
  rw [List.length_take, Nat.min_eq_left (by omega)] at h1
  have h2 : (a[k] + 1) * 4294967296 ^ k ≤ b[k] * 4294967296 ^ k := Nat.mul_le_mul_right _ hlt
  rw [Nat.add_mul, Nat.one_mul] at h2
  omega
theorem wv_len_lt {a b : List Nat} (ha : wOK a) (tb : wTop b) (h : a.length < b.length) : wv a < wv b := by
  have h1 := wv_lt ha
  have h2 := wv_ge tb (by intro h'; simp [h'] at h)
  have : 4294967296 ^ a.length ≤ 4294967296 ^ (b.length - 1) := Nat.pow_le_pow_right (by decide) (by omega)
  omega

theorem compare_c (a b : List Nat) (ha : wOK a) (hb : wOK b) (ta : wTop a) (tb : wTop b) (la : a.length ≤ 1073741824) (lb : b.length ≤ 1073741824) :
    Con Tryz.prog 95 [V1 (dW a), V1 (dW b)] { v := dI (ncmp (wv a) (wv b)) } := by
  refine con_intro (fn := Tryz.f95) tok Tryz.func95 (by kernel_rfl) rfl ?_
  intro w0 X
  rw [entry_mkE _ _ [(0, V1 (dW a)), (1, V1 (dW b))] rfl rfl]
  refine AWP_reg_seq tok fun K hK => ?_
  refine s_assign rfl rfl rfl ?_
  refine s_end (hK _ ?_); clear hK K
  refine AWP_seq ?_
  refine AWP_reg_seq tok fun K hK => ?_
  refine s_move rfl rfl rfl ?_
  refine s_blt rfl (len_w rfl rfl rfl) rfl ?_
  refine s_move rfl rfl rfl ?_
  refine s_blt rfl (len_w rfl rfl rfl) rfl ?_
  refine s_bin rfl rfl rfl ?_
  refine s_end (hK _ ?_); clear hK K
  refine a_cond rfl (fun hc => ?_) (fun hc => ?_)
  · have hc : a.length ≠ b.length := by simp at hc; omega
    refine AWP_seq ?_
    refine AWP_reg_seq tok fun K hK => ?_
    refine s_move rfl rfl rfl ?_
    refine s_blt rfl (len_w rfl rfl rfl) rfl ?_
    refine s_move rfl rfl rfl ?_
    refine s_blt rfl (len_w rfl rfl rfl) rfl ?_
    refine s_bin rfl rfl rfl ?_
    refine s_end (hK _ ?_); clear hK K
    refine a_cond rfl (fun hd => ?_) (fun hd => ?_)
    · have hd : a.length < b.length := by simp at hd; omega
      refine AWP_reg_seq tok fun K hK => ?_
      refine s_assign rfl rfl rfl ?_
      refine s_end (hK _ ?_); clear hK K
      refine AWP_ret ?_
      repeat (with_reducible refine tq_ret ?_)
      exact post_ret (fin_mk (by rfl) (by rfl) (by have := wv_len_lt ha tb hd; unfold ncmp; rw [if_pos this]; rfl))
    · have hd : b.length < a.length := by simp at hd; omega
      refine AWP_skip ?_
      show AWP _ _ _ _ _ _
      refine AWP_reg_seq tok fun K hK => ?_
      refine s_assign rfl rfl rfl ?_
      refine s_end (hK _ ?_); clear hK K
      refine AWP_ret ?_
      repeat (with_reducible refine tq_ret ?_)
      exact post_ret (fin_mk (by rfl) (by rfl) (by have := wv_len_lt hb ta hd; unfold ncmp; rw [if_neg (by omega), if_pos this]; rfl))
  have hc : a.length = b.length := by simp at hc; omega
  refine AWP_skip ?_
  show AWP _ _ _ _ _ _
  refine AWP_seq ?_
  refine AWP_reg_seq tok fun K hK => ?_
  refine s_move rfl rfl rfl ?_
  refine s_blt rfl (len_w rfl rfl rfl) rfl ?_
  refine s_bin rfl (e_sub rfl (by omega)) rfl ?_
  refine s_assign rfl rfl rfl ?_
  refine s_end (hK _ ?_); clear hK K
  refine AWP_block (a_loop (α := Nat) (fun k => mk 41 [(0, V1 (dW a)), (1, V1 (dW b)), (5, dI ((k : Int) - 1))] [] []) (fun k => k ≤ a.length ∧ a.drop k = b.drop k) (fun k => k) a.length ?_ ⟨Nat.le_refl _, by simp [hc]⟩ ?_)
  · exact Wk.mk' ⟨rfl, rfl, rfl, trivial⟩ trivial
  rintro k ⟨hk, hdr⟩
  refine AWP_seq ?_
  refine AWP_reg_seq tok fun K hK => ?_
  refine s_move rfl rfl rfl ?_
  refine s_bin rfl rfl rfl ?_
  refine s_end (hK _ ?_); clear hK K
  refine a_cond rfl (fun hg => ?_) (fun hg => ?_)
  · obtain ⟨j, rfl⟩ : ∃ j, k = j + 1 := ⟨k - 1, by simp at hg; omega⟩
    refine AWP_skip ?_
    show AWP _ _ _ _ _ _
    refine AWP_seq (AWP_block ?_)
    have hjb : j < b.length := by omega
    refine a_draw tok mixed (A := [[], [], [], [0, 1], [], [], [], [4, 5], [0, 1, 2, 4, 5, 6]]) (an := [{}, {}, {}, {}, {}, {}, {}, {}, {}]) rfl (by kernel_rfl) rfl fun K hK => ?_
    refine s_move rfl rfl rfl ?_
    refine s_move rfl rfl rfl ?_
    refine s_indexAddr rfl (x_w (i := j) rfl rfl rfl rfl (by simp) (by omega)) rfl ?_
    refine s_load rfl rfl rfl ?_
    refine s_move rfl rfl rfl ?_
    refine s_move rfl rfl rfl ?_
    refine s_indexAddr rfl (x_w (i := j) rfl rfl rfl rfl (by simp) (by omega)) rfl ?_
    refine s_load rfl rfl rfl ?_
    refine s_bin rfl rfl rfl ?_
    refine s_end (hK _ ?_); clear hK K
    refine a_cond rfl (fun hn => ?_) (fun hn => ?_)
    · have hn : a[j] ≠ b[j] := by simp at hn; omega
      refine AWP_seq ?_
      refine a_env [(0, V1 (dW a)), (1, V1 (dW b)), (5, dI (((j + 1 : Nat) : Int) - 1))] ⟨rfl, rfl, rfl, trivial⟩ ?_
      refine a_draw tok mixed (A := [[], [], [], [0, 1], [], [], [], [4, 5], [0, 1, 2, 4, 5, 6]]) (an := [{}, {}, {}, {}, {}, {}, {}, {}, {}]) rfl (by kernel_rfl) rfl fun K hK => ?_
      refine s_move rfl rfl rfl ?_
      refine s_move rfl rfl rfl ?_
      refine s_indexAddr rfl (x_w (i := j) rfl rfl rfl rfl (by simp) (by omega)) rfl ?_
      refine s_load rfl rfl rfl ?_
      refine s_move rfl rfl rfl ?_
      refine s_move rfl rfl rfl ?_
      refine s_indexAddr rfl (x_w (i := j) rfl rfl rfl rfl (by simp) (by omega)) rfl ?_
      refine s_load rfl rfl rfl ?_
      refine s_bin rfl rfl rfl ?_
      refine s_end (hK _ ?_); clear hK K
      refine a_cond rfl (fun hl => ?_) (fun hl => ?_)
      · have hl : a[j] < b[j] := by simp at hl; omega
        refine AWP_reg_seq tok fun K hK => ?_
        refine s_assign rfl rfl rfl ?_
        refine s_end (hK _ ?_); clear hK K
        refine AWP_ret ?_
        repeat (with_reducible refine tq_ret ?_)
        exact post_ret (fin_mk (by rfl) (by rfl) (by have := wv_less ha hc (by omega) hdr hl; unfold ncmp; rw [if_pos this]; rfl))
      · have hl : b[j] < a[j] := by simp at hl; omega
        refine AWP_skip ?_
        show AWP _ _ _ _ _ _
        refine AWP_reg_seq tok fun K hK => ?_
        refine s_assign rfl rfl rfl ?_
        refine s_end (hK _ ?_); clear hK K
        refine AWP_ret ?_
        repeat (with_reducible refine tq_ret ?_)
        exact post_ret (fin_mk (by rfl) (by rfl) (by have := wv_less hb hc.symm (by omega) hdr.symm hl; unfold ncmp; rw [if_neg (by omega), if_pos this]; rfl))
    · have hn : a[j] = b[j] := by simp at hn; omega
      refine AWP_skip ?_
      show AWP _ _ _ _ _ _
      refine AWP_reg tok fun K hK => ?_
      refine s_move rfl rfl rfl ?_
      refine s_bin rfl (e_sub (c := (j : Int) - 1) (by omega) (by omega)) rfl ?_
      refine s_assign rfl rfl rfl ?_
      refine s_end (hK _ ?_); clear hK K
      exact ⟨j, by omega, ⟨by omega, by rw [List.drop_eq_getElem_cons (by omega), List.drop_eq_getElem_cons hjb, hn, hdr]⟩, Wk.mk' ⟨rfl, rfl, rfl, trivial⟩ trivial⟩
  · have hk0 : k = 0 := by simp at hg; omega
    subst hk0
    refine AWP_exit ?_
    show AWP _ _ _ _ _ _
    refine AWP_reg_seq tok fun K hK => ?_
    refine s_assign rfl rfl rfl ?_
    refine s_end (hK _ ?_); clear hK K
    have : a = b := by simpa using hdr
    refine AWP_ret ?_
    repeat (with_reducible refine tq_ret ?_)
    exact post_ret (fin_mk (by rfl) (by rfl) (by subst this; unfold ncmp; rw [if_neg (by omega), if_neg (by omega)]; rfl))
end Go.Proofs.YtcafppnjemgkiaaGreat

/- Magnitudes added and subtracted. No condition. -/
namespace Go.Proofs.YtcafppnjemgkiaaGreat
attribute [local irreducible] lexA

/-- What is added up to word i. -/
def sumN (x y : List Nat) (i : Nat) : Nat := wv (x.take i) + wv (y.take i)
theorem sumN_succ (x y : List Nat) (i : Nat) : sumN x y (i + 1) = sumN x y i + (x.getD i 0 + y.getD i 0) * 4294967296 ^ i := by
  unfold sumN; rw [wv_take', wv_take', Nat.add_mul]; omega
theorem sumN_carry {x y : List Nat} (hx : wOK x) (hy : wOK y) (i : Nat) : sumN x y i / 4294967296 ^ i ≤ 1 := by
  unfold sumN
  have h1 := wv_lt (hx.take i)
  have h2 := wv_lt (hy.take i)
  have h3 : 4294967296 ^ (x.take i).length ≤ 4294967296 ^ i := Nat.pow_le_pow_right (by decide) (by simp; omega)
  have h4 : 4294967296 ^ (y.take i).length ≤ 4294967296 ^ i := Nat.pow_le_pow_right (by decide) (by simp; omega)
  have : (wv (x.take i) + wv (y.take i)) / 4294967296 ^ i < 2 := by
    rw [Nat.div_lt_iff_lt_mul (pow_pos i)]; omega
  omega
theorem sumN_step (x y : List Nat) (i : Nat) : sumN x y (i + 1) / 4294967296 ^ i = x.getD i 0 + y.getD i 0 + sumN x y i / 4294967296 ^ i := by
  rw [sumN_succ, Nat.add_mul_div_right _ _ (pow_pos i)]; omega

theorem plus_c (a b : List Nat) (ha : wOK a) (hb : wOK b) (la : a.length ≤ 1073741824) (lb : b.length ≤ 1073741824) :
    Con Tryz.prog 94 [V1 (dW a), V1 (dW b)] { v := V1 (dW (wfix (max a.length b.length + 1) (wv a + wv b))) } := by
  refine con_intro (fn := Tryz.f94) tok Tryz.func94 (by kernel_rfl) rfl ?_
  intro w0 X
  rw [entry_mkE _ _ [(0, V1 (dW a)), (1, V1 (dW b))] rfl rfl]
  refine AWP_reg_seq tok fun K hK => ?_
  refine s_assign rfl rfl rfl ?_
  refine s_end (hK _ ?_); clear hK K
  refine a_join (α := List Nat × List Nat) (fun p => mk 53 [(0, V1 (dW p.1)), (1, V1 (dW p.2))] [] []) (fun p => wOK p.1 ∧ wOK p.2 ∧ p.2.length ≤ p.1.length ∧ p.1.length = max a.length b.length ∧ wv p.1 + wv p.2 = wv a + wv b) ?_ ?_
  · refine AWP_reg_seq tok fun K hK => ?_
    refine s_move rfl rfl rfl ?_
    refine s_blt rfl (len_w rfl rfl rfl) rfl ?_
    refine s_move rfl rfl rfl ?_
    refine s_blt rfl (len_w rfl rfl rfl) rfl ?_
    refine s_bin rfl rfl rfl ?_
    refine s_end (hK _ ?_); clear hK K
    refine a_cond rfl (fun hc => ?_) (fun hc => ?_)
    · have hc : a.length < b.length := by simp at hc; omega
      refine AWP_reg tok fun K hK => ?_
      refine s_move rfl rfl rfl ?_
      refine s_move rfl rfl rfl ?_
      refine s_assign rfl rfl rfl ?_
      refine s_assign rfl rfl rfl ?_
      refine s_end (hK _ ?_); clear hK K
      exact ⟨(b, a), ⟨hb, ha, by simp only; omega, by simp only; omega, by simp only; omega⟩, Wk.mk' ⟨rfl, rfl, trivial⟩ trivial⟩
    · have hc : b.length ≤ a.length := by simp at hc; omega
      refine AWP_skip ?_
      exact ⟨(a, b), ⟨ha, hb, by simp only; omega, by simp only; omega, rfl⟩, Wk.mk' ⟨rfl, rfl, trivial⟩ trivial⟩
  rintro ⟨x, y⟩ ⟨hx, hy, hl, hm, hs⟩
  simp only at hx hy hl hm hs
  rw [← hm, ← hs]
  have lx : x.length ≤ 1073741824 := by omega
  show AWP _ _ _ _ _ (mk 53 [(0, V1 (dW x)), (1, V1 (dW y))] [] [])
  refine AWP_reg_seq tok fun K hK => ?_
  refine s_move rfl rfl rfl ?_
  refine s_blt rfl (len_w rfl rfl rfl) rfl ?_
  refine s_bin rfl (e_add (c := ((x.length + 1 : Nat) : Int)) (by omega) (by omega)) rfl ?_
  refine s_makeSlice (sz := _) (es := _) (f := _) (v := _) rfl (mk_w (l := 0) (c := x.length + 1) rfl rfl rfl rfl rfl (Nat.le_of_ble_eq_true rfl) rfl rfl (by omega) (by omega)) rfl rfl ?_
  refine s_assign rfl rfl rfl ?_
  refine s_end (hK _ ?_); clear hK K
  refine AWP_reg_seq tok fun K hK => ?_
  refine s_assign rfl rfl rfl ?_
  refine s_end (hK _ ?_); clear hK K
  refine AWP_seq ?_
  refine AWP_reg_seq tok fun K hK => ?_
  refine s_move rfl rfl rfl ?_
  refine s_blt rfl (len_w rfl rfl rfl) rfl ?_
  refine s_move rfl rfl rfl ?_
  refine s_end (hK _ ?_); clear hK K
  refine AWP_block (a_loop (α := Nat) (fun i => mk 53 [(22, V1 (dW x)), (23, dI x.length), (24, dI i), (1, V1 (dW y)), (6, dU (sumN x y i / 4294967296 ^ i)), (5, .val (.one (.own 21 1 0 i)))] [(21, some (.arr 1 ((wfix i (sumN x y i)).map cW)))] [])
    (fun i => i ≤ x.length) (fun i => x.length - i) 0 ?_ (Nat.zero_le _) ?_)
  · exact Wk.mk' ⟨rfl, rfl, rfl, rfl, by simp [sumN, wv]; rfl, rfl, trivial⟩ ⟨rfl, trivial⟩
  intro i hi
  have hcar := sumN_carry hx hy i
  refine AWP_reg_seq tok fun K hK => ?_
  refine s_bin rfl rfl rfl ?_
  refine s_end (hK _ ?_); clear hK K
  refine AWP_seq ?_
  refine a_cond rfl (fun hg => ?_) (fun hg => ?_)
  · have hg : i < x.length := by simp at hg; omega
    refine AWP_skip ?_
    show AWP _ _ _ _ _ _
    refine AWP_seq (AWP_block ?_)
    refine AWP_reg_seq tok fun K hK => ?_
    refine s_move rfl rfl rfl ?_
    refine s_indexAddr rfl (x_w (i := i) rfl rfl rfl rfl rfl hg) rfl ?_
    refine s_load rfl rfl rfl ?_
    refine s_assign rfl rfl rfl ?_
    refine s_assign rfl rfl rfl ?_
    refine s_end (hK _ ?_); clear hK K
    refine AWP_reg_seq tok fun K hK => ?_
    refine s_assign rfl rfl rfl ?_
    refine s_end (hK _ ?_); clear hK K
    refine a_join (α := Unit) (fun _ => mk 53 [(22, V1 (dW x)), (23, dI x.length), (24, dI i), (1, V1 (dW y)), (6, dU (sumN x y i / 4294967296 ^ i)), (8, dU x[i]), (9, dU (y.getD i 0)), (5, .val (.one (.own 21 1 0 i)))] [(21, some (.arr 1 ((wfix i (sumN x y i)).map cW)))] []) (fun _ => True) ?_ ?_
    · refine AWP_reg_seq tok fun K hK => ?_
      refine s_move rfl rfl rfl ?_
      refine s_move rfl rfl rfl ?_
      refine s_blt rfl (len_w rfl rfl rfl) rfl ?_
      refine s_bin rfl rfl rfl ?_
      refine s_end (hK _ ?_); clear hK K
      refine a_cond rfl (fun hc => ?_) (fun hc => ?_)
      · have hc : i < y.length := by simp at hc; omega
        refine AWP_reg tok fun K hK => ?_
        refine s_move rfl rfl rfl ?_
        refine s_move rfl rfl rfl ?_
        refine s_indexAddr rfl (x_w (i := i) rfl rfl rfl rfl rfl hc) rfl ?_
        refine s_load rfl rfl rfl ?_
        refine s_assign rfl rfl rfl ?_
        refine s_end (hK _ ?_); clear hK K
        exact ⟨(), trivial, Wk.mk' ⟨rfl, rfl, rfl, rfl, rfl, rfl, by rw [getD_get hc]; rfl, rfl, trivial⟩ ⟨rfl, trivial⟩⟩
      · have hc : y.length ≤ i := by simp at hc; omega
        refine AWP_skip ?_
        exact ⟨(), trivial, Wk.mk' ⟨rfl, rfl, rfl, rfl, rfl, rfl, by rw [List.getD_eq_getElem?_getD, List.getElem?_eq_none hc]; rfl, rfl, trivial⟩ ⟨rfl, trivial⟩⟩
    rintro - -
    have e1 : x[i] + y.getD i 0 + sumN x y i / 4294967296 ^ i = sumN x y (i + 1) / 4294967296 ^ i := by rw [sumN_step, getD_get hg]
    refine AWP_reg_seq tok fun K hK => ?_
    refine s_assign rfl rfl rfl ?_
    refine s_end (hK _ ?_); clear hK K
    refine AWP_reg_seq tok fun K hK => ?_
    refine s_move rfl rfl rfl ?_
    refine s_move rfl rfl rfl ?_
    refine s_move rfl rfl rfl ?_
    refine s_call rfl rfl (add32_c x[i] (y.getD i 0) (sumN x y i / 4294967296 ^ i) (hx.get hg) (getD_lt hy i) hcar) rfl rfl rfl rfl ?_
    refine s_move rfl rfl rfl ?_
    refine s_extract rfl rfl rfl ?_
    refine s_extract rfl rfl rfl ?_
    refine s_assign rfl rfl rfl ?_
    refine s_assign rfl rfl rfl ?_
    refine s_end (hK _ ?_); clear hK K
    refine AWP_reg tok fun K hK => ?_
    refine s_move rfl rfl rfl ?_
    refine s_move rfl rfl rfl ?_
    refine s_buildSlice rfl rfl rfl rfl ?_
    refine s_append rfl (ap_o rfl rfl rfl rfl rfl rfl (by decide) (Nat.le_of_ble_eq_true rfl) rfl (by simp) rfl rfl (by simp [wfix_length]) (by simp; omega)) rfl rfl ?_
    refine s_assign rfl rfl rfl ?_
    refine s_end (hK _ ?_); clear hK K
    show AWP _ _ _ _ _ _
    refine AWP_reg tok fun K hK => ?_
    refine s_bin rfl (e_add (c := ((i + 1 : Nat) : Int)) (by omega) (by omega)) rfl ?_
    refine s_move rfl rfl rfl ?_
    refine s_end (hK _ ?_); clear hK K
    refine ⟨i + 1, by omega, hg, Wk.rn [22, 23, 24, 1, 6, 5] [47] 47 21 rfl rfl rfl ⟨rfl, rfl, rfl, rfl, ?_, ?_, trivial⟩ ⟨?_, trivial⟩⟩
    · show dU _ = dU _
      rw [e1, Nat.div_div_eq_div_mul, ← Nat.pow_succ]
    · show SV.val (.one (.own 21 1 0 _)) = _
      simp [wfix_length]
    · show some (OO.arr 1 _) = _
      rw [wfix_snoc, e1, sumN_succ, wfix_add]
      simp [cW]
  · have hg : i = x.length := by simp at hg; omega
    subst hg
    refine AWP_exit ?_
    show AWP _ _ _ _ _ _
    refine AWP_reg_seq tok fun K hK => ?_
    refine s_move rfl rfl rfl ?_
    refine s_move rfl rfl rfl ?_
    refine s_buildSlice rfl rfl rfl rfl ?_
    refine s_append rfl (ap_o rfl rfl rfl rfl rfl rfl (by decide) (Nat.le_of_ble_eq_true rfl) rfl (by simp) rfl rfl (by simp [wfix_length]) (by simp; omega)) rfl rfl ?_
    refine s_assign rfl rfl rfl ?_
    refine s_end (hK _ ?_); clear hK K
    refine a_fz [4] [52] 52 [(4, V1 (dW (wfix (x.length + 1) (wv x + wv y))))] [] rfl ?_ trivial ?_
    · refine ⟨frz_w ?_ (by simp [wfix_length]), trivial⟩
      rw [wfix_snoc]
      have e1 : sumN x y x.length = wv x + wv y := by unfold sumN; rw [List.take_of_length_le (Nat.le_refl _), List.take_of_length_le hl]
      have e2 : (wv x + wv y) / 4294967296 ^ x.length % 4294967296 = (wv x + wv y) / 4294967296 ^ x.length := Nat.mod_eq_of_lt (by rw [← e1]; omega)
      rw [e1, e2]; simp [cW]
    refine AWP_ret ?_
    repeat (with_reducible refine tq_ret ?_)
    exact post_ret (fin_mk (by rfl) (by rfl) (by rfl))

theorem minus_c (a b : List Nat) (ha : wOK a) (hb : wOK b) (la : a.length ≤ 1073741824) (hl : b.length ≤ a.length) (hle : wv b ≤ wv a) :
    Con Tryz.prog 96 [V1 (dW a), V1 (dW b)] { v := V1 (dW (wfix a.length (wv a - wv b))) } := by
  refine con_intro (fn := Tryz.f96) tok Tryz.func96 (by kernel_rfl) rfl ?_
  intro w0 X
  rw [entry_mkE _ _ [(0, V1 (dW a)), (1, V1 (dW b))] rfl rfl]
  refine AWP_reg_seq tok fun K hK => ?_
  refine s_assign rfl rfl rfl ?_
  refine s_end (hK _ ?_); clear hK K
  refine AWP_reg_seq tok fun K hK => ?_
  refine s_move rfl rfl rfl ?_
  refine s_blt rfl (len_w rfl rfl rfl) rfl ?_
  refine s_makeSlice (sz := _) (es := _) (f := _) (v := _) rfl (mk_w (l := 0) (c := a.length) rfl rfl rfl rfl rfl (Nat.le_of_ble_eq_true rfl) rfl rfl (by omega) (by omega)) rfl rfl ?_
  refine s_assign rfl rfl rfl ?_
  refine s_end (hK _ ?_); clear hK K
  refine AWP_reg_seq tok fun K hK => ?_
  refine s_assign rfl rfl rfl ?_
  refine s_end (hK _ ?_); clear hK K
  refine AWP_seq ?_
  refine AWP_reg_seq tok fun K hK => ?_
  refine s_move rfl rfl rfl ?_
  refine s_blt rfl (len_w rfl rfl rfl) rfl ?_
  refine s_move rfl rfl rfl ?_
  refine s_end (hK _ ?_); clear hK K
  refine AWP_block (a_loop (α := Nat) (fun i => mk 42 [(14, V1 (dW a)), (15, dI a.length), (16, dI i), (1, V1 (dW b)), (6, dU (1 - difN a b i / 4294967296 ^ i)), (5, .val (.one (.own 13 1 0 i)))] [(13, some (.arr 1 ((wfix i (difN a b i)).map cW)))] [])
    (fun i => i ≤ a.length) (fun i => a.length - i) 0 ?_ (Nat.zero_le _) ?_)
  · exact Wk.mk' ⟨rfl, rfl, rfl, rfl, by rw [difN_zero]; rfl, rfl, trivial⟩ ⟨rfl, trivial⟩
  intro i hi
  have hcar := difN_carry (y := b) ha i
  refine AWP_reg_seq tok fun K hK => ?_
  refine s_bin rfl rfl rfl ?_
  refine s_end (hK _ ?_); clear hK K
  refine AWP_seq ?_
  refine a_cond rfl (fun hg => ?_) (fun hg => ?_)
  · have hg : i < a.length := by simp at hg; omega
    refine AWP_skip ?_
    show AWP _ _ _ _ _ _
    refine AWP_seq (AWP_block ?_)
    refine AWP_reg_seq tok fun K hK => ?_
    refine s_move rfl rfl rfl ?_
    refine s_indexAddr rfl (x_w (i := i) rfl rfl rfl rfl rfl hg) rfl ?_
    refine s_load rfl rfl rfl ?_
    refine s_assign rfl rfl rfl ?_
    refine s_assign rfl rfl rfl ?_
    refine s_end (hK _ ?_); clear hK K
    refine AWP_reg_seq tok fun K hK => ?_
    refine s_assign rfl rfl rfl ?_
    refine s_end (hK _ ?_); clear hK K
    refine a_join (α := Unit) (fun _ => mk 42 [(14, V1 (dW a)), (15, dI a.length), (16, dI i), (1, V1 (dW b)), (6, dU (1 - difN a b i / 4294967296 ^ i)), (8, dU a[i]), (9, dU (b.getD i 0)), (5, .val (.one (.own 13 1 0 i)))] [(13, some (.arr 1 ((wfix i (difN a b i)).map cW)))] []) (fun _ => True) ?_ ?_
    · refine AWP_reg_seq tok fun K hK => ?_
      refine s_move rfl rfl rfl ?_
      refine s_move rfl rfl rfl ?_
      refine s_blt rfl (len_w rfl rfl rfl) rfl ?_
      refine s_bin rfl rfl rfl ?_
      refine s_end (hK _ ?_); clear hK K
      refine a_cond rfl (fun hc => ?_) (fun hc => ?_)
      · have hc : i < b.length := by simp at hc; omega
        refine AWP_reg tok fun K hK => ?_
        refine s_move rfl rfl rfl ?_
        refine s_move rfl rfl rfl ?_
        refine s_indexAddr rfl (x_w (i := i) rfl rfl rfl rfl rfl hc) rfl ?_
        refine s_load rfl rfl rfl ?_
        refine s_assign rfl rfl rfl ?_
        refine s_end (hK _ ?_); clear hK K
        exact ⟨(), trivial, Wk.mk' ⟨rfl, rfl, rfl, rfl, rfl, rfl, by rw [getD_get hc]; rfl, rfl, trivial⟩ ⟨rfl, trivial⟩⟩
      · have hc : b.length ≤ i := by simp at hc; omega
        refine AWP_skip ?_
        exact ⟨(), trivial, Wk.mk' ⟨rfl, rfl, rfl, rfl, rfl, rfl, by rw [List.getD_eq_getElem?_getD, List.getElem?_eq_none hc]; rfl, rfl, trivial⟩ ⟨rfl, trivial⟩⟩
    rintro - -
    have hst := difN_step a hb i
    have hxl := ha.get hg
    have hyl := getD_lt hb i
    rw [getD_get hg] at hst
    have e1 : (a[i] + 8589934592 - b.getD i 0 - (1 - difN a b i / 4294967296 ^ i)) % 4294967296 = difN a b (i + 1) / 4294967296 ^ i % 4294967296 := by
      generalize difN a b i / 4294967296 ^ i = q at *
      generalize difN a b (i + 1) / 4294967296 ^ i = q' at *
      omega
    have e2 : (if a[i] < b.getD i 0 + (1 - difN a b i / 4294967296 ^ i) then 1 else 0) = 1 - difN a b (i + 1) / 4294967296 ^ (i + 1) := by
      rw [Nat.pow_succ, ← Nat.div_div_eq_div_mul]
      generalize difN a b i / 4294967296 ^ i = q at *
      generalize difN a b (i + 1) / 4294967296 ^ i = q' at *
      split <;> omega
    refine AWP_reg_seq tok fun K hK => ?_
    refine s_assign rfl rfl rfl ?_
    refine s_end (hK _ ?_); clear hK K
    refine AWP_reg_seq tok fun K hK => ?_
    refine s_move rfl rfl rfl ?_
    refine s_move rfl rfl rfl ?_
    refine s_move rfl rfl rfl ?_
    refine s_call rfl rfl (sub32_c a[i] (b.getD i 0) (1 - difN a b i / 4294967296 ^ i) (ha.get hg) (getD_lt hb i) (Nat.sub_le _ _)) rfl rfl rfl rfl ?_
    refine s_move rfl rfl rfl ?_
    refine s_extract rfl rfl rfl ?_
    refine s_extract rfl rfl rfl ?_
    refine s_assign rfl rfl rfl ?_
    refine s_assign rfl rfl rfl ?_
    refine s_end (hK _ ?_); clear hK K
    refine AWP_reg tok fun K hK => ?_
    refine s_move rfl rfl rfl ?_
    refine s_move rfl rfl rfl ?_
    refine s_buildSlice rfl rfl rfl rfl ?_
    refine s_append rfl (ap_o rfl rfl rfl rfl rfl rfl (by decide) (Nat.le_of_ble_eq_true rfl) rfl (by simp) rfl rfl (by simp [wfix_length]) (by simp; omega)) rfl rfl ?_
    refine s_assign rfl rfl rfl ?_
    refine s_end (hK _ ?_); clear hK K
    show AWP _ _ _ _ _ _
    refine AWP_reg tok fun K hK => ?_
    refine s_bin rfl (e_add (c := ((i + 1 : Nat) : Int)) (by omega) (by omega)) rfl ?_
    refine s_move rfl rfl rfl ?_
    refine s_end (hK _ ?_); clear hK K
    refine ⟨i + 1, by omega, hg, Wk.rn [14, 15, 16, 1, 6, 5] [39] 39 13 rfl rfl rfl ⟨rfl, rfl, rfl, rfl, ?_, ?_, trivial⟩ ⟨?_, trivial⟩⟩
    · show dU _ = dU _
      rw [e2]
    · show SV.val (.one (.own 13 1 0 _)) = _
      simp [wfix_length]
    · show some (OO.arr 1 _) = _
      have e3 : wfix i (difN a b (i + 1)) = wfix i (difN a b i) := by
        refine wfix_mod ?_
        have := congrArg (· % 4294967296 ^ i) (difN_succ a hb i)
        simp only [Nat.add_mul_mod_self_right, Nat.add_comm (_ * _)] at this
        exact this
      rw [wfix_snoc, e1, e3]
      simp [cW]
  · have hg : i = a.length := by simp at hg; omega
    subst hg
    refine AWP_exit ?_
    show AWP _ _ _ _ _ _
    refine AWP_reg_seq tok fun K hK => ?_
    refine s_move rfl rfl rfl ?_
    refine s_assign rfl rfl rfl ?_
    refine s_end (hK _ ?_); clear hK K
    refine a_fz [4] [13] 13 [(4, V1 (dW (wfix a.length (wv a - wv b))))] [] rfl ?_ trivial ?_
    · exact ⟨frz_w (by rw [difN_end hl hle]) (by simp [wfix_length]), trivial⟩
    refine AWP_ret ?_
    repeat (with_reducible refine tq_ret ?_)
    exact post_ret (fin_mk (by rfl) (by rfl) (by rfl))
end Go.Proofs.YtcafppnjemgkiaaGreat

/- Magnitudes: products, division by a word, bits moved up. No condition. -/
namespace Go.Proofs.YtcafppnjemgkiaaGreat
attribute [local irreducible] lexA

theorem times_c (a b : List Nat) (ha : wOK a) (hb : wOK b) (la : a.length ≤ 1073741824) (lb : b.length ≤ 1073741824) :
    Con Tryz.prog 97 [V1 (dW a), V1 (dW b)] { v := V1 (dW (wfix (a.length + b.length) (wv a * wv b))) } := by
  refine con_intro (fn := Tryz.f97) tok Tryz.func97 (by kernel_rfl) rfl ?_
  intro w0 X
  rw [entry_mkE _ _ [(0, V1 (dW a)), (1, V1 (dW b))] rfl rfl]
  refine AWP_reg_seq tok fun K hK => ?_
  refine s_assign rfl rfl rfl ?_
  refine s_end (hK _ ?_); clear hK K
  refine AWP_reg_seq tok fun K hK => ?_
  refine s_move rfl rfl rfl ?_
  refine s_blt rfl (len_w rfl rfl rfl) rfl ?_
  refine s_move rfl rfl rfl ?_
  refine s_blt rfl (len_w rfl rfl rfl) rfl ?_
  refine s_bin rfl (e_add (c := ((a.length + b.length : Nat) : Int)) (by omega) (by omega)) rfl ?_
  refine s_makeSlice (sz := _) (es := _) (f := _) (v := _) rfl (mk_w (l := a.length + b.length) (c := a.length + b.length) rfl rfl rfl rfl rfl (Nat.le_of_ble_eq_true rfl) rfl rfl (by omega) (by omega)) rfl rfl ?_
  refine s_assign rfl rfl rfl ?_
  refine s_end (hK _ ?_); clear hK K
  refine AWP_seq ?_
  refine AWP_reg_seq tok fun K hK => ?_
  refine s_move rfl rfl rfl ?_
  refine s_blt rfl (len_w rfl rfl rfl) rfl ?_
  refine s_move rfl rfl rfl ?_
  refine s_end (hK _ ?_); clear hK K
  refine AWP_block (a_loop (α := Nat × List Nat) (fun p => mk 67 [(1, V1 (dW b)), (5, .val (.one (.own 17 1 0 (a.length + b.length)))), (18, V1 (dW a)), (19, dI a.length), (20, dI p.1)] [(17, some (.arr 1 (p.2.map cW)))] []) (fun p => p.1 ≤ a.length ∧ WTI a b p.1 0 p.2 0) (fun p => a.length - p.1) (0, List.replicate (a.length + b.length) 0) ?_ ⟨Nat.zero_le _, WTI.start a b⟩ ?_)
  · exact Wk.mk' ⟨rfl, rfl, rfl, rfl, rfl, trivial⟩ ⟨rfl, trivial⟩
  rintro ⟨i, out⟩ ⟨hi, hti⟩
  simp only at hi hti
  show AWP _ _ _ _ _ (mk 67 [(1, V1 (dW b)), (5, .val (.one (.own 17 1 0 (a.length + b.length)))), (18, V1 (dW a)), (19, dI a.length), (20, dI i)] [(17, some (.arr 1 (out.map cW)))] [])
  refine AWP_reg_seq tok fun K hK => ?_
  refine s_bin rfl rfl rfl ?_
  refine s_end (hK _ ?_); clear hK K
  refine AWP_seq ?_
  refine a_cond rfl (fun hg => ?_) (fun hg => ?_)
  · have hg : i < a.length := by simp at hg; omega
    refine AWP_skip ?_
    show AWP _ _ _ _ _ _
    refine AWP_seq ?_
    refine AWP_block ?_
    refine AWP_reg_seq tok fun K hK => ?_
    refine s_move rfl rfl rfl ?_
    refine s_indexAddr rfl (x_wD (i := i) rfl rfl rfl rfl rfl hg) rfl ?_
    refine s_load rfl rfl rfl ?_
    refine s_assign rfl rfl rfl ?_
    refine s_assign rfl rfl rfl ?_
    refine s_end (hK _ ?_); clear hK K
    refine AWP_reg_seq tok fun K hK => ?_
    refine s_assign rfl rfl rfl ?_
    refine s_end (hK _ ?_); clear hK K
    refine AWP_seq ?_
    refine AWP_reg_seq tok fun K hK => ?_
    refine s_move rfl rfl rfl ?_
    refine s_blt rfl (len_w rfl rfl rfl) rfl ?_
    refine s_move rfl rfl rfl ?_
    refine s_end (hK _ ?_); clear hK K
    refine AWP_block (a_loop (α := Nat × List Nat × Nat) (fun p => mk 67 [(1, V1 (dW b)), (5, .val (.one (.own 17 1 0 (a.length + b.length)))), (6, dI i), (7, dU (a.getD i 0)), (8, dL p.2.2), (18, V1 (dW a)), (19, dI a.length), (20, dI i), (25, V1 (dW b)), (26, dI b.length), (27, dI p.1)] [(17, some (.arr 1 (p.2.1.map cW)))] []) (fun p => p.1 ≤ b.length ∧ WTI a b i p.1 p.2.1 p.2.2) (fun p => b.length - p.1) (0, out, 0) ?_ ⟨Nat.zero_le _, hti⟩ ?_)
    · exact Wk.mk' ⟨rfl, rfl, rfl, rfl, rfl, rfl, rfl, rfl, rfl, rfl, rfl, trivial⟩ ⟨rfl, trivial⟩
    rintro ⟨j, out, c⟩ ⟨hj, hti⟩
    simp only at hj hti
    show AWP _ _ _ _ _ (mk 67 [(1, V1 (dW b)), (5, .val (.one (.own 17 1 0 (a.length + b.length)))), (6, dI i), (7, dU (a.getD i 0)), (8, dL c), (18, V1 (dW a)), (19, dI a.length), (20, dI i), (25, V1 (dW b)), (26, dI b.length), (27, dI j)] [(17, some (.arr 1 (out.map cW)))] [])
    have hlen := hti.len
    refine AWP_reg_seq tok fun K hK => ?_
    refine s_bin rfl rfl rfl ?_
    refine s_end (hK _ ?_); clear hK K
    refine AWP_seq ?_
    refine a_cond rfl (fun hh => ?_) (fun hh => ?_)
    · have hh : j < b.length := by simp at hh; omega
      have hB := hti.bound ha hb
      have hij : i + j < out.length := by omega
      have hm : a.getD i 0 * b.getD j 0 < 18446744073709551616 := by omega
      refine AWP_skip ?_
      show AWP _ _ _ _ _ _
      refine AWP_seq ?_
      refine AWP_block ?_
      refine AWP_reg_seq tok fun K hK => ?_
      refine s_move rfl rfl rfl ?_
      refine s_indexAddr rfl (x_wD (i := j) rfl rfl rfl rfl rfl hh) rfl ?_
      refine s_load rfl rfl rfl ?_
      refine s_assign rfl rfl rfl ?_
      refine s_assign rfl rfl rfl ?_
      refine s_end (hK _ ?_); clear hK K
      refine AWP_reg_seq tok fun K hK => ?_
      refine s_move rfl rfl rfl ?_
      refine s_conv rfl (e_conv rfl rfl rfl (wrapL (ha.lt64 i))) rfl ?_
      refine s_move rfl rfl rfl ?_
      refine s_conv rfl (e_conv rfl rfl rfl (wrapL (hb.lt64 j))) rfl ?_
      refine s_bin rfl (e_mulL rfl hm) rfl ?_
      refine s_move rfl rfl rfl ?_
      refine s_move rfl rfl rfl ?_
      refine s_move rfl rfl rfl ?_
      refine s_bin rfl (e_add (c := ((i + j : Nat) : Int)) (by omega) (by omega)) rfl ?_
      refine s_indexAddr rfl (x_o (i := i + j) (j := i + j) rfl rfl rfl rfl rfl (by omega) (by omega)) rfl ?_
      refine s_load rfl (l_wD rfl rfl rfl rfl hij) rfl ?_
      refine s_conv rfl (e_conv rfl rfl rfl (wrapL (hti.ok.lt64 _))) rfl ?_
      refine s_bin rfl (e_addL rfl (by omega)) rfl ?_
      refine s_move rfl rfl rfl ?_
      refine s_bin rfl (e_addL rfl (by omega)) rfl ?_
      refine s_assign rfl rfl rfl ?_
      refine s_end (hK _ ?_); clear hK K
      refine AWP_reg_seq tok fun K hK => ?_
      refine s_move rfl rfl rfl ?_
      refine s_move rfl rfl rfl ?_
      refine s_move rfl rfl rfl ?_
      refine s_bin rfl (e_add (c := ((i + j : Nat) : Int)) (by omega) (by omega)) rfl ?_
      refine s_move rfl rfl rfl ?_
      refine s_conv rfl (e_conv rfl rfl rfl (wrapU _)) rfl ?_
      refine s_indexAddr rfl (x_o (i := i + j) (j := i + j) rfl rfl rfl rfl rfl (by omega) (by omega)) rfl ?_
      refine s_store rfl (st_w rfl rfl rfl hij) rfl rfl rfl ?_
      refine s_end (hK _ ?_); clear hK K
      refine AWP_reg tok fun K hK => ?_
      refine s_move rfl rfl rfl ?_
      refine s_bin rfl (e_shrL (s := 32) (by omega) rfl) rfl ?_
      refine s_assign rfl rfl rfl ?_
      refine s_end (hK _ ?_); clear hK K
      show AWP _ _ _ _ _ _
      refine AWP_reg tok fun K hK => ?_
      refine s_bin rfl (e_add (c := ((j + 1 : Nat) : Int)) (by omega) (by omega)) rfl ?_
      refine s_move rfl rfl rfl ?_
      refine s_end (hK _ ?_); clear hK K
      exact ⟨(j + 1, _, _), by simp only; omega, ⟨hh, hti.step hg hh hB⟩, Wk.mk' ⟨rfl, rfl, rfl, rfl, rfl, rfl, rfl, rfl, rfl, rfl, rfl, trivial⟩ ⟨rfl, trivial⟩⟩
    · have hh : j = b.length := by simp at hh; omega
      subst hh
      have hij : i + b.length < out.length := by omega
      have hcl := hti.cl
      refine AWP_exit ?_
      show AWP _ _ _ _ _ _
      refine AWP_reg tok fun K hK => ?_
      refine s_move rfl rfl rfl ?_
      refine s_move rfl rfl rfl ?_
      refine s_move rfl rfl rfl ?_
      refine s_blt rfl (len_w rfl rfl rfl) rfl ?_
      refine s_bin rfl (e_add (c := ((i + b.length : Nat) : Int)) (by omega) (by omega)) rfl ?_
      refine s_move rfl rfl rfl ?_
      refine s_conv rfl (e_conv (m := (c : Int)) rfl rfl rfl (by rw [wrapU, Nat.mod_eq_of_lt hcl])) rfl ?_
      refine s_indexAddr rfl (x_o (i := i + b.length) (j := i + b.length) rfl rfl rfl rfl rfl (by omega) (by omega)) rfl ?_
      refine s_store rfl (st_w rfl rfl rfl hij) rfl rfl rfl ?_
      refine s_end (hK _ ?_); clear hK K
      show AWP _ _ _ _ _ _
      refine AWP_reg tok fun K hK => ?_
      refine s_bin rfl (e_add (c := ((i + 1 : Nat) : Int)) (by omega) (by omega)) rfl ?_
      refine s_move rfl rfl rfl ?_
      refine s_end (hK _ ?_); clear hK K
      exact ⟨(i + 1, _), by simp only; omega, ⟨hg, hti.row hg⟩, Wk.mk' ⟨rfl, rfl, rfl, rfl, rfl, trivial⟩ ⟨rfl, trivial⟩⟩
  · have hg : i = a.length := by simp at hg; omega
    subst hg
    refine AWP_exit ?_
    show AWP _ _ _ _ _ _
    refine AWP_reg_seq tok fun K hK => ?_
    refine s_move rfl rfl rfl ?_
    refine s_assign rfl rfl rfl ?_
    refine s_end (hK _ ?_); clear hK K
    refine a_fz [4] [17] 17 [(4, V1 (dW (wfix (a.length + b.length) (wv a * wv b))))] [] rfl ?_ trivial ?_
    · exact ⟨frz_w (by rw [hti.fin]) (by simp [wfix_length]), trivial⟩
    refine AWP_ret ?_
    repeat (with_reducible refine tq_ret ?_)
    exact post_ret (fin_mk (by rfl) (by rfl) (by rfl))

theorem short_c (a : List Nat) (d : Nat) (ha : wOK a) (hd : 0 < d) (hdl : d < 4294967296) (la : a.length ≤ 1073741824) :
    Con Tryz.prog 110 [V1 (dW a), dU d] { v := .tup [.one (.d (dW (wfix a.length (wv a / d)))), .one (.d (.lit (.int .u32 ((wv a % d : Nat) : Int))))] } := by
  refine con_intro (fn := Tryz.f110) tok Tryz.func110 (by kernel_rfl) rfl ?_
  intro w0 X
  rw [entry_mkE _ _ [(0, V1 (dW a)), (1, dU d)] rfl rfl]
  refine AWP_reg_seq tok fun K hK => ?_
  refine s_assign rfl rfl rfl ?_
  refine s_assign rfl rfl rfl ?_
  refine s_end (hK _ ?_); clear hK K
  refine AWP_reg_seq tok fun K hK => ?_
  refine s_move rfl rfl rfl ?_
  refine s_blt rfl (len_w rfl rfl rfl) rfl ?_
  refine s_makeSlice (sz := _) (es := _) (f := _) (v := _) rfl (mk_w (l := a.length) (c := a.length) rfl rfl rfl rfl rfl (Nat.le_of_ble_eq_true rfl) rfl rfl (by omega) (by omega)) rfl rfl ?_
  refine s_assign rfl rfl rfl ?_
  refine s_end (hK _ ?_); clear hK K
  refine AWP_reg_seq tok fun K hK => ?_
  refine s_assign rfl rfl rfl ?_
  refine s_end (hK _ ?_); clear hK K
  refine AWP_seq ?_
  refine AWP_reg_seq tok fun K hK => ?_
  refine s_move rfl rfl rfl ?_
  refine s_blt rfl (len_w rfl rfl rfl) rfl ?_
  refine s_bin rfl (e_sub rfl (by omega)) rfl ?_
  refine s_assign rfl rfl rfl ?_
  refine s_end (hK _ ?_); clear hK K
  refine AWP_block (a_loop (α := Nat) (fun i => mk 34 [(0, V1 (dW a)), (1, dU d), (6, .val (.one (.own 11 1 0 a.length))), (7, dU (wv (a.drop i) % d)), (8, dI ((i : Int) - 1))] [(11, some (.arr 1 ((shq a d i).map cW)))] []) (fun i => i ≤ a.length) (fun i => i) a.length ?_ (Nat.le_refl _) ?_)
  · exact Wk.mk' ⟨rfl, rfl, rfl, by simp [wv]; rfl, rfl, trivial⟩ ⟨by simp [shq, wfix]; rfl, trivial⟩
  intro i hi
  refine AWP_seq ?_
  refine AWP_reg_seq tok fun K hK => ?_
  refine s_move rfl rfl rfl ?_
  refine s_bin rfl rfl rfl ?_
  refine s_end (hK _ ?_); clear hK K
  refine a_cond rfl (fun hg => ?_) (fun hg => ?_)
  · obtain ⟨j, rfl⟩ : ∃ j, i = j + 1 := ⟨i - 1, by simp at hg; omega⟩
    have hj : j < a.length := by omega
    have hs := sh_step a hd j
    refine AWP_skip ?_
    show AWP _ _ _ _ _ _
    refine AWP_seq ?_
    refine AWP_block ?_
    refine a_keep [(0, V1 (dW a)), (1, dU d), (6, .val (.one (.own 11 1 0 a.length))), (7, dU (wv (a.drop (j + 1)) % d)), (8, dI j)] [(11, some (.arr 1 ((shq a d (j + 1)).map cW)))] ⟨rfl, rfl, rfl, rfl, by show dI _ = dI _; congr; omega, trivial⟩ ⟨rfl, trivial⟩ ?_
    refine AWP_reg tok fun K hK => ?_
    refine s_move rfl rfl rfl ?_
    refine s_move rfl rfl rfl ?_
    refine s_move rfl rfl rfl ?_
    refine s_move rfl rfl rfl ?_
    refine s_move rfl rfl rfl ?_
    refine s_indexAddr rfl (x_wD (i := j) rfl rfl rfl rfl rfl hj) rfl ?_
    refine s_load rfl rfl rfl ?_
    refine s_move rfl rfl rfl ?_
    refine s_call rfl rfl (div32_c (wv (a.drop (j + 1)) % d) (a.getD j 0) d (Nat.mod_lt _ hd) hdl (getD_lt ha j)) rfl rfl rfl rfl ?_
    refine s_move rfl rfl rfl ?_
    refine s_extract rfl rfl rfl ?_
    refine s_extract rfl rfl rfl ?_
    refine s_indexAddr rfl (x_o (i := j) (j := j) rfl rfl rfl rfl rfl hj (by omega)) rfl ?_
    refine s_store rfl (st_w rfl rfl rfl (by rw [shq_len a d hi]; exact hj)) rfl rfl rfl ?_
    refine s_assign rfl rfl rfl ?_
    refine s_end (hK _ ?_); clear hK K
    show AWP _ _ _ _ _ _
    refine AWP_reg tok fun K hK => ?_
    refine s_move rfl rfl rfl ?_
    refine s_bin rfl (e_sub rfl (by omega)) rfl ?_
    refine s_assign rfl rfl rfl ?_
    refine s_end (hK _ ?_); clear hK K
    refine ⟨j, by omega, by omega, Wk.mk' ⟨rfl, rfl, rfl, ?_, rfl, trivial⟩ ⟨?_, trivial⟩⟩
    · rw [hs.2]; rfl
    · rw [← shq_step ha hd hj]; rfl
  · have hg : i = 0 := by simp at hg; omega
    subst hg
    refine AWP_exit ?_
    show AWP _ _ _ _ _ _
    refine AWP_reg_seq tok fun K hK => ?_
    refine s_move rfl rfl rfl ?_
    refine s_move rfl rfl rfl ?_
    refine s_assign rfl rfl rfl ?_
    refine s_assign rfl rfl rfl ?_
    refine s_end (hK _ ?_); clear hK K
    refine a_fz [4, 5] [11] 11 [(4, V1 (dW (wfix a.length (wv a / d)))), (5, dU (wv a % d))] [] rfl ?_ trivial ?_
    · exact ⟨frz_w (by simp [shq]) (by simp [wfix_length]), rfl, trivial⟩
    refine AWP_ret ?_
    repeat (with_reducible refine tq_ret ?_)
    exact post_ret (fin_mk (by rfl) (by rfl) (by rfl))

theorem shiftedN_c (a : List Nat) (n : Nat) (ha : wOK a) (hn : n ≤ 31) (la : a.length ≤ 1073741824) :
    Con Tryz.prog 112 [V1 (dW a), dL n] { v := .val (.one (.own 0 1 0 (a.length + 1))), ob := some (1, (wfix (a.length + 1) (wv a * 2 ^ n)).map cW) } := by
  refine con_intro (fn := Tryz.f112) tok Tryz.func112 (by kernel_rfl) rfl ?_
  intro w0 X
  rw [entry_mkE _ _ [(0, V1 (dW a)), (1, dL n)] rfl rfl]
  refine AWP_reg_seq tok fun K hK => ?_
  refine s_assign rfl rfl rfl ?_
  refine s_end (hK _ ?_); clear hK K
  refine AWP_reg_seq tok fun K hK => ?_
  refine s_move rfl rfl rfl ?_
  refine s_blt rfl (len_w rfl rfl rfl) rfl ?_
  refine s_bin rfl (e_add (c := ((a.length + 1 : Nat) : Int)) (by omega) (by omega)) rfl ?_
  refine s_makeSlice (sz := _) (es := _) (f := _) (v := _) rfl (mk_w (l := a.length + 1) (c := a.length + 1) rfl rfl rfl rfl rfl (Nat.le_of_ble_eq_true rfl) rfl rfl (by omega) (by omega)) rfl rfl ?_
  refine s_assign rfl rfl rfl ?_
  refine s_end (hK _ ?_); clear hK K
  refine AWP_seq ?_
  refine AWP_reg_seq tok fun K hK => ?_
  refine s_move rfl rfl rfl ?_
  refine s_blt rfl (len_w rfl rfl rfl) rfl ?_
  refine s_move rfl rfl rfl ?_
  refine s_end (hK _ ?_); clear hK K
  refine AWP_block (a_loop (α := Nat) (fun i => mk 41 [(1, dL n), (5, .val (.one (.own 12 1 0 (a.length + 1)))), (13, V1 (dW a)), (14, dI a.length), (15, dI i)] [(12, some (.arr 1 ((wfix (a.length + 1) (wv (a.take i) * 2 ^ n)).map cW)))] []) (fun i => i ≤ a.length) (fun i => a.length - i) 0 ?_ (Nat.zero_le _) ?_)
  · refine Wk.mk' ⟨rfl, rfl, rfl, rfl, rfl, trivial⟩ ⟨?_, trivial⟩
    have : List.replicate (a.length + 1) 0 = wfix (a.length + 1) (wv (a.take 0) * 2 ^ n) := wfix_uniq (wOK.rep0 _) (by simp) (by simp [wv_rep0, wv])
    rw [← this]; rfl
  intro i hi
  refine AWP_reg_seq tok fun K hK => ?_
  refine s_bin rfl rfl rfl ?_
  refine s_end (hK _ ?_); clear hK K
  refine AWP_seq ?_
  refine a_cond rfl (fun hg => ?_) (fun hg => ?_)
  · have hg : i < a.length := by simp at hg; omega
    have hl : (wfix (a.length + 1) (wv (a.take i) * 2 ^ n)).length = a.length + 1 := wfix_length _ _
    obtain ⟨hw1, hw2, hw3⟩ := shf_word ha hn hg
    obtain ⟨hs1, hs2⟩ := shf_set ha hn hg
    have hsm := (shf_step ha n i).2
    have ht : a.getD i 0 * 2 ^ n < 18446744073709551616 := by
      have h1 := getD_lt ha i
      have h2 : 2 ^ n ≤ 4294967296 := Nat.le_trans (Nat.pow_le_pow_right (by decide) hn) (by decide)
      have h3 : a.getD i 0 * 2 ^ n ≤ 4294967295 * 4294967296 := Nat.mul_le_mul (by omega) h2
      omega
    have hmod : a.getD i 0 * 2 ^ n % 4294967296 % 2 ^ n = 0 := by
      have : 4294967296 = 2 ^ n * 2 ^ (32 - n) := by rw [← Nat.pow_add, show n + (32 - n) = 32 from by omega]
      rw [this, Nat.mul_comm (a.getD i 0), Nat.mul_mod_mul_left, Nat.mul_mod_right]
    refine AWP_skip ?_
    show AWP _ _ _ _ _ _
    refine AWP_seq ?_
    refine AWP_block ?_
    refine AWP_reg_seq tok fun K hK => ?_
    refine s_move rfl rfl rfl ?_
    refine s_indexAddr rfl (x_wD (i := i) rfl rfl rfl rfl rfl hg) rfl ?_
    refine s_load rfl rfl rfl ?_
    refine s_assign rfl rfl rfl ?_
    refine s_assign rfl rfl rfl ?_
    refine s_end (hK _ ?_); clear hK K
    refine AWP_reg_seq tok fun K hK => ?_
    refine s_move rfl rfl rfl ?_
    refine s_conv rfl (e_conv rfl rfl rfl (wrapL (ha.lt64 i))) rfl ?_
    refine s_move rfl rfl rfl ?_
    refine s_bin rfl (e_shlL (s := n) (z := a.getD i 0 * 2 ^ n) (by omega) (Nat.mod_eq_of_lt ht)) rfl ?_
    refine s_assign rfl rfl rfl ?_
    refine s_end (hK _ ?_); clear hK K
    refine AWP_reg_seq tok fun K hK => ?_
    refine s_move rfl rfl rfl ?_
    refine s_move rfl rfl rfl ?_
    refine s_indexAddr rfl (x_o (i := i) (j := i) rfl rfl rfl rfl rfl (by omega) (by omega)) rfl ?_
    refine s_load rfl ((l_wD rfl rfl rfl rfl (by omega)).trans (by rw [hw1])) rfl ?_
    refine s_move rfl rfl rfl ?_
    refine s_conv rfl (e_conv rfl rfl rfl (wrapU _)) rfl ?_
    refine s_bin rfl (e_orU' (s := n) hsm hmod hs2 rfl) rfl ?_
    refine s_indexAddr rfl (x_o (i := i) (j := i) rfl rfl rfl rfl rfl (by omega) (by omega)) rfl ?_
    refine s_store rfl (st_w rfl rfl rfl (by omega)) rfl rfl rfl ?_
    refine s_end (hK _ ?_); clear hK K
    refine AWP_reg tok fun K hK => ?_
    refine s_move rfl rfl rfl ?_
    refine s_move rfl rfl rfl ?_
    refine s_bin rfl (e_add (c := ((i + 1 : Nat) : Int)) (by omega) (by omega)) rfl ?_
    refine s_move rfl rfl rfl ?_
    refine s_bin rfl (e_shrL (s := 32) (by omega) rfl) rfl ?_
    refine s_conv rfl (e_conv (m := ((a.getD i 0 * 2 ^ n / 4294967296 : Nat) : Int)) rfl rfl rfl (by rw [wrapU, Nat.mod_eq_of_lt (by omega)])) rfl ?_
    refine s_indexAddr rfl (x_o (i := i + 1) (j := i + 1) rfl rfl rfl rfl rfl (by omega) (by omega)) rfl ?_
    refine s_store rfl (st_w rfl rfl rfl (by rw [List.length_set]; omega)) rfl rfl rfl ?_
    refine s_end (hK _ ?_); clear hK K
    show AWP _ _ _ _ _ _
    refine AWP_reg tok fun K hK => ?_
    refine s_bin rfl (e_add (c := ((i + 1 : Nat) : Int)) (by omega) (by omega)) rfl ?_
    refine s_move rfl rfl rfl ?_
    refine s_end (hK _ ?_); clear hK K
    refine ⟨i + 1, by omega, hg, Wk.mk' ⟨rfl, rfl, rfl, rfl, rfl, trivial⟩ ⟨?_, trivial⟩⟩
    rw [← hs1]; rfl
  · have hg : i = a.length := by simp at hg; omega
    subst hg
    refine AWP_exit ?_
    show AWP _ _ _ _ _ _
    refine AWP_reg_seq tok fun K hK => ?_
    refine s_move rfl rfl rfl ?_
    refine s_assign rfl rfl rfl ?_
    refine s_end (hK _ ?_); clear hK K
    refine AWP_ret ?_
    refine post_ret (fin_own (by rfl) ?_)
    rw [List.take_of_length_le (Nat.le_refl _)]; rfl
theorem shifted_c (a : List Nat) (n : Nat) (ha : wOK a) (hn : n ≤ 31) (la : a.length ≤ 1073741824) :
    Con Tryz.prog 112 [V1 (dW a), dL n] { v := V1 (dW (wfix (a.length + 1) (wv a * 2 ^ n))) } :=
  Con.data (by simp [wfix_length]) (shiftedN_c a n ha hn la)
end Go.Proofs.YtcafppnjemgkiaaGreat

/- Magnitudes: copies, long division. No condition. -/
namespace Go.Proofs.YtcafppnjemgkiaaGreat
attribute [local irreducible] lexA

theorem ncmp_lt {m n : Nat} : ncmp m n < 0 ↔ m < n := by
  unfold ncmp
  by_cases h : m < n
  · simp [h]
  · rw [if_neg h]; split <;> omega
theorem clone_c (a : List Nat) (la : a.length ≤ 1073741824) : Con Tryz.prog 104 [V1 (dW a)] { v := V1 (dW a) } := by
  refine con_intro (fn := Tryz.f104) tok Tryz.func104 (by kernel_rfl) rfl ?_
  intro w0 X
  rw [entry_mkE _ _ [(0, V1 (dW a))] rfl rfl]
  refine AWP_reg_seq tok fun K hK => ?_
  refine s_assign rfl rfl rfl ?_
  refine s_end (hK _ ?_); clear hK K
  refine AWP_seq ?_
  refine AWP_isNil (es := a.map cW) tok rfl rfl rfl rfl rfl rfl rfl rfl rfl rfl fun b hb => ?_
  rw [put_mk, put_mk]
  refine a_cond rfl (fun hc => ?_) (fun hc => ?_)
  · have h0 : a = [] := by simpa using hb hc
    subst h0
    refine AWP_reg_seq tok fun K hK => ?_
    refine s_assign rfl rfl rfl ?_
    refine s_end (hK _ ?_); clear hK K
    refine AWP_ret ?_
    repeat (with_reducible refine tq_ret ?_)
    exact post_ret (fin_mk (by rfl) (by rfl) (by rfl))
  · refine AWP_skip ?_
    show AWP _ _ _ _ _ _
    refine AWP_reg_seq tok fun K hK => ?_
    refine s_buildSlice rfl rfl rfl rfl ?_
    refine s_move rfl rfl rfl ?_
    refine s_append rfl (ap_o (es := []) rfl rfl rfl rfl rfl rfl (by decide) (Nat.le_of_ble_eq_true rfl) rfl cW_len rfl rfl rfl (by simp; omega)) rfl rfl ?_
    refine s_assign rfl rfl rfl ?_
    refine s_end (hK _ ?_); clear hK K
    refine a_fz [2] [7] 7 [(2, V1 (dW a))] [] rfl ?_ trivial ?_
    · exact ⟨frz_w (by simp) (by simp), trivial⟩
    refine AWP_ret ?_
    repeat (with_reducible refine tq_ret ?_)
    exact post_ret (fin_mk (by rfl) (by rfl) (by rfl))

set_option maxHeartbeats 1000000 in
theorem divide_c (a b : List Nat) (ha : wOK a) (hb : wOK b) (ta : wTop a) (tb : wTop b) (hne : b ≠ []) (la : a.length ≤ 1073741824) (lb : b.length ≤ 1073741824) :
    Con Tryz.prog 106 [V1 (dW a), V1 (dW b)] { v := .tup [.one (.d (dW (divQ a b))), .one (.d (dW (divR a b)))] } := by
  have hb0 : 0 < wv b := Nat.lt_of_lt_of_le (pow_pos _) (wv_ge tb hne)
  have hbl : 0 < b.length := List.length_pos_iff.2 hne
  refine con_intro (fn := Tryz.f106) tok Tryz.func106 (by kernel_rfl) rfl ?_
  intro w0 X
  rw [entry_mkE _ _ [(0, V1 (dW a)), (1, V1 (dW b))] rfl rfl]
  refine AWP_reg_seq tok fun K hK => ?_
  refine s_assign rfl rfl rfl ?_
  refine s_assign rfl rfl rfl ?_
  refine s_end (hK _ ?_); clear hK K
  refine AWP_seq ?_
  refine AWP_reg_seq tok fun K hK => ?_
  refine s_move rfl rfl rfl ?_
  refine s_move rfl rfl rfl ?_
  refine s_call rfl rfl (compare_c a b ha hb ta tb la lb) rfl rfl rfl rfl ?_
  refine s_bin rfl rfl rfl ?_
  refine s_end (hK _ ?_); clear hK K
  refine a_cond rfl (fun hc => ?_) (fun hc => ?_)
  · have hc : wv a < wv b := by
      exact ncmp_lt.1 (of_decide_eq_true hc)
    refine AWP_reg_seq tok fun K hK => ?_
    refine s_move rfl rfl rfl ?_
    refine s_call rfl rfl (clone_c a la) rfl rfl rfl rfl ?_
    refine s_assign rfl rfl rfl ?_
    refine s_assign rfl rfl rfl ?_
    refine s_end (hK _ ?_); clear hK K
    refine AWP_ret ?_
    repeat (with_reducible refine tq_ret ?_)
    exact post_ret (fin_mk (by rfl) (by rfl) (by unfold divQ divR; rw [if_pos hc, if_pos hc]; rfl))
  have hc : wv b ≤ wv a := by
    have := mt ncmp_lt.2 (of_decide_eq_false hc)
    omega
  refine AWP_skip ?_
  show AWP _ _ _ _ _ _
  refine AWP_seq ?_
  refine AWP_reg_seq tok fun K hK => ?_
  refine s_move rfl rfl rfl ?_
  refine s_blt rfl (len_w rfl rfl rfl) rfl ?_
  refine s_bin rfl rfl rfl ?_
  refine s_end (hK _ ?_); clear hK K
  refine a_cond rfl (fun h1 => ?_) (fun h1 => ?_)
  · have h1 : b.length = 1 := by simp at h1; omega
    obtain ⟨d, rfl⟩ := List.length_eq_one_iff.1 h1
    have hd : wv [d] = d := by simp [wv]
    rw [hd] at hb0
    refine AWP_reg_seq tok fun K hK => ?_
    refine s_move rfl rfl rfl ?_
    refine s_move rfl rfl rfl ?_
    refine s_indexAddr rfl (x_wD (i := 0) rfl rfl rfl rfl rfl (by simp)) rfl ?_
    refine s_load rfl rfl rfl ?_
    refine s_call rfl rfl (short_c a d ha hb0 (hb d (by simp)) la) rfl rfl rfl rfl ?_
    refine s_move rfl rfl rfl ?_
    refine s_extract rfl rfl rfl ?_
    refine s_extract rfl rfl rfl ?_
    refine s_assign rfl rfl rfl ?_
    refine s_assign rfl rfl rfl ?_
    refine s_end (hK _ ?_); clear hK K
    refine AWP_reg_seq tok fun K hK => ?_
    refine s_move rfl rfl rfl ?_
    refine s_move rfl rfl rfl ?_
    refine s_buildSlice rfl rfl rfl rfl ?_
    refine s_assign rfl rfl rfl ?_
    refine s_assign rfl rfl rfl ?_
    refine s_end (hK _ ?_); clear hK K
    have e1 : divQ a [d] = wfix a.length (wv a / d) := by unfold divQ; rw [if_neg (by omega), if_pos h1, hd]
    have e2 : divR a [d] = [wv a % d] := by unfold divR; rw [if_neg (by omega), if_pos h1, hd]
    refine AWP_ret ?_
    repeat (with_reducible refine tq_ret ?_)
    exact post_ret (fin_mk (by rfl) (by rfl) (by rw [e1, e2]; rfl))
  have h1 : 2 ≤ b.length := by simp at h1; omega
  have hla : b.length ≤ a.length := by
    rcases Nat.lt_or_ge a.length b.length with h' | h'
    · have := wv_len_lt ha tb h'; omega
    · exact h'
  -- the shift
  obtain ⟨n, hn⟩ : ∃ n, n = 32 - bl (b.getD (b.length - 1) 0) := ⟨_, rfl⟩
  have htop0 : b.getD (b.length - 1) 0 ≠ 0 := by
    have := tb hne
    rw [List.getLast_eq_getElem] at this
    rw [getD_get (by omega)]; exact this
  have hbl32 : bl (b.getD (b.length - 1) 0) ≤ 32 := bl_le (getD_lt hb _)
  obtain ⟨hbb1, hbb2, hbb3⟩ := bl_bounds htop0
  have hn31 : n ≤ 31 := by omega
  have hpn : 2 ^ n * 2 ^ bl (b.getD (b.length - 1) 0) = 4294967296 := by rw [← Nat.pow_add, show n + bl (b.getD (b.length - 1) 0) = 32 from by omega]
  have hbsplit : wv b = wv (b.take (b.length - 1)) + b.getD (b.length - 1) 0 * 4294967296 ^ (b.length - 1) := by
    have := wv_take' b (b.length - 1)
    rwa [show b.length - 1 + 1 = b.length from by omega, List.take_of_length_le (Nat.le_refl _)] at this
  have hblow := wv_take_lt hb (b.length - 1)
  obtain ⟨V, hV⟩ : ∃ V, V = wv b * 2 ^ n := ⟨_, rfl⟩
  have hVlt : V < 4294967296 ^ b.length := by
    have e1 : wv b < (b.getD (b.length - 1) 0 + 1) * 4294967296 ^ (b.length - 1) := by rw [hbsplit, Nat.add_mul]; omega
    have e2 : (b.getD (b.length - 1) 0 + 1) * 4294967296 ^ (b.length - 1) ≤ 2 ^ bl (b.getD (b.length - 1) 0) * 4294967296 ^ (b.length - 1) := Nat.mul_le_mul_right _ hbb2
    have e3 : wv b * 2 ^ n < 2 ^ bl (b.getD (b.length - 1) 0) * 4294967296 ^ (b.length - 1) * 2 ^ n := Nat.mul_lt_mul_of_pos_right (by omega) (Nat.two_pow_pos n)
    have e4 : 2 ^ bl (b.getD (b.length - 1) 0) * 4294967296 ^ (b.length - 1) * 2 ^ n = 4294967296 ^ (b.length - 1) * (2 ^ n * 2 ^ bl (b.getD (b.length - 1) 0)) := by grind
    rw [e4, hpn, ← Nat.pow_succ, show (b.length - 1).succ = b.length from by omega] at e3
    rw [hV]; exact e3
  have hVge : 2147483648 * 4294967296 ^ (b.length - 1) ≤ V := by
    have e1 : 2 ^ (bl (b.getD (b.length - 1) 0) - 1) * 4294967296 ^ (b.length - 1) ≤ wv b := by
      rw [hbsplit]
      have := Nat.mul_le_mul_right (4294967296 ^ (b.length - 1)) hbb1
      omega
    have e2 := Nat.mul_le_mul_right (2 ^ n) e1
    have e3 : 2 ^ (bl (b.getD (b.length - 1) 0) - 1) * 2 ^ n = 2147483648 := by rw [← Nat.pow_add, show bl (b.getD (b.length - 1) 0) - 1 + n = 31 from by omega]
    have e4 : 2 ^ (bl (b.getD (b.length - 1) 0) - 1) * 4294967296 ^ (b.length - 1) * 2 ^ n = (2 ^ (bl (b.getD (b.length - 1) 0) - 1) * 2 ^ n) * 4294967296 ^ (b.length - 1) := by grind
    rw [e4, e3] at e2
    rw [hV]; exact e2
  have hV0 : 0 < V := by rw [hV]; exact Nat.mul_pos hb0 (Nat.two_pow_pos n)
  obtain ⟨vs, hvs⟩ : ∃ vs, vs = wfix b.length V := ⟨_, rfl⟩
  have ov : wOK vs := by rw [hvs]; exact wfix_ok _ _
  have lv : vs.length = b.length := by rw [hvs, wfix_length]
  have vv : wv vs = V := by rw [hvs, wv_wfix, Nat.mod_eq_of_lt hVlt]
  have hv1 : 2147483648 ≤ vs.getD (b.length - 1) 0 := by
    have : vs.getD (b.length - 1) 0 = V / 4294967296 ^ (b.length - 1) := by
      rw [hvs, wfix_getD _ (by omega), Nat.mod_eq_of_lt]
      rw [Nat.div_lt_iff_lt_mul (pow_pos _), Nat.mul_comm, ← Nat.pow_succ, show (b.length - 1).succ = b.length from by omega]
      exact hVlt
    rw [this, Nat.le_div_iff_mul_le (pow_pos _)]; exact hVge
  have hv1l : vs.getD (b.length - 1) 0 < 4294967296 := getD_lt ov _
  have hv2l : vs.getD (b.length - 2) 0 < 4294967296 := getD_lt ov _
  obtain ⟨U, hU⟩ : ∃ U, U = wv a * 2 ^ n := ⟨_, rfl⟩
  have hUlt : U < 4294967296 ^ (a.length + 1) := by
    have := shf_lt ha hn31 a.length
    rwa [List.take_of_length_le (Nat.le_refl _), ← hU] at this
  obtain ⟨us, hus⟩ : ∃ us, us = wfix (a.length + 1) U := ⟨_, rfl⟩
  have ou : wOK us := by rw [hus]; exact wfix_ok _ _
  have lu : us.length = a.length + 1 := by rw [hus, wfix_length]
  have uu : wv us = U := by rw [hus, wv_wfix, Nat.mod_eq_of_lt hUlt]
  have hstart : wv (us.drop (a.length + 1 - b.length)) < V := by
    rw [wv_drop ou, uu, Nat.div_lt_iff_lt_mul (pow_pos _), hU, hV]
    have e1 := wv_ge tb hne
    have e2 := wv_lt ha
    have e3 : wv b * 4294967296 ^ (a.length + 1 - b.length) ≥ 4294967296 ^ a.length := by
      have := Nat.mul_le_mul_right (4294967296 ^ (a.length + 1 - b.length)) e1
      rwa [← Nat.pow_add, show b.length - 1 + (a.length + 1 - b.length) = a.length from by omega] at this
    have e4 : wv b * 2 ^ n * 4294967296 ^ (a.length + 1 - b.length) = (wv b * 4294967296 ^ (a.length + 1 - b.length)) * 2 ^ n := by grind
    rw [e4]
    exact Nat.mul_lt_mul_of_pos_right (by omega) (Nat.two_pow_pos n)
  refine AWP_skip ?_
  show AWP _ _ _ _ _ _
  refine AWP_reg_seq tok fun K hK => ?_
  refine s_move rfl rfl rfl ?_
  refine s_move rfl rfl rfl ?_
  refine s_blt rfl (len_w rfl rfl rfl) rfl ?_
  refine s_bin rfl (e_sub (c := ((b.length - 1 : Nat) : Int)) (by omega) (by omega)) rfl ?_
  refine s_indexAddr rfl (x_wD (i := b.length - 1) rfl rfl rfl rfl rfl (by omega)) rfl ?_
  refine s_load rfl rfl rfl ?_
  refine s_call rfl rfl (lz32_c (b.getD (b.length - 1) 0) (getD_lt hb _)) rfl rfl rfl rfl ?_
  refine s_conv rfl (e_conv (m := (n : Int)) rfl rfl rfl (by rw [show (32 - (bl (b.getD (b.length - 1) 0) : Int)) = ((32 - bl (b.getD (b.length - 1) 0) : Nat) : Int) by omega, ← hn]; exact wrapL (by omega))) rfl ?_
  refine s_assign rfl rfl rfl ?_
  refine s_end (hK _ ?_); clear hK K
  refine a_draw tok mixed (A := [[], [], [], [], [], [0, 1], [], [], [0, 1, 2, 3, 4, 6], [3, 4], []]) (an := [{}, {}, {}, { c := [57] }, { c := [57] }, {}, { c := [57, 60] }, { c := [57, 60] }, {}, {}, {}]) rfl (by kernel_rfl) rfl fun K hK => ?_
  refine s_move rfl rfl rfl ?_
  refine s_move rfl rfl rfl ?_
  refine s_callN rfl rfl (shiftedN_c a n ha hn31 la) (Or.inl rfl) rfl rfl rfl rfl ?_
  refine s_move rfl rfl rfl ?_
  refine s_move rfl rfl rfl ?_
  refine s_call rfl rfl (shifted_c b n hb hn31 lb) rfl rfl rfl rfl ?_
  refine s_move rfl rfl rfl ?_
  refine s_blt rfl (len_w rfl rfl rfl) rfl ?_
  refine s_slice rfl rfl rfl (sl_w (lo := 0) (hi := b.length) rfl rfl rfl rfl rfl rfl (by omega) (by rw [wfix_length]; omega)) rfl ?_
  refine s_assign rfl rfl rfl ?_
  refine s_assign rfl rfl rfl ?_
  refine s_end (hK _ ?_); clear hK K
  refine a_keep [(8, dL n), (9, .val (.one (.own 57 1 0 (a.length + 1)))), (10, V1 (dW vs))] [(57, some (.arr 1 (us.map cW)))] ⟨rfl, rfl, ?_, trivial⟩ ⟨by rw [hus, hU]; rfl, trivial⟩ ?_
  · show V1 (dW _) = _
    rw [List.drop_zero, wfix_take, hvs, hV]
  refine AWP_reg_seq tok fun K hK => ?_
  refine s_move rfl rfl rfl ?_
  refine s_blt rfl (len_w rfl rfl lv) rfl ?_
  refine s_assign rfl rfl rfl ?_
  refine s_end (hK _ ?_); clear hK K
  refine AWP_reg_seq tok fun K hK => ?_
  refine s_move rfl rfl rfl ?_
  refine s_blt rfl rfl rfl ?_
  refine s_move rfl rfl rfl ?_
  refine s_bin rfl (e_sub (c := ((a.length + 1 - b.length : Nat) : Int)) (by omega) (by omega)) rfl ?_
  refine s_makeSlice (sz := _) (es := _) (f := _) (v := _) rfl (mk_w (l := a.length + 1 - b.length) (c := a.length + 1 - b.length) rfl rfl rfl rfl rfl (Nat.le_of_ble_eq_true rfl) rfl rfl (by omega) (by omega)) rfl rfl ?_
  refine s_assign rfl rfl rfl ?_
  refine s_end (hK _ ?_); clear hK K
  refine AWP_seq ?_
  refine AWP_reg_seq tok fun K hK => ?_
  refine s_move rfl rfl rfl ?_
  refine s_blt rfl rfl rfl ?_
  refine s_move rfl rfl rfl ?_
  refine s_bin rfl (e_sub (c := ((a.length + 1 - b.length : Nat) : Int)) (by omega) (by omega)) rfl ?_
  refine s_bin rfl (e_sub rfl (by omega)) rfl ?_
  refine s_assign rfl rfl rfl ?_
  refine s_end (hK _ ?_); clear hK K
  refine AWP_block (a_loop (α := List Nat × List Nat × Nat) (fun p => mk 273 [(8, dL n), (9, .val (.one (.own 57 1 0 (a.length + 1)))), (10, V1 (dW vs)), (11, dI b.length), (12, .val (.one (.own 70 1 0 (a.length + 1 - b.length)))), (13, dI ((p.2.2 : Int) - 1))] [(57, some (.arr 1 (p.1.map cW))), (70, some (.arr 1 (p.2.1.map cW)))] []) (fun p => p.2.2 ≤ a.length + 1 - b.length ∧ WDV U V (a.length + 1) b.length p.1 p.2.1 p.2.2) (fun p => p.2.2) (us, List.replicate (a.length + 1 - b.length) 0, a.length + 1 - b.length) ?_ ⟨Nat.le_refl _, ?_⟩ ?_)
  · exact Wk.mk' ⟨rfl, rfl, rfl, rfl, rfl, rfl, trivial⟩ ⟨rfl, rfl, trivial⟩
  · have := WDV.start (V := V) (k := b.length) (n := a.length + 1 - b.length) ou (by omega) hstart
    rw [uu, lu] at this
    exact this
  rintro ⟨u, q, m⟩ ⟨hm, hdv⟩
  simp only at hm hdv
  have hlu := hdv.lenu
  have hlq := hdv.lenq
  show AWP _ _ _ _ _ (mk 273 [(8, dL n), (9, .val (.one (.own 57 1 0 (a.length + 1)))), (10, V1 (dW vs)), (11, dI b.length), (12, .val (.one (.own 70 1 0 (a.length + 1 - b.length)))), (13, dI ((m : Int) - 1))] [(57, some (.arr 1 (u.map cW))), (70, some (.arr 1 (q.map cW)))] [])
  refine AWP_seq ?_
  refine AWP_reg_seq tok fun K hK => ?_
  refine s_move rfl rfl rfl ?_
  refine s_bin rfl rfl rfl ?_
  refine s_end (hK _ ?_); clear hK K
  refine a_cond rfl (fun hg => ?_) (fun hg => ?_)
  · obtain ⟨j, rfl⟩ : ∃ j, m = j + 1 := ⟨m - 1, by simp at hg; omega⟩
    have hj : j < q.length := by omega
    have hdv' := hdv
    rw [← vv, ← lv] at hdv'
    obtain ⟨dv, du, dl1, dl2, hUs⟩ := hdv'.digits ov (by omega)
    rw [lv] at dv du dl1 dl2 hUs
    rw [vv] at dv
    have ouu := hdv.oku
    obtain ⟨D, hD⟩ : ∃ D, D = wv (u.drop j) := ⟨_, rfl⟩
    rw [← hD] at du
    have hDW : D < 4294967296 * V := by
      have h2 := hdv.top
      have h3 := getD_lt ouu j
      rw [hD, wv_drop_succ]
      omega
    have hT0 := getD_lt ouu (j + b.length - 1)
    have hT1 := getD_lt ouu (j + b.length)
    have hT2 := getD_lt ouu (j + b.length - 2)
    generalize hw : 4294967296 ^ (b.length - 2) = w at *
    generalize wv ((u.drop j).take (b.length - 2)) = dlow at *
    generalize wv (vs.take (b.length - 2)) = vlow at *
    generalize hv1e : vs.getD (b.length - 1) 0 = v1 at *
    generalize hv2e : vs.getD (b.length - 2) 0 = v2 at *
    generalize hT0e : u.getD (j + b.length - 1) 0 = T0 at *
    generalize hT1e : u.getD (j + b.length) 0 = T1 at *
    generalize hT2e : u.getD (j + b.length - 2) 0 = T2 at *
    have hVl : (v1 * 4294967296 + v2) * w ≤ V := by rw [dv]; exact Nat.le_add_right _ _
    have hVr : V < (v1 * 4294967296 + v2 + 1) * w := by rw [dv, Nat.add_mul _ 1, Nat.one_mul]; exact Nat.add_lt_add_left dl1 _
    have hDl : ((T1 * 4294967296 + T0) * 4294967296 + T2) * w ≤ D := by rw [du]; exact Nat.le_add_right _ _
    have hDr : D < ((T1 * 4294967296 + T0) * 4294967296 + T2 + 1) * w := by rw [du, Nat.add_mul _ 1, Nat.one_mul]; exact Nat.add_lt_add_left dl2 _
    have hw0 : 0 < w := by rw [← hw]; exact pow_pos _
    have hT1v : T1 ≤ v1 := by
      have e1 : (T1 * (4294967296 * 4294967296)) * w ≤ D := Nat.le_trans (Nat.mul_le_mul_right _ (by omega)) hDl
      have e2 : 4294967296 * V < (4294967296 * ((v1 + 1) * 4294967296)) * w := by
        have : 4294967296 * V < 4294967296 * ((v1 * 4294967296 + v2 + 1) * w) := Nat.mul_lt_mul_of_pos_left hVr (by decide)
        rw [← Nat.mul_assoc] at this
        exact Nat.lt_of_lt_of_le this (Nat.mul_le_mul_right _ (by omega))
      have e3 := Nat.lt_of_mul_lt_mul_right (a := w) (show (T1 * (4294967296 * 4294967296)) * w < (4294967296 * ((v1 + 1) * 4294967296)) * w by omega)
      omega
    obtain ⟨top, htope⟩ : ∃ top, T1 * 4294967296 + T0 = top := ⟨_, rfl⟩
    rw [htope] at hDl hDr
    clear du
    have htopl : top < 18446744073709551616 := by omega
    have hg0 : top / v1 ≤ 4294967297 := by
      have : top / v1 < 4294967298 := by
        rw [Nat.div_lt_iff_lt_mul (by omega)]; omega
      omega
    refine AWP_skip ?_
    show AWP _ _ _ _ _ _
    refine AWP_seq ?_
    refine AWP_block ?_
    refine a_keep [(8, dL n), (9, .val (.one (.own 57 1 0 (a.length + 1)))), (10, V1 (dW vs)), (11, dI b.length), (12, .val (.one (.own 70 1 0 (a.length + 1 - b.length)))), (13, dI j)] [(57, some (.arr 1 (u.map cW))), (70, some (.arr 1 (q.map cW)))] ⟨rfl, rfl, rfl, rfl, rfl, by show dI _ = dI _; congr; omega, trivial⟩ ⟨rfl, rfl, trivial⟩ ?_
    refine a_draw tok mixed (A := [[], [], [], [], [1, 2], [0, 1, 2, 3], [0, 1, 2, 3, 4], [0, 1, 2, 3, 4, 5], [], [], [], [], [9, 10], [9, 10, 11], [8, 9, 10, 11, 12], [8, 9, 10, 11, 12, 13], [0, 1, 2, 3, 4, 5, 6, 8, 9, 10, 11, 12, 13, 14], []]) (an := [{}, {}, {}, {}, {}, {}, {}, {}, {}, {}, {}, {}, {}, {}, {}, {}, {}, {}]) rfl (by kernel_rfl) rfl fun K hK => ?_
    refine s_move rfl rfl rfl ?_
    refine s_move rfl rfl rfl ?_
    refine s_move rfl rfl rfl ?_
    refine s_bin rfl (e_add (c := ((j + b.length : Nat) : Int)) (by omega) (by omega)) rfl ?_
    refine s_indexAddr rfl (x_o (i := j + b.length) (j := j + b.length) rfl rfl rfl rfl rfl (by omega) (by omega)) rfl ?_
    refine s_load rfl ((l_wD rfl rfl rfl rfl (by omega)).trans (by rw [hT1e])) rfl ?_
    refine s_conv rfl (e_conv rfl rfl rfl (wrapL (by omega))) rfl ?_
    refine s_bin rfl (e_shlL (s := 32) (z := T1 * 4294967296) (by omega) (by show T1 * 4294967296 % _ = _; omega)) rfl ?_
    refine s_move rfl rfl rfl ?_
    refine s_move rfl rfl rfl ?_
    refine s_move rfl rfl rfl ?_
    refine s_bin rfl (e_add (c := ((j + b.length : Nat) : Int)) (by omega) (by omega)) rfl ?_
    refine s_bin rfl (e_sub (c := ((j + b.length - 1 : Nat) : Int)) (by omega) (by omega)) rfl ?_
    refine s_indexAddr rfl (x_o (i := j + b.length - 1) (j := j + b.length - 1) rfl rfl rfl rfl rfl (by omega) (by omega)) rfl ?_
    refine s_load rfl ((l_wD rfl rfl rfl rfl (by omega)).trans (by rw [hT0e])) rfl ?_
    refine s_conv rfl (e_conv rfl rfl rfl (wrapL (by omega))) rfl ?_
    refine s_bin rfl (e_orL (s := 32) (z := top) (by show T1 * 4294967296 % 4294967296 = 0; omega) (by omega) htopl htope) rfl ?_
    refine s_assign rfl rfl rfl ?_
    refine s_end (hK _ ?_); clear hK K
    refine a_draw tok mixed (A := [[], [], [], [], [2], [1, 2, 3], [1, 2, 3, 4], [1, 2, 3, 4, 5], [], [], [], [], [10], [9, 10, 11], [9, 10, 11, 12], [9, 10, 11, 12, 13], [], []]) (an := [{}, {}, {}, {}, {}, {}, {}, {}, {}, {}, {}, {}, {}, {}, {}, {}, {}, {}]) rfl (by kernel_rfl) rfl fun K hK => ?_
    refine s_move rfl rfl rfl ?_
    refine s_move rfl rfl rfl ?_
    refine s_move rfl rfl rfl ?_
    refine s_bin rfl (e_sub (c := ((b.length - 1 : Nat) : Int)) (by omega) (by omega)) rfl ?_
    refine s_indexAddr rfl (x_wD (i := b.length - 1) rfl rfl rfl rfl rfl (by omega)) rfl ?_
    refine s_load rfl rfl rfl ?_
    refine s_conv rfl (e_conv (m := (v1 : Int)) rfl rfl rfl (by rw [hv1e]; exact wrapL (by omega))) rfl ?_
    refine s_bin rfl (e_quoL (by omega) htopl rfl) rfl ?_
    refine s_move rfl rfl rfl ?_
    refine s_move rfl rfl rfl ?_
    refine s_move rfl rfl rfl ?_
    refine s_bin rfl (e_sub (c := ((b.length - 1 : Nat) : Int)) (by omega) (by omega)) rfl ?_
    refine s_indexAddr rfl (x_wD (i := b.length - 1) rfl rfl rfl rfl rfl (by omega)) rfl ?_
    refine s_load rfl rfl rfl ?_
    refine s_conv rfl (e_conv (m := (v1 : Int)) rfl rfl rfl (by rw [hv1e]; exact wrapL (by omega))) rfl ?_
    refine s_bin rfl (e_remL (by omega) rfl) rfl ?_
    refine s_assign rfl rfl rfl ?_
    refine s_assign rfl rfl rfl ?_
    refine s_end (hK _ ?_); clear hK K
    refine a_join (α := Nat) (fun g => mk 273 [(8, dL n), (9, .val (.one (.own 57 1 0 (a.length + 1)))), (10, V1 (dW vs)), (11, dI b.length), (12, .val (.one (.own 70 1 0 (a.length + 1 - b.length)))), (13, dI j), (15, dL g)] [(57, some (.arr 1 (u.map cW))), (70, some (.arr 1 (q.map cW)))] []) (fun g => g < 4294967296 ∧ D < (g + 1) * V ∧ g * V ≤ D + V) ?_ ?_
    · refine AWP_block (a_loop (α := Nat × Nat) (fun p => mk 273 [(8, dL n), (9, .val (.one (.own 57 1 0 (a.length + 1)))), (10, V1 (dW vs)), (11, dI b.length), (12, .val (.one (.own 70 1 0 (a.length + 1 - b.length)))), (13, dI j), (15, dL p.1), (16, dL p.2)] [(57, some (.arr 1 (u.map cW))), (70, some (.arr 1 (q.map cW)))] []) (fun p => p.1 * v1 + p.2 = top ∧ p.2 < 4294967296 ∧ p.1 ≤ 4294967297 ∧ D < (p.1 + 1) * V) (fun p => p.1) (top / v1, top % v1) ?_ ⟨?_, ?_, hg0, ?_⟩ ?_)
      · exact Wk.mk' ⟨rfl, rfl, rfl, rfl, rfl, rfl, rfl, rfl, trivial⟩ ⟨rfl, rfl, trivial⟩
      · rw [Nat.mul_comm]; exact Nat.div_add_mod top v1
      · exact Nat.lt_trans (Nat.mod_lt _ (by omega)) hv1l
      · exact guess_start hVl hDr (by omega) hT2
      rintro ⟨g, r⟩ ⟨i1, i2, i3, i4⟩
      simp only at i1 i2 i3 i4
      show AWP _ _ _ _ _ (mk 273 [(8, dL n), (9, .val (.one (.own 57 1 0 (a.length + 1)))), (10, V1 (dW vs)), (11, dI b.length), (12, .val (.one (.own 70 1 0 (a.length + 1 - b.length)))), (13, dI j), (15, dL g), (16, dL r)] [(57, some (.arr 1 (u.map cW))), (70, some (.arr 1 (q.map cW)))] [])
      refine AWP_seq ?_
      refine a_join (α := Bool) (fun c => mk 273 [(8, dL n), (9, .val (.one (.own 57 1 0 (a.length + 1)))), (10, V1 (dW vs)), (11, dI b.length), (12, .val (.one (.own 70 1 0 (a.length + 1 - b.length)))), (13, dI j), (15, dL g), (16, dL r), (136, dB c)] [(57, some (.arr 1 (u.map cW))), (70, some (.arr 1 (q.map cW)))] []) (fun c => (c = true → 4294967296 ≤ g ∨ r * 4294967296 + T2 < g * v2) ∧ (c = false → g < 4294967296 ∧ g * v2 ≤ r * 4294967296 + T2)) ?_ ?_
      · refine a_draw1 tok mixed (A := [[], [], [0], [0, 1], [0, 1], [0, 1], [0, 1], [0, 1, 5], [0, 1, 4, 5, 6], [0, 1, 4, 5, 6, 7], [0, 1, 4, 5, 6, 7, 8], [0, 1], [0, 1], [0, 1], [0, 1], [0, 1], [0, 1], [0, 1, 14, 15], [0, 1, 14, 15, 16], [0, 1, 13, 14, 15, 16, 17], [0, 1, 13, 14, 15, 16, 17, 18], [0, 1, 11, 13, 14, 15, 16, 17, 18, 19], [0, 1, 3, 4, 5, 6, 7, 8, 9, 11, 12, 13, 14, 15, 16, 17, 18, 19, 20], [0, 1, 3, 4, 5, 6, 7, 8, 9, 10, 11, 12, 13, 14, 15, 16, 17, 18, 19, 20, 21]]) (an := [{}, {}, {}, {}, {}, {}, {}, {}, {}, {}, {}, {}, {}, {}, {}, {}, {}, {}, {}, {}, {}, {}, {}, {}]) rfl (by kernel_rfl) rfl fun K hK => ?_
        refine s_move rfl rfl rfl ?_
        refine s_bin rfl rfl rfl ?_
        refine s_move rfl rfl rfl ?_
        refine s_split (fun hb => ?_) (fun hb => ?_)
        · have hb : 4294967296 ≤ g := by simp at hb; omega
          refine s_skip rfl ?_
          refine s_skip rfl ?_
          refine s_skip rfl ?_
          refine s_skip rfl ?_
          refine s_skip rfl ?_
          refine s_skip rfl ?_
          refine s_skip rfl ?_
          refine s_skip rfl ?_
          refine s_skip rfl ?_
          refine s_skip rfl ?_
          refine s_skip rfl ?_
          refine s_skip rfl ?_
          refine s_skip rfl ?_
          refine s_skip rfl ?_
          refine s_skip rfl ?_
          refine s_skip rfl ?_
          refine s_skip rfl ?_
          refine s_skip rfl ?_
          refine s_skip rfl ?_
          refine s_skip rfl ?_
          refine s_pick rfl rfl rfl ?_
          refine s_end (hK _ ?_); clear hK K
          exact ⟨true, ⟨fun _ => Or.inl hb, fun h => by cases h⟩, Wk.mk' ⟨rfl, rfl, rfl, rfl, rfl, rfl, rfl, rfl, rfl, trivial⟩ ⟨rfl, rfl, trivial⟩⟩
        · have hb : g < 4294967296 := by simp at hb; omega
          have hgv : g * v2 < 18446744073709551616 := by
            have : g * v2 ≤ 4294967295 * 4294967295 := Nat.mul_le_mul (by omega) (by omega)
            omega
          refine s_move rfl rfl rfl ?_
          refine s_move rfl rfl rfl ?_
          refine s_move rfl rfl rfl ?_
          refine s_bin rfl (e_sub (c := ((b.length - 2 : Nat) : Int)) (by omega) (by omega)) rfl ?_
          refine s_indexAddr rfl (x_wD (i := b.length - 2) rfl rfl rfl rfl rfl (by omega)) rfl ?_
          refine s_load rfl rfl rfl ?_
          refine s_conv rfl (e_conv (m := (v2 : Int)) rfl rfl rfl (by rw [hv2e]; exact wrapL (by omega))) rfl ?_
          refine s_bin rfl (e_mulL rfl hgv) rfl ?_
          refine s_move rfl rfl rfl ?_
          refine s_bin rfl (e_shlL (s := 32) (z := r * 4294967296) (by omega) (by show r * 4294967296 % _ = _; omega)) rfl ?_
          refine s_move rfl rfl rfl ?_
          refine s_move rfl rfl rfl ?_
          refine s_move rfl rfl rfl ?_
          refine s_bin rfl (e_add (c := ((j + b.length : Nat) : Int)) (by omega) (by omega)) rfl ?_
          refine s_bin rfl (e_sub (c := ((j + b.length - 2 : Nat) : Int)) (by omega) (by omega)) rfl ?_
          refine s_indexAddr rfl (x_o (i := j + b.length - 2) (j := j + b.length - 2) rfl rfl rfl rfl rfl (by omega) (by omega)) rfl ?_
          refine s_load rfl ((l_wD rfl rfl rfl rfl (by omega)).trans (by rw [hT2e])) rfl ?_
          refine s_conv rfl (e_conv rfl rfl rfl (wrapL (by omega))) rfl ?_
          refine s_bin rfl (e_orL (s := 32) (by show r * 4294967296 % 4294967296 = 0; omega) (by omega) (by omega) rfl) rfl ?_
          refine s_bin rfl rfl rfl ?_
          refine s_pick rfl rfl rfl ?_
          refine s_end (hK _ ?_); clear hK K
          refine ⟨_, ⟨?_, ?_⟩, Wk.mk' ⟨rfl, rfl, rfl, rfl, rfl, rfl, rfl, rfl, rfl, trivial⟩ ⟨rfl, rfl, trivial⟩⟩
          · intro h; simp only [gt_iff_lt, decide_eq_true_eq] at h; right; omega
          · intro h; simp only [gt_iff_lt, decide_eq_false_iff_not] at h; exact ⟨hb, by omega⟩
      rintro c ⟨hct, hcf⟩
      refine a_cond rfl (fun hc => ?_) (fun hc => ?_)
      · have hlow : D < g * V := by
          rcases hct hc with h | h
          · exact Nat.lt_of_lt_of_le hDW (Nat.mul_le_mul_right _ h)
          · exact guess_over hVl hDr i1 h
        have hgp : 0 < g := by
          rcases Nat.eq_zero_or_pos g with h | h
          · subst h; rw [Nat.zero_mul] at hlow; omega
          · exact h
        obtain ⟨g', rfl⟩ : ∃ g', g = g' + 1 := ⟨g - 1, by omega⟩
        have i1' : g' * v1 + (r + v1) = top := by rw [← i1, Nat.add_mul]; omega
        refine AWP_skip ?_
        show AWP _ _ _ _ _ _
        refine AWP_block ?_
        refine AWP_reg_seq tok fun K hK => ?_
        refine s_move rfl rfl rfl ?_
        refine s_bin rfl (e_subL (x := g' + 1) (y := 1) (z := g') rfl (by omega)) rfl ?_
        refine s_assign rfl rfl rfl ?_
        refine s_end (hK _ ?_); clear hK K
        refine AWP_reg_seq tok fun K hK => ?_
        refine s_move rfl rfl rfl ?_
        refine s_move rfl rfl rfl ?_
        refine s_move rfl rfl rfl ?_
        refine s_bin rfl (e_sub (c := ((b.length - 1 : Nat) : Int)) (by omega) (by omega)) rfl ?_
        refine s_indexAddr rfl (x_wD (i := b.length - 1) rfl rfl rfl rfl rfl (by omega)) rfl ?_
        refine s_load rfl rfl rfl ?_
        refine s_conv rfl (e_conv (m := (v1 : Int)) rfl rfl rfl (by rw [hv1e]; exact wrapL (by omega))) rfl ?_
        refine s_bin rfl (e_addL rfl (by omega)) rfl ?_
        refine s_assign rfl rfl rfl ?_
        refine s_end (hK _ ?_); clear hK K
        refine AWP_reg_seq tok fun K hK => ?_
        refine s_move rfl rfl rfl ?_
        refine s_bin rfl rfl rfl ?_
        refine s_end (hK _ ?_); clear hK K
        refine a_cond rfl (fun hr => ?_) (fun hr => ?_)
        · have hr : 4294967296 ≤ r + v1 := by simp at hr; omega
          have hgl : g' < 4294967296 := by
            refine Nat.lt_of_mul_lt_mul_right (a := v1) ?_
            omega
          refine AWP_exit ?_
          exact ⟨g', ⟨hgl, hlow, guess_fits hVl hVr hDl i1' hgl hv1 hv2l (Or.inr hr)⟩, Wk.mk' ⟨rfl, rfl, rfl, rfl, rfl, rfl, rfl, trivial⟩ ⟨rfl, rfl, trivial⟩⟩
        · have hr : r + v1 < 4294967296 := by simp at hr; omega
          refine AWP_skip ?_
          exact ⟨(g', r + v1), by simp only; omega, ⟨i1', hr, by simp only; omega, hlow⟩, Wk.mk' ⟨rfl, rfl, rfl, rfl, rfl, rfl, rfl, rfl, trivial⟩ ⟨rfl, rfl, trivial⟩⟩
      · obtain ⟨h2, h3⟩ := hcf hc
        refine AWP_exit ?_
        exact ⟨g, ⟨h2, i4, guess_fits hVl hVr hDl i1 h2 hv1 hv2l (Or.inl h3)⟩, Wk.mk' ⟨rfl, rfl, rfl, rfl, rfl, rfl, rfl, trivial⟩ ⟨rfl, rfl, trivial⟩⟩
    rintro g ⟨hgl, hgD, hgV⟩
    subst hD
    have hUs' : wv u < 4294967296 ^ (j + (vs.length + 1)) := by rw [lv]; exact hUs
    have hjk : j + vs.length < u.length := by rw [lv]; omega
    refine AWP_reg_seq tok fun K hK => ?_
    refine s_assign rfl rfl rfl ?_
    refine s_end (hK _ ?_); clear hK K
    refine AWP_reg_seq tok fun K hK => ?_
    refine s_assign rfl rfl rfl ?_
    refine s_end (hK _ ?_); clear hK K
    refine AWP_seq ?_
    refine AWP_reg_seq tok fun K hK => ?_
    refine s_move rfl rfl rfl ?_
    refine s_blt rfl (len_w rfl rfl lv) rfl ?_
    refine s_move rfl rfl rfl ?_
    refine s_end (hK _ ?_); clear hK K
    refine AWP_block (a_loop (α := List Nat × Nat × Nat × Nat) (fun p => mk 273 [(8, dL n), (9, .val (.one (.own 57 1 0 (a.length + 1)))), (10, V1 (dW vs)), (11, dI b.length), (12, .val (.one (.own 70 1 0 (a.length + 1 - b.length)))), (13, dI j), (15, dL g), (17, dL p.2.1), (18, dU p.2.2.1), (149, V1 (dW vs)), (150, dI b.length), (151, dI p.2.2.2)] [(57, some (.arr 1 (p.1.map cW))), (70, some (.arr 1 (q.map cW)))] []) (fun p => p.2.2.2 ≤ b.length ∧ WMS u vs g j p.2.2.2 p.1 p.2.1 p.2.2.1) (fun p => b.length - p.2.2.2) (u, 0, 0, 0) ?_ ⟨Nat.zero_le _, WMS.start ouu vs g j⟩ ?_)
    · exact Wk.mk' ⟨rfl, rfl, rfl, rfl, rfl, rfl, rfl, rfl, rfl, rfl, rfl, rfl, trivial⟩ ⟨rfl, rfl, trivial⟩
    rintro ⟨u1, c, bo, i⟩ ⟨hi, hms⟩
    simp only at hi hms
    show AWP _ _ _ _ _ (mk 273 [(8, dL n), (9, .val (.one (.own 57 1 0 (a.length + 1)))), (10, V1 (dW vs)), (11, dI b.length), (12, .val (.one (.own 70 1 0 (a.length + 1 - b.length)))), (13, dI j), (15, dL g), (17, dL c), (18, dU bo), (149, V1 (dW vs)), (150, dI b.length), (151, dI i)] [(57, some (.arr 1 (u1.map cW))), (70, some (.arr 1 (q.map cW)))] [])
    have hl1 := hms.len
    refine AWP_reg_seq tok fun K hK => ?_
    refine s_bin rfl rfl rfl ?_
    refine s_end (hK _ ?_); clear hK K
    refine AWP_seq ?_
    refine a_cond rfl (fun hh => ?_) (fun hh => ?_)
    · have hh : i < b.length := by simp at hh; omega
      have hB := hms.bound ov hgl
      have hpb : g * vs.getD i 0 < 18446744073709551616 := by omega
      refine AWP_skip ?_
      show AWP _ _ _ _ _ _
      refine AWP_seq ?_
      refine AWP_block ?_
      refine AWP_reg_seq tok fun K hK => ?_
      refine s_move rfl rfl rfl ?_
      refine s_indexAddr rfl (x_wD (i := i) rfl rfl rfl rfl rfl (by omega)) rfl ?_
      refine s_load rfl rfl rfl ?_
      refine s_assign rfl rfl rfl ?_
      refine s_assign rfl rfl rfl ?_
      refine s_end (hK _ ?_); clear hK K
      refine AWP_reg_seq tok fun K hK => ?_
      refine s_move rfl rfl rfl ?_
      refine s_move rfl rfl rfl ?_
      refine s_conv rfl (e_conv rfl rfl rfl (wrapL (ov.lt64 i))) rfl ?_
      refine s_bin rfl (e_mulL rfl hpb) rfl ?_
      refine s_move rfl rfl rfl ?_
      refine s_bin rfl (e_addL rfl hB) rfl ?_
      refine s_assign rfl rfl rfl ?_
      refine s_end (hK _ ?_); clear hK K
      refine AWP_reg_seq tok fun K hK => ?_
      refine s_move rfl rfl rfl ?_
      refine s_bin rfl (e_shrL (s := 32) (by omega) rfl) rfl ?_
      refine s_assign rfl rfl rfl ?_
      refine s_end (hK _ ?_); clear hK K
      refine AWP_reg tok fun K hK => ?_
      refine s_move rfl rfl rfl ?_
      refine s_move rfl rfl rfl ?_
      refine s_move rfl rfl rfl ?_
      refine s_bin rfl (e_add (c := ((j + i : Nat) : Int)) (by omega) (by omega)) rfl ?_
      refine s_move rfl rfl rfl ?_
      refine s_move rfl rfl rfl ?_
      refine s_move rfl rfl rfl ?_
      refine s_bin rfl (e_add (c := ((j + i : Nat) : Int)) (by omega) (by omega)) rfl ?_
      refine s_indexAddr rfl (x_o (i := j + i) (j := j + i) rfl rfl rfl rfl rfl (by omega) (by omega)) rfl ?_
      refine s_load rfl (l_wD rfl rfl rfl rfl (by omega)) rfl ?_
      refine s_move rfl rfl rfl ?_
      refine s_conv rfl (e_conv rfl rfl rfl (wrapU _)) rfl ?_
      refine s_move rfl rfl rfl ?_
      refine s_call rfl rfl (sub32_c (u1.getD (j + i) 0) ((g * vs.getD i 0 + c) % 4294967296) bo (getD_lt hms.ok _) (Nat.mod_lt _ (by decide)) hms.bl) rfl rfl rfl rfl ?_
      refine s_move rfl rfl rfl ?_
      refine s_extract rfl rfl rfl ?_
      refine s_extract rfl rfl rfl ?_
      refine s_indexAddr rfl (x_o (i := j + i) (j := j + i) rfl rfl rfl rfl rfl (by omega) (by omega)) rfl ?_
      refine s_store rfl (st_w rfl rfl rfl (by omega)) rfl rfl rfl ?_
      refine s_assign rfl rfl rfl ?_
      refine s_end (hK _ ?_); clear hK K
      show AWP _ _ _ _ _ _
      refine AWP_reg tok fun K hK => ?_
      refine s_bin rfl (e_add (c := ((i + 1 : Nat) : Int)) (by omega) (by omega)) rfl ?_
      refine s_move rfl rfl rfl ?_
      refine s_end (hK _ ?_); clear hK K
      exact ⟨(_, _, _, i + 1), by simp only; omega, ⟨hh, hms.step ov hgl (by omega)⟩, Wk.mk' ⟨rfl, rfl, rfl, rfl, rfl, rfl, rfl, rfl, rfl, rfl, rfl, rfl, trivial⟩ ⟨rfl, rfl, trivial⟩⟩
    have hh : i = vs.length := by simp at hh; omega
    subst hh
    have hcl := hms.cl
    have hfin := hms.last ov hgl hjk
    rw [lv] at hfin
    refine AWP_exit ?_
    show AWP _ _ _ _ _ _
    refine AWP_reg_seq tok fun K hK => ?_
    refine s_move rfl rfl rfl ?_
    refine s_move rfl rfl rfl ?_
    refine s_move rfl rfl rfl ?_
    refine s_bin rfl (e_add (c := ((j + b.length : Nat) : Int)) (by omega) (by omega)) rfl ?_
    refine s_move rfl rfl rfl ?_
    refine s_move rfl rfl rfl ?_
    refine s_move rfl rfl rfl ?_
    refine s_bin rfl (e_add (c := ((j + b.length : Nat) : Int)) (by omega) (by omega)) rfl ?_
    refine s_indexAddr rfl (x_o (i := j + b.length) (j := j + b.length) rfl rfl rfl rfl rfl (by omega) (by omega)) rfl ?_
    refine s_load rfl (l_wD rfl rfl rfl rfl (by omega)) rfl ?_
    refine s_move rfl rfl rfl ?_
    refine s_conv rfl (e_conv (m := (c : Int)) rfl rfl rfl (by rw [wrapU, Nat.mod_eq_of_lt hcl])) rfl ?_
    refine s_move rfl rfl rfl ?_
    refine s_call rfl rfl (sub32_c (u1.getD (j + b.length) 0) c bo (getD_lt hms.ok _) hcl hms.bl) rfl rfl rfl rfl ?_
    refine s_move rfl rfl rfl ?_
    refine s_extract rfl rfl rfl ?_
    refine s_extract rfl rfl rfl ?_
    refine s_indexAddr rfl (x_o (i := j + b.length) (j := j + b.length) rfl rfl rfl rfl rfl (by omega) (by omega)) rfl ?_
    refine s_store rfl (st_w rfl rfl rfl (by omega)) rfl rfl rfl ?_
    refine s_assign rfl rfl rfl ?_
    refine s_end (hK _ ?_); clear hK K
    refine a_keep [(8, dL n), (9, .val (.one (.own 57 1 0 (a.length + 1)))), (10, V1 (dW vs)), (11, dI b.length), (12, .val (.one (.own 70 1 0 (a.length + 1 - b.length)))), (13, dI j), (15, dL g), (18, dU (if u1.getD (j + b.length) 0 < c + bo then 1 else 0))] [(57, some (.arr 1 ((u1.set (j + b.length) ((u1.getD (j + b.length) 0 + 8589934592 - c - bo) % 4294967296)).map cW))), (70, some (.arr 1 (q.map cW)))] ⟨rfl, rfl, rfl, rfl, rfl, rfl, rfl, rfl, trivial⟩ ⟨rfl, rfl, trivial⟩ ?_
    clear hms hl1 hi hcl
    generalize u1.set (j + b.length) ((u1.getD (j + b.length) 0 + 8589934592 - c - bo) % 4294967296) = u2 at *
    generalize (if u1.getD (j + b.length) 0 < c + bo then 1 else 0) = b2 at *
    have hb2 := hfin.bl
    have hl2 := hfin.len
    rw [← lv] at hfin
    refine a_join (α := List Nat × Nat) (fun p => mk 273 [(8, dL n), (9, .val (.one (.own 57 1 0 (a.length + 1)))), (10, V1 (dW vs)), (11, dI b.length), (12, .val (.one (.own 70 1 0 (a.length + 1 - b.length)))), (13, dI j), (15, dL p.2)] [(57, some (.arr 1 (p.1.map cW))), (70, some (.arr 1 (q.map cW)))] []) (fun p => wOK p.1 ∧ p.1.length = u.length ∧ p.2 < 4294967296 ∧ wv (p.1.drop j) = wv (u.drop j) % V ∧ wv p.1 + p.2 * V * 4294967296 ^ j = wv u) ?_ ?_
    · refine AWP_reg_seq tok fun K hK => ?_
      refine s_move rfl rfl rfl ?_
      refine s_bin rfl rfl rfl ?_
      refine s_end (hK _ ?_); clear hK K
      refine a_cond rfl (fun hz => ?_) (fun hz => ?_)
      · have hz : b2 = 1 := by
          rcases Nat.lt_or_ge b2 1 with h | h
          · have : b2 = 0 := by omega
            subst this; simp at hz
          · omega
        subst hz
        have hgp := hfin.pos ouu hUs'
        obtain ⟨g', rfl⟩ : ∃ g', g = g' + 1 := ⟨g - 1, by omega⟩
        refine AWP_reg_seq tok fun K hK => ?_
        refine s_move rfl rfl rfl ?_
        refine s_bin rfl (e_subL (x := g' + 1) (y := 1) (z := g') rfl (by omega)) rfl ?_
        refine s_assign rfl rfl rfl ?_
        refine s_end (hK _ ?_); clear hK K
        refine AWP_reg_seq tok fun K hK => ?_
        refine s_assign rfl rfl rfl ?_
        refine s_end (hK _ ?_); clear hK K
        refine AWP_seq ?_
        refine AWP_reg_seq tok fun K hK => ?_
        refine s_move rfl rfl rfl ?_
        refine s_blt rfl (len_w rfl rfl lv) rfl ?_
        refine s_move rfl rfl rfl ?_
        refine s_end (hK _ ?_); clear hK K
        refine AWP_block (a_loop (α := List Nat × Nat × Nat) (fun p => mk 273 [(8, dL n), (9, .val (.one (.own 57 1 0 (a.length + 1)))), (10, V1 (dW vs)), (11, dI b.length), (12, .val (.one (.own 70 1 0 (a.length + 1 - b.length)))), (13, dI j), (15, dL g'), (22, dU p.2.1), (205, V1 (dW vs)), (206, dI b.length), (207, dI p.2.2)] [(57, some (.arr 1 (p.1.map cW))), (70, some (.arr 1 (q.map cW)))] []) (fun p => p.2.2 ≤ b.length ∧ WAB u2 vs j p.2.2 p.1 p.2.1) (fun p => b.length - p.2.2) (u2, 0, 0) ?_ ⟨Nat.zero_le _, WAB.start hfin.ok vs j⟩ ?_)
        · exact Wk.mk' ⟨rfl, rfl, rfl, rfl, rfl, rfl, rfl, rfl, rfl, rfl, rfl, trivial⟩ ⟨rfl, rfl, trivial⟩
        rintro ⟨u3, c3, i⟩ ⟨hi, hab⟩
        simp only at hi hab
        show AWP _ _ _ _ _ (mk 273 [(8, dL n), (9, .val (.one (.own 57 1 0 (a.length + 1)))), (10, V1 (dW vs)), (11, dI b.length), (12, .val (.one (.own 70 1 0 (a.length + 1 - b.length)))), (13, dI j), (15, dL g'), (22, dU c3), (205, V1 (dW vs)), (206, dI b.length), (207, dI i)] [(57, some (.arr 1 (u3.map cW))), (70, some (.arr 1 (q.map cW)))] [])
        have hl3 := hab.len
        refine AWP_reg_seq tok fun K hK => ?_
        refine s_bin rfl rfl rfl ?_
        refine s_end (hK _ ?_); clear hK K
        refine AWP_seq ?_
        refine a_cond rfl (fun hh => ?_) (fun hh => ?_)
        · have hh : i < b.length := by simp at hh; omega
          refine AWP_skip ?_
          show AWP _ _ _ _ _ _
          refine AWP_seq ?_
          refine AWP_block ?_
          refine AWP_reg_seq tok fun K hK => ?_
          refine s_move rfl rfl rfl ?_
          refine s_indexAddr rfl (x_wD (i := i) rfl rfl rfl rfl rfl (by omega)) rfl ?_
          refine s_load rfl rfl rfl ?_
          refine s_assign rfl rfl rfl ?_
          refine s_assign rfl rfl rfl ?_
          refine s_end (hK _ ?_); clear hK K
          refine AWP_reg tok fun K hK => ?_
          refine s_move rfl rfl rfl ?_
          refine s_move rfl rfl rfl ?_
          refine s_move rfl rfl rfl ?_
          refine s_bin rfl (e_add (c := ((j + i : Nat) : Int)) (by omega) (by omega)) rfl ?_
          refine s_move rfl rfl rfl ?_
          refine s_move rfl rfl rfl ?_
          refine s_move rfl rfl rfl ?_
          refine s_bin rfl (e_add (c := ((j + i : Nat) : Int)) (by omega) (by omega)) rfl ?_
          refine s_indexAddr rfl (x_o (i := j + i) (j := j + i) rfl rfl rfl rfl rfl (by omega) (by omega)) rfl ?_
          refine s_load rfl (l_wD rfl rfl rfl rfl (by omega)) rfl ?_
          refine s_move rfl rfl rfl ?_
          refine s_move rfl rfl rfl ?_
          refine s_call rfl rfl (add32_c (u3.getD (j + i) 0) (vs.getD i 0) c3 (getD_lt hab.ok _) (getD_lt ov _) hab.cl) rfl rfl rfl rfl ?_
          refine s_move rfl rfl rfl ?_
          refine s_extract rfl rfl rfl ?_
          refine s_extract rfl rfl rfl ?_
          refine s_indexAddr rfl (x_o (i := j + i) (j := j + i) rfl rfl rfl rfl rfl (by omega) (by omega)) rfl ?_
          refine s_store rfl (st_w rfl rfl rfl (by omega)) rfl rfl rfl ?_
          refine s_assign rfl rfl rfl ?_
          refine s_end (hK _ ?_); clear hK K
          show AWP _ _ _ _ _ _
          refine AWP_reg tok fun K hK => ?_
          refine s_bin rfl (e_add (c := ((i + 1 : Nat) : Int)) (by omega) (by omega)) rfl ?_
          refine s_move rfl rfl rfl ?_
          refine s_end (hK _ ?_); clear hK K
          exact ⟨(_, _, i + 1), by simp only; omega, ⟨hh, hab.step ov (by omega)⟩, Wk.mk' ⟨rfl, rfl, rfl, rfl, rfl, rfl, rfl, rfl, rfl, rfl, rfl, trivial⟩ ⟨rfl, rfl, trivial⟩⟩
        · have hh : i = vs.length := by simp at hh; omega
          subst hh
          have habf := hab.last ov (by omega)
          obtain ⟨f1, f2, f3⟩ := WAB.fits ouu hfin habf hUs' (by rw [vv]; exact hgV) (by rw [vv]; exact hV0)
          rw [vv] at f2 f3
          rw [lv] at habf f2 f3
          refine AWP_exit ?_
          show AWP _ _ _ _ _ _
          refine AWP_reg tok fun K hK => ?_
          refine s_move rfl rfl rfl ?_
          refine s_move rfl rfl rfl ?_
          refine s_move rfl rfl rfl ?_
          refine s_bin rfl (e_add (c := ((j + b.length : Nat) : Int)) (by omega) (by omega)) rfl ?_
          refine s_indexAddr rfl (x_o (i := j + b.length) (j := j + b.length) rfl rfl rfl rfl rfl (by omega) (by omega)) rfl ?_
          refine s_load rfl (l_wD rfl rfl rfl rfl (by omega)) rfl ?_
          refine s_move rfl rfl rfl ?_
          refine s_bin rfl (e_addU rfl) rfl ?_
          refine s_indexAddr rfl (x_o (i := j + b.length) (j := j + b.length) rfl rfl rfl rfl rfl (by omega) (by omega)) rfl ?_
          refine s_store rfl (st_w rfl rfl rfl (by omega)) rfl rfl rfl ?_
          refine s_end (hK _ ?_); clear hK K
          exact ⟨(_, g'), ⟨habf.ok, by rw [habf.len]; exact hl2, by simp only; omega, f2, f3⟩, Wk.mk' ⟨rfl, rfl, rfl, rfl, rfl, rfl, rfl, trivial⟩ ⟨rfl, rfl, trivial⟩⟩
      · have hz : b2 = 0 := by
          rcases Nat.lt_or_ge b2 1 with h | h
          · omega
          · have : b2 = 1 := by omega
            subst this; simp at hz
        subst hz
        obtain ⟨f1, f2, f3⟩ := hfin.fits (by rw [vv]; exact hgD)
        rw [vv] at f2 f3
        refine AWP_skip ?_
        exact ⟨(u2, g), ⟨hfin.ok, hl2, hgl, f2, f3⟩, Wk.mk' ⟨rfl, rfl, rfl, rfl, rfl, rfl, rfl, trivial⟩ ⟨rfl, rfl, trivial⟩⟩
    rintro ⟨u4, g4⟩ ⟨o4, l4, gl4, r4, v4⟩
    simp only at o4 l4 gl4 r4 v4
    show AWP _ _ _ _ _ (mk 273 [(8, dL n), (9, .val (.one (.own 57 1 0 (a.length + 1)))), (10, V1 (dW vs)), (11, dI b.length), (12, .val (.one (.own 70 1 0 (a.length + 1 - b.length)))), (13, dI j), (15, dL g4)] [(57, some (.arr 1 (u4.map cW))), (70, some (.arr 1 (q.map cW)))] [])
    refine AWP_reg tok fun K hK => ?_
    refine s_move rfl rfl rfl ?_
    refine s_move rfl rfl rfl ?_
    refine s_move rfl rfl rfl ?_
    refine s_conv rfl (e_conv (m := (g4 : Int)) rfl rfl rfl (by rw [wrapU, Nat.mod_eq_of_lt gl4])) rfl ?_
    refine s_indexAddr rfl (x_o (i := j) (j := j) rfl rfl rfl rfl rfl (by omega) (by omega)) rfl ?_
    refine s_store rfl (st_w rfl rfl rfl hj) rfl rfl rfl ?_
    refine s_end (hK _ ?_); clear hK K
    show AWP _ _ _ _ _ _
    refine AWP_reg tok fun K hK => ?_
    refine s_move rfl rfl rfl ?_
    refine s_bin rfl (e_sub rfl (by omega)) rfl ?_
    refine s_assign rfl rfl rfl ?_
    refine s_end (hK _ ?_); clear hK K
    exact ⟨(u4, q.set j g4, j), by simp only; omega, ⟨by simp only; omega, hdv.step o4 l4 hj r4 v4 gl4 hV0⟩, Wk.mk' ⟨rfl, rfl, rfl, rfl, rfl, rfl, trivial⟩ ⟨rfl, rfl, trivial⟩⟩
  have hm0 : m = 0 := by simp at hg; omega
  subst hm0
  obtain ⟨fu, fq⟩ := hdv.fin hV0
  have hquo : U / V = wv a / wv b := by rw [hU, hV]; exact Nat.mul_div_mul_right _ _ (Nat.two_pow_pos n)
  have hrem : wv u / 2 ^ n = wv a % wv b := by
    rw [fu, hU, hV, Nat.mul_mod_mul_right, Nat.mul_div_cancel _ (Nat.two_pow_pos n)]
  have hq : q = wfix (a.length + 1 - b.length) (wv a / wv b) := by
    refine wfix_uniq hdv.okq (by omega) ?_
    rw [fq, hquo]
  refine AWP_exit ?_
  show AWP _ _ _ _ _ _
  refine AWP_reg_seq tok fun K hK => ?_
  refine s_move rfl rfl rfl ?_
  refine s_makeSlice (sz := _) (es := _) (f := _) (v := _) rfl (mk_w (l := b.length) (c := b.length) rfl rfl rfl rfl rfl (Nat.le_of_ble_eq_true rfl) rfl rfl (by omega) (by omega)) rfl rfl ?_
  refine s_assign rfl rfl rfl ?_
  refine s_end (hK _ ?_); clear hK K
  refine AWP_seq ?_
  refine AWP_reg_seq tok fun K hK => ?_
  refine s_move rfl rfl rfl ?_
  refine s_blt rfl rfl rfl ?_
  refine s_move rfl rfl rfl ?_
  refine s_end (hK _ ?_); clear hK K
  refine AWP_block (a_loop (α := List Nat × Nat) (fun p => mk 273 [(8, dL n), (9, .val (.one (.own 57 1 0 (a.length + 1)))), (12, .val (.one (.own 70 1 0 (a.length + 1 - b.length)))), (25, .val (.one (.own 245 1 0 b.length))), (247, dI b.length), (248, dI p.2)] [(57, some (.arr 1 (u.map cW))), (70, some (.arr 1 (q.map cW))), (245, some (.arr 1 (p.1.map cW)))] []) (fun p => p.2 ≤ b.length ∧ p.1.length = b.length ∧ ∀ k, k < p.2 → p.1.getD k 0 = (wfix b.length (wv a % wv b)).getD k 0) (fun p => b.length - p.2) (List.replicate b.length 0, 0) ?_ ⟨Nat.zero_le _, by simp, fun k hk => absurd hk (Nat.not_lt_zero _)⟩ ?_)
  · exact Wk.mk' ⟨rfl, rfl, rfl, rfl, rfl, rfl, trivial⟩ ⟨rfl, rfl, rfl, trivial⟩
  rintro ⟨rs, i⟩ ⟨hi, hrl, hrd⟩
  simp only at hi hrl hrd
  show AWP _ _ _ _ _ (mk 273 [(8, dL n), (9, .val (.one (.own 57 1 0 (a.length + 1)))), (12, .val (.one (.own 70 1 0 (a.length + 1 - b.length)))), (25, .val (.one (.own 245 1 0 b.length))), (247, dI b.length), (248, dI i)] [(57, some (.arr 1 (u.map cW))), (70, some (.arr 1 (q.map cW))), (245, some (.arr 1 (rs.map cW)))] [])
  refine AWP_reg_seq tok fun K hK => ?_
  refine s_bin rfl rfl rfl ?_
  refine s_end (hK _ ?_); clear hK K
  refine AWP_seq ?_
  refine a_cond rfl (fun hh => ?_) (fun hh => ?_)
  · have hh : i < b.length := by simp at hh; omega
    have hx1 := getD_lt hdv.oku (i + 1)
    have hx0 := getD_lt hdv.oku i
    have hdig := shr_digit hn31 i hdv.oku
    rw [hrem, ← wfix_getD (k := b.length) _ hh] at hdig
    refine AWP_skip ?_
    show AWP _ _ _ _ _ _
    refine AWP_seq ?_
    refine AWP_block ?_
    refine AWP_reg_seq tok fun K hK => ?_
    refine s_move rfl rfl rfl ?_
    refine s_assign rfl rfl rfl ?_
    refine s_end (hK _ ?_); clear hK K
    refine a_draw1 tok mixed (A := [[], [], [], [], [], [3], [2, 3, 4], [2, 3, 4, 5], [2, 3, 4, 5, 6], [], [], [], [9, 10], [9, 10, 11], [2, 3, 4, 5, 6, 7, 9, 10, 11, 12], [], [2, 3, 4, 5, 6, 7, 8, 9, 10, 11, 12, 13], [2, 3, 4, 5, 6, 7, 8, 9, 10, 11, 12, 13, 14, 15], [], []]) (an := [{}, {}, {}, {}, {}, {}, {}, {}, {}, {}, {}, {}, {}, {}, {}, {}, {}, {}, {}, {}]) rfl (by kernel_rfl) rfl fun K hK => ?_
    refine s_move rfl rfl rfl ?_
    refine s_move rfl rfl rfl ?_
    refine s_move rfl rfl rfl ?_
    refine s_move rfl rfl rfl ?_
    refine s_bin rfl (e_add (c := ((i + 1 : Nat) : Int)) (by omega) (by omega)) rfl ?_
    refine s_indexAddr rfl (x_o (i := i + 1) (j := i + 1) rfl rfl rfl rfl rfl (by omega) (by omega)) rfl ?_
    refine s_load rfl (l_wD rfl rfl rfl rfl (by omega)) rfl ?_
    refine s_conv rfl (e_conv rfl rfl rfl (wrapL (hdv.oku.lt64 _))) rfl ?_
    refine s_bin rfl (e_shlL (s := 32) (z := u.getD (i + 1) 0 * 4294967296) (by omega) (by show u.getD (i + 1) 0 * 4294967296 % _ = _; omega)) rfl ?_
    refine s_move rfl rfl rfl ?_
    refine s_move rfl rfl rfl ?_
    refine s_indexAddr rfl (x_o (i := i) (j := i) rfl rfl rfl rfl rfl (by omega) (by omega)) rfl ?_
    refine s_load rfl (l_wD rfl rfl rfl rfl (by omega)) rfl ?_
    refine s_conv rfl (e_conv rfl rfl rfl (wrapL (hdv.oku.lt64 _))) rfl ?_
    refine s_bin rfl (e_orL (s := 32) (by show u.getD (i + 1) 0 * 4294967296 % 4294967296 = 0; omega) (by omega) (by omega) rfl) rfl ?_
    refine s_move rfl rfl rfl ?_
    refine s_bin rfl (e_shrL (s := n) (by omega) rfl) rfl ?_
    refine s_conv rfl (e_conv rfl rfl rfl (wrapU _)) rfl ?_
    refine s_indexAddr rfl (x_o (i := i) (j := i) rfl rfl rfl rfl rfl (by omega) (by omega)) rfl ?_
    refine s_store rfl (st_w rfl rfl rfl (by omega)) rfl rfl rfl ?_
    refine s_end (hK _ ?_); clear hK K
    show AWP _ _ _ _ _ _
    refine AWP_reg tok fun K hK => ?_
    refine s_bin rfl (e_add (c := ((i + 1 : Nat) : Int)) (by omega) (by omega)) rfl ?_
    refine s_move rfl rfl rfl ?_
    refine s_end (hK _ ?_); clear hK K
    refine ⟨(_, i + 1), by simp only; omega, ⟨hh, ?_, fun k hk => ?_⟩, Wk.mk' ⟨rfl, rfl, rfl, rfl, rfl, rfl, trivial⟩ ⟨rfl, rfl, rfl, trivial⟩⟩
    · simpa using hrl
    · simp only at hk ⊢
      rw [hdig, wgetD_set _ _ _ _ (by omega)]
      by_cases hki : k = i
      · rw [if_pos hki, hki]
      · rw [if_neg hki]; exact hrd k (by omega)
  · have hh : i = b.length := by simp at hh; omega
    subst hh
    have hrs : rs = wfix b.length (wv a % wv b) := list_getD (by rw [hrl, wfix_length]) (fun k hk => hrd k (by omega))
    refine AWP_exit ?_
    show AWP _ _ _ _ _ _
    refine AWP_reg_seq tok fun K hK => ?_
    refine s_move rfl rfl rfl ?_
    refine s_move rfl rfl rfl ?_
    refine s_assign rfl rfl rfl ?_
    refine s_assign rfl rfl rfl ?_
    refine s_end (hK _ ?_); clear hK K
    refine a_fz [4, 5] [70, 245] 70 [(4, V1 (dW q)), (5, .val (.one (.own 245 1 0 b.length)))] [(245, some (.arr 1 (rs.map cW)))] rfl ?_ ?_ ?_
    · exact ⟨frz_w rfl (by omega), rfl, trivial⟩
    · exact ⟨rfl, trivial⟩
    refine a_fz [4, 5] [245] 245 [(4, V1 (dW q)), (5, V1 (dW rs))] [] rfl ?_ trivial ?_
    · exact ⟨rfl, frz_w rfl (by omega), trivial⟩
    refine AWP_ret ?_
    repeat (with_reducible refine tq_ret ?_)
    exact post_ret (fin_mk (by rfl) (by rfl) (by unfold divQ divR; rw [if_neg (by omega), if_neg (by omega), if_neg (by omega), if_neg (by omega), ← hq, ← hrs]; rfl))
end Go.Proofs.YtcafppnjemgkiaaGreat

/- Integers: made of numbers, negated, added, multiplied, divided; the greatest common divisor. No condition. -/
namespace Go.Proofs.YtcafppnjemgkiaaGreat
attribute [local irreducible] lexA

theorem trimZ_c (ws : List Nat) (hw : wOK ws) (hl : ws.length ≤ 1073741824) : Con Tryz.prog 93 [V1 (dW ws)] { v := V1 (dW (wof (wv ws))) } := by
  rw [← trimW_eq hw]; exact trim_c ws hl
theorem made_z (neg : Bool) (ws : List Nat) (z : Int) (hw : wOK ws) (hl : ws.length ≤ 1073741824) (h : zv neg ws = z) : Con Tryz.prog 89 [dB neg, V1 (dW ws)] { v := AG (ZC z) } :=
  h ▸ made_c neg ws hw hl
theorem wl_len {ws : List Nat} (h : wOK ws) : (wof (wv ws)).length ≤ ws.length := by rw [← trimW_eq h]; exact trimW_le ws
theorem zl_len (z : Int) : (wof z.natAbs).length = zl z := rfl
theorem zv_nonneg {n : Bool} {ws : List Nat} : zv n ws = if n then -(wv ws : Int) else (wv ws : Int) := rfl
theorem plus_lt {a b : List Nat} (ha : wOK a) (hb : wOK b) : wv a + wv b < 4294967296 ^ (max a.length b.length + 1) := by
  have h1 := wv_lt ha
  have h2 := wv_lt hb
  have h3 : 4294967296 ^ a.length ≤ 4294967296 ^ max a.length b.length := Nat.pow_le_pow_right (by decide) (by omega)
  have h4 : 4294967296 ^ b.length ≤ 4294967296 ^ max a.length b.length := Nat.pow_le_pow_right (by decide) (by omega)
  rw [Nat.pow_succ]; omega
theorem wof_lt (n : Nat) : n < 4294967296 ^ (wof n).length := by have := wv_lt (wof_ok n); rwa [wv_wof] at this

theorem iOf_c (n : Int) (hn : I64 n) : Con Tryz.prog 64 [dI n] { v := AG (ZC n) } := by
  unfold I64 at hn
  refine con_intro (fn := Tryz.f64) tok Tryz.func64 (by kernel_rfl) rfl ?_
  intro w0 X
  rw [entry_mkE _ _ [(0, dI n)] rfl rfl]
  refine AWP_reg_seq tok fun K hK => ?_
  refine s_alloc rfl rfl rfl rfl rfl rfl ?_
  refine s_end (hK _ ?_); clear hK K
  refine AWP_reg_seq tok fun K hK => ?_
  refine s_move rfl rfl rfl ?_
  refine s_conv rfl (e_conv (m := ((n % 18446744073709551616).toNat : Int)) rfl rfl rfl (by rw [w_u64]; omega)) rfl ?_
  refine s_assign rfl rfl rfl ?_
  refine s_end (hK _ ?_); clear hK K
  refine a_join (α := Unit) (fun _ => mk 19 [(0, dI n), (2, .ptr 2 0), (3, dL n.natAbs)] [(2, some (.box [.d (.lit (.bool false)), .nil]))] []) (fun _ => True) ?_ ?_
  · refine AWP_reg_seq tok fun K hK => ?_
    refine s_move rfl rfl rfl ?_
    refine s_bin rfl rfl rfl ?_
    refine s_end (hK _ ?_); clear hK K
    refine a_cond rfl (fun hc => ?_) (fun hc => ?_)
    · have hc : n < 0 := by simpa using hc
      refine AWP_reg tok fun K hK => ?_
      refine s_move rfl rfl rfl ?_
      refine s_un rfl rfl rfl ?_
      refine s_assign rfl rfl rfl ?_
      refine s_end (hK _ ?_); clear hK K
      refine ⟨(), trivial, Wk.mk' ⟨rfl, rfl, ?_, trivial⟩ ⟨rfl, trivial⟩⟩
      show V1 (.lit (.int .u64 (IntKind.u64.wrap (0 - ((n % 18446744073709551616).toNat : Int))))) = _
      rw [w_u64]
      have : (0 - ((n % 18446744073709551616).toNat : Int)) % 18446744073709551616 = (n.natAbs : Int) := by omega
      rw [this]
    · have hc : ¬ n < 0 := by simpa using hc
      refine AWP_skip ?_
      refine ⟨(), trivial, Wk.mk' ⟨rfl, rfl, ?_, trivial⟩ ⟨rfl, trivial⟩⟩
      show dL _ = dL _
      have : (n % 18446744073709551616).toNat = n.natAbs := by omega
      rw [this]
  rintro - -
  have hd : n.natAbs / 2 ^ 32 % 4294967296 = n.natAbs / 4294967296 := by show n.natAbs / 4294967296 % 4294967296 = _; omega
  refine AWP_regW_seq fun K hK => ?_
  refine w_step tok rfl ?_
  refine s_move rfl rfl rfl ?_
  refine s_end ?_
  refine w_step tok rfl ?_
  refine s_bin rfl rfl rfl ?_
  refine s_end ?_
  refine w_step tok rfl ?_
  refine s_move rfl rfl rfl ?_
  refine s_end ?_
  refine w_step tok rfl ?_
  refine s_conv rfl (e_conv rfl rfl rfl (wrapU _)) rfl ?_
  refine s_end ?_
  refine w_step tok rfl ?_
  refine s_move rfl rfl rfl ?_
  refine s_end ?_
  refine w_step tok rfl ?_
  refine s_bin rfl (e_shrL (s := 32) (by omega) rfl) rfl ?_
  refine s_end ?_
  refine w_step tok rfl ?_
  refine s_conv rfl (e_conv rfl rfl rfl (wrapU _)) rfl ?_
  refine s_end ?_
  refine w_step tok rfl ?_
  refine s_buildSlice rfl rfl rfl rfl ?_
  refine s_end ?_
  refine w_wk (Wk.fzNew rfl rfl rfl) ?_
  refine w_step tok rfl ?_
  refine s_call rfl rfl (made_z (decide (n < 0)) [n.natAbs % 4294967296, n.natAbs / 2 ^ 32 % 4294967296] n (fun x hx => by simp at hx; omega) (by simp) (by unfold zv; simp only [wv, hd]; by_cases h : n < 0 <;> simp [h] <;> omega)) rfl rfl rfl rfl ?_
  refine s_end ?_
  refine w_step tok rfl ?_
  refine s_store rfl rfl rfl rfl rfl ?_
  refine s_end ?_
  refine w_end rfl (hK _ ?_); clear hK K
  refine AWP_ret ?_
  repeat (with_reducible refine tq_ret ?_)
  exact post_ret (fin_mk (by rfl) (by rfl) (by rfl))

theorem iSign_c (n : Bool) (w : List Nat) (hw : wOK w) (hl : w.length ≤ 1073741824) : Con Tryz.prog 85 [AG (IC n w)] { v := dI (zv n w).sign } := by
  have h0 : wof (wv w) = [] ↔ zv n w = 0 := by rw [wof_nil]; unfold zv; split <;> omega
  have hs : (zv n w < 0 → n = true) ∧ (n = true → zv n w ≤ 0) := by unfold zv; cases n <;> simp <;> omega
  refine con_intro (fn := Tryz.f85) tok Tryz.func85 (by kernel_rfl) rfl ?_
  intro w0 X
  rw [entry_mkE _ _ [(0, AG (IC n w))] rfl rfl]
  refine AWP_reg_seq tok fun K hK => ?_
  refine s_box rfl rfl rfl rfl rfl rfl ?_
  refine s_assign rfl rfl rfl ?_
  refine s_end (hK _ ?_); clear hK K
  refine AWP_seq ?_
  refine AWP_block ?_
  refine AWP_reg_seq tok fun K hK => ?_
  refine s_fieldAddr rfl rfl rfl ?_
  refine s_load rfl rfl rfl ?_
  refine s_call rfl rfl (trimZ_c w hw hl) rfl rfl rfl rfl ?_
  refine s_blt rfl (len_w rfl rfl rfl) rfl ?_
  refine s_bin rfl rfl rfl ?_
  refine s_assign rfl rfl rfl ?_
  refine s_end (hK _ ?_); clear hK K
  refine a_cond rfl (fun hc => ?_) (fun hc => ?_)
  · have hc : wof (wv w) = [] := by simpa using hc
    refine AWP_reg_seq tok fun K hK => ?_
    refine s_assign rfl rfl rfl ?_
    refine s_end (hK _ ?_); clear hK K
    refine AWP_ret ?_
    repeat (with_reducible refine tq_ret ?_)
    exact post_ret (fin_mk (by rfl) (by rfl) (by rw [h0.1 hc]; rfl))
  · have hc : ¬ zv n w = 0 := by rw [← h0]; simpa using hc
    refine AWP_reg_seq tok fun K hK => ?_
    refine s_fieldAddr rfl rfl rfl ?_
    refine s_load rfl rfl rfl ?_
    refine s_assign rfl rfl rfl ?_
    refine s_end (hK _ ?_); clear hK K
    refine a_cond rfl (fun hd => ?_) (fun hd => ?_)
    · have hd : n = true := hd
      have : zv n w < 0 := by have := hs.2 hd; omega
      refine AWP_reg_seq tok fun K hK => ?_
      refine s_assign rfl rfl rfl ?_
      refine s_end (hK _ ?_); clear hK K
      refine AWP_ret ?_
      repeat (with_reducible refine tq_ret ?_)
      exact post_ret (fin_mk (by rfl) (by rfl) (by rw [Int.sign_eq_neg_one_of_neg this]; rfl))
    · have hd : n = false := hd
      have : 0 < zv n w := by
        have := hs.1
        rcases Int.lt_trichotomy (zv n w) 0 with h | h | h
        · rw [this h] at hd; cases hd
        · exact absurd h hc
        · exact h
      refine AWP_skip ?_
      show AWP _ _ _ _ _ _
      refine AWP_reg_seq tok fun K hK => ?_
      refine s_assign rfl rfl rfl ?_
      refine s_end (hK _ ?_); clear hK K
      refine AWP_ret ?_
      repeat (with_reducible refine tq_ret ?_)
      exact post_ret (fin_mk (by rfl) (by rfl) (by rw [Int.sign_eq_one_of_pos this]; rfl))

theorem iAbs_c (n : Bool) (w : List Nat) (hw : wOK w) (hl : w.length ≤ 1073741824) : Con Tryz.prog 105 [AG (IC n w)] { v := AG (ZC ((zv n w).natAbs : Int)) } := by
  have hlen := wl_len hw
  refine con_intro (fn := Tryz.f105) tok Tryz.func105 (by kernel_rfl) rfl ?_
  intro w0 X
  rw [entry_mkE _ _ [(0, AG (IC n w))] rfl rfl]
  refine AWP_reg_seq tok fun K hK => ?_
  refine s_box rfl rfl rfl rfl rfl rfl ?_
  refine s_alloc rfl rfl rfl rfl rfl rfl ?_
  refine s_end (hK _ ?_); clear hK K
  refine AWP_reg_seq tok fun K hK => ?_
  refine s_fieldAddr rfl rfl rfl ?_
  refine s_load rfl rfl rfl ?_
  refine s_call rfl rfl (trimZ_c w hw hl) rfl rfl rfl rfl ?_
  refine s_call rfl rfl (clone_c _ (by omega)) rfl rfl rfl rfl ?_
  refine s_call rfl rfl (made_z false _ ((zv n w).natAbs : Int) (wof_ok _) (by omega) (by rw [zv_abs]; unfold zv; simp [wv_wof])) rfl rfl rfl rfl ?_
  refine s_store rfl rfl rfl rfl rfl ?_
  refine s_end (hK _ ?_); clear hK K
  refine AWP_ret ?_
  repeat (with_reducible refine tq_ret ?_)
  exact post_ret (fin_mk (by rfl) (by rfl) (by rfl))

theorem iNeg_c (n : Bool) (w : List Nat) (hw : wOK w) (hl : w.length ≤ 1073741824) : Con Tryz.prog 86 [AG (IC n w)] { v := AG (ZC (-(zv n w))) } := by
  have hlen := wl_len hw
  refine con_intro (fn := Tryz.f86) tok Tryz.func86 (by kernel_rfl) rfl ?_
  intro w0 X
  rw [entry_mkE _ _ [(0, AG (IC n w))] rfl rfl]
  refine AWP_reg_seq tok fun K hK => ?_
  refine s_box rfl rfl rfl rfl rfl rfl ?_
  refine s_alloc rfl rfl rfl rfl rfl rfl ?_
  refine s_end (hK _ ?_); clear hK K
  refine a_draw tok mixed (A := [[], [], [0], [], [], [3], [3, 4], [0, 1, 3, 4, 5], []]) (an := [{}, {}, {}, {}, {}, {}, {}, {}, {}]) rfl (by kernel_rfl) rfl fun K hK => ?_
  refine s_fieldAddr rfl rfl rfl ?_
  refine s_load rfl rfl rfl ?_
  refine s_un rfl rfl rfl ?_
  refine s_fieldAddr rfl rfl rfl ?_
  refine s_load rfl rfl rfl ?_
  refine s_call rfl rfl (trimZ_c w hw hl) rfl rfl rfl rfl ?_
  refine s_call rfl rfl (clone_c _ (by omega)) rfl rfl rfl rfl ?_
  refine s_call rfl rfl (made_z (!n) _ (-(zv n w)) (wof_ok _) (by omega) (by unfold zv; cases n <;> simp [wv_wof])) rfl rfl rfl rfl ?_
  refine s_store rfl rfl rfl rfl rfl ?_
  refine s_end (hK _ ?_); clear hK K
  refine AWP_ret ?_
  repeat (with_reducible refine tq_ret ?_)
  exact post_ret (fin_mk (by rfl) (by rfl) (by rfl))

theorem iAdd_c (na nb : Bool) (wa wb : List Nat) (ha : wOK wa) (hb : wOK wb) (la : wa.length ≤ 536870912) (lb : wb.length ≤ 536870912) :
    Con Tryz.prog 69 [AG (IC na wa), AG (IC nb wb)] { v := AG (ZC (zv na wa + zv nb wb)) } := by
  have hla := wl_len ha
  have hlb := wl_len hb
  have hpl : wv (wof (wv wa)) + wv (wof (wv wb)) < 4294967296 ^ (max (wof (wv wa)).length (wof (wv wb)).length + 1) := plus_lt (wof_ok _) (wof_ok _)
  have hpa := wof_lt (wv wa)
  have hpb := wof_lt (wv wb)
  rw [wv_wof, wv_wof] at hpl
  refine con_intro (fn := Tryz.f69) tok Tryz.func69 (by kernel_rfl) rfl ?_
  intro w0 X
  rw [entry_mkE _ _ [(0, AG (IC na wa)), (1, AG (IC nb wb))] rfl rfl]
  refine AWP_reg_seq tok fun K hK => ?_
  refine s_box rfl rfl rfl rfl rfl rfl ?_
  refine s_box rfl rfl rfl rfl rfl rfl ?_
  refine s_alloc rfl rfl rfl rfl rfl rfl ?_
  refine s_end (hK _ ?_); clear hK K
  refine a_draw tok mixed (A := [[], [], [0], [], [], [0, 1, 3], [3, 4], []]) (an := [{}, {}, {}, { c := [9] }, { c := [9] }, {}, {}, {}]) rfl (by kernel_rfl) rfl fun K hK => ?_
  refine s_fieldAddr rfl rfl rfl ?_
  refine s_load rfl rfl rfl ?_
  refine s_call rfl rfl (trimZ_c wa ha (by omega)) rfl rfl rfl rfl ?_
  refine s_fieldAddr rfl rfl rfl ?_
  refine s_load rfl rfl rfl ?_
  refine s_call rfl rfl (trimZ_c wb hb (by omega)) rfl rfl rfl rfl ?_
  refine s_assign rfl rfl rfl ?_
  refine s_assign rfl rfl rfl ?_
  refine s_end (hK _ ?_); clear hK K
  refine AWP_seq ?_
  refine AWP_block ?_
  refine AWP_reg_seq tok fun K hK => ?_
  refine s_fieldAddr rfl rfl rfl ?_
  refine s_load rfl rfl rfl ?_
  refine s_fieldAddr rfl rfl rfl ?_
  refine s_load rfl rfl rfl ?_
  refine s_bin rfl rfl rfl ?_
  refine s_assign rfl rfl rfl ?_
  refine s_end (hK _ ?_); clear hK K
  refine a_cond rfl (fun hc => ?_) (fun hc => ?_)
  · have hc : na = nb := by simpa using hc
    subst hc
    refine a_draw tok mixed (A := [[], [], [], [], [], [0, 2, 3], []]) (an := [{}, {}, {}, {}, {}, {}, {}]) rfl (by kernel_rfl) rfl fun K hK => ?_
    refine s_fieldAddr rfl rfl rfl ?_
    refine s_load rfl rfl rfl ?_
    refine s_move rfl rfl rfl ?_
    refine s_move rfl rfl rfl ?_
    refine s_call rfl rfl (plus_c _ _ (wof_ok _) (wof_ok _) (by omega) (by omega)) rfl rfl rfl rfl ?_
    refine s_call rfl rfl (made_z na _ (zv na wa + zv na wb) (wfix_ok _ _) (by rw [wfix_length]; omega) (by unfold zv; rw [wv_wfix, wv_wof, wv_wof, Nat.mod_eq_of_lt hpl]; cases na <;> simp <;> omega)) rfl rfl rfl rfl ?_
    refine s_store rfl rfl rfl rfl rfl ?_
    refine s_end (hK _ ?_); clear hK K
    refine AWP_ret ?_
    repeat (with_reducible refine tq_ret ?_)
    exact post_ret (fin_mk (by rfl) (by rfl) (by rfl))
  · have hc : na = !nb := by cases na <;> cases nb <;> simp_all
    subst hc
    refine AWP_reg_seq tok fun K hK => ?_
    refine s_move rfl rfl rfl ?_
    refine s_move rfl rfl rfl ?_
    refine s_call rfl rfl (compare_c _ _ (wof_ok _) (wof_ok _) (wof_top _) (wof_top _) (by omega) (by omega)) rfl rfl rfl rfl ?_
    refine s_bin rfl rfl rfl ?_
    refine s_assign rfl rfl rfl ?_
    refine s_end (hK _ ?_); clear hK K
    refine a_cond rfl (fun hd => ?_) (fun hd => ?_)
    · have hd : wv wb ≤ wv wa := by
        simp only [ge_iff_le, decide_eq_true_eq] at hd
        rw [wv_wof, wv_wof] at hd
        have h2 := mt (ncmp_lt (m := wv wa) (n := wv wb)).2 (by omega)
        omega
      have hle : (wof (wv wb)).length ≤ (wof (wv wa)).length := wl_mono hd
      refine a_draw tok mixed (A := [[], [], [], [], [], [0, 2, 3], []]) (an := [{}, {}, {}, {}, {}, {}, {}]) rfl (by kernel_rfl) rfl fun K hK => ?_
      refine s_fieldAddr rfl rfl rfl ?_
      refine s_load rfl rfl rfl ?_
      refine s_move rfl rfl rfl ?_
      refine s_move rfl rfl rfl ?_
      refine s_call rfl rfl (minus_c _ _ (wof_ok _) (wof_ok _) (by omega) hle (by rw [wv_wof, wv_wof]; exact hd)) rfl rfl rfl rfl ?_
      refine s_call rfl rfl (made_z (!nb) _ (zv (!nb) wa + zv nb wb) (wfix_ok _ _) (by rw [wfix_length]; omega) (by unfold zv; rw [wv_wfix, wv_wof, wv_wof, Nat.mod_eq_of_lt (by omega)]; cases nb <;> simp <;> omega)) rfl rfl rfl rfl ?_
      refine s_store rfl rfl rfl rfl rfl ?_
      refine s_end (hK _ ?_); clear hK K
      refine AWP_ret ?_
      repeat (with_reducible refine tq_ret ?_)
      exact post_ret (fin_mk (by rfl) (by rfl) (by rfl))
    · have hd : wv wa ≤ wv wb := by
        simp only [ge_iff_le, decide_eq_false_iff_not] at hd
        rw [wv_wof, wv_wof] at hd
        have := ncmp_lt.1 (show ncmp (wv wa) (wv wb) < 0 by omega)
        omega
      have hle : (wof (wv wa)).length ≤ (wof (wv wb)).length := wl_mono hd
      refine AWP_skip ?_
      show AWP _ _ _ _ _ _
      refine a_draw tok mixed (A := [[], [], [], [], [], [0, 2, 3], []]) (an := [{}, {}, {}, {}, {}, {}, {}]) rfl (by kernel_rfl) rfl fun K hK => ?_
      refine s_fieldAddr rfl rfl rfl ?_
      refine s_load rfl rfl rfl ?_
      refine s_move rfl rfl rfl ?_
      refine s_move rfl rfl rfl ?_
      refine s_call rfl rfl (minus_c _ _ (wof_ok _) (wof_ok _) (by omega) hle (by rw [wv_wof, wv_wof]; exact hd)) rfl rfl rfl rfl ?_
      refine s_call rfl rfl (made_z nb _ (zv (!nb) wa + zv nb wb) (wfix_ok _ _) (by rw [wfix_length]; omega) (by unfold zv; rw [wv_wfix, wv_wof, wv_wof, Nat.mod_eq_of_lt (by omega)]; cases nb <;> simp <;> omega)) rfl rfl rfl rfl ?_
      refine s_store rfl rfl rfl rfl rfl ?_
      refine s_end (hK _ ?_); clear hK K
      refine AWP_ret ?_
      repeat (with_reducible refine tq_ret ?_)
      exact post_ret (fin_mk (by rfl) (by rfl) (by rfl))

theorem iSub_c (na nb : Bool) (wa wb : List Nat) (ha : wOK wa) (hb : wOK wb) (la : wa.length ≤ 536870912) (lb : wb.length ≤ 536870912) :
    Con Tryz.prog 101 [AG (IC na wa), AG (IC nb wb)] { v := AG (ZC (zv na wa - zv nb wb)) } := by
  have hz : zv na wa - zv nb wb = zv na wa + zv (!nb) wb := by unfold zv; cases na <;> cases nb <;> simp <;> omega
  rw [hz]
  refine con_intro (fn := Tryz.f101) tok Tryz.func101 (by kernel_rfl) rfl ?_
  intro w0 X
  rw [entry_mkE _ _ [(0, AG (IC na wa)), (1, AG (IC nb wb))] rfl rfl]
  refine AWP_reg_seq tok fun K hK => ?_
  refine s_box rfl rfl rfl rfl rfl rfl ?_
  refine s_box rfl rfl rfl rfl rfl rfl ?_
  refine s_alloc rfl rfl rfl rfl rfl rfl ?_
  refine s_end (hK _ ?_); clear hK K
  refine AWP_reg_seq tok fun K hK => ?_
  refine s_load rfl rfl rfl ?_
  refine s_fieldAddr rfl rfl rfl ?_
  refine s_load rfl rfl rfl ?_
  refine s_un rfl rfl rfl ?_
  refine s_fieldAddr rfl rfl rfl ?_
  refine s_load rfl rfl rfl ?_
  refine s_build rfl rfl rfl ?_
  refine s_call rfl rfl (iAdd_c na (!nb) wa wb ha hb la lb) rfl rfl rfl rfl ?_
  refine s_store rfl rfl rfl rfl rfl ?_
  refine s_end (hK _ ?_); clear hK K
  refine AWP_ret ?_
  repeat (with_reducible refine tq_ret ?_)
  exact post_ret (fin_mk (by rfl) (by rfl) (by rfl))

theorem iMul_c (na nb : Bool) (wa wb : List Nat) (ha : wOK wa) (hb : wOK wb) (la : wa.length ≤ 536870912) (lb : wb.length ≤ 536870912) :
    Con Tryz.prog 70 [AG (IC na wa), AG (IC nb wb)] { v := AG (ZC (zv na wa * zv nb wb)) } := by
  have hla := wl_len ha
  have hlb := wl_len hb
  have hm : wv wa * wv wb < 4294967296 ^ ((wof (wv wa)).length + (wof (wv wb)).length) := by
    have := wl_mul (wv wa) (wv wb)
    exact Nat.lt_of_lt_of_le (lt_wl _) (Nat.pow_le_pow_right (by decide) this)
  refine con_intro (fn := Tryz.f70) tok Tryz.func70 (by kernel_rfl) rfl ?_
  intro w0 X
  rw [entry_mkE _ _ [(0, AG (IC na wa)), (1, AG (IC nb wb))] rfl rfl]
  refine AWP_reg_seq tok fun K hK => ?_
  refine s_box rfl rfl rfl rfl rfl rfl ?_
  refine s_box rfl rfl rfl rfl rfl rfl ?_
  refine s_alloc rfl rfl rfl rfl rfl rfl ?_
  refine s_end (hK _ ?_); clear hK K
  refine a_draw tok mixed (A := [[], [], [], [], [0, 2], [], [], [5], [], [], [5, 6, 8], [5, 6, 8, 9], [0, 1, 2, 3, 5, 6, 7, 8, 9, 10], []]) (an := [{}, {}, {}, {}, {}, {}, {}, {}, { c := [12] }, { c := [12] }, {}, {}, {}, {}]) rfl (by kernel_rfl) rfl fun K hK => ?_
  refine s_fieldAddr rfl rfl rfl ?_
  refine s_load rfl rfl rfl ?_
  refine s_fieldAddr rfl rfl rfl ?_
  refine s_load rfl rfl rfl ?_
  refine s_bin rfl rfl rfl ?_
  refine s_fieldAddr rfl rfl rfl ?_
  refine s_load rfl rfl rfl ?_
  refine s_call rfl rfl (trimZ_c wa ha (by omega)) rfl rfl rfl rfl ?_
  refine s_fieldAddr rfl rfl rfl ?_
  refine s_load rfl rfl rfl ?_
  refine s_call rfl rfl (trimZ_c wb hb (by omega)) rfl rfl rfl rfl ?_
  refine s_call rfl rfl (times_c _ _ (wof_ok _) (wof_ok _) (by omega) (by omega)) rfl rfl rfl rfl ?_
  refine s_call rfl rfl (made_z (!(na == nb)) _ (zv na wa * zv nb wb) (wfix_ok _ _) (by rw [wfix_length]; omega) (by unfold zv; rw [wv_wfix, wv_wof, wv_wof, Nat.mod_eq_of_lt hm]; cases na <;> cases nb <;> simp [Int.natCast_mul, Int.mul_neg, Int.neg_mul])) rfl rfl rfl rfl ?_
  refine s_store rfl rfl rfl rfl rfl ?_
  refine s_end (hK _ ?_); clear hK K
  refine AWP_ret ?_
  repeat (with_reducible refine tq_ret ?_)
  exact post_ret (fin_mk (by rfl) (by rfl) (by rfl))
end Go.Proofs.YtcafppnjemgkiaaGreat

/- Integers: division with remainder, the greatest common divisor. No condition. -/
namespace Go.Proofs.YtcafppnjemgkiaaGreat
attribute [local irreducible] lexA

theorem ediv_of {x y q r : Int} (hy : y ≠ 0) (h : r + y * q = x) (h0 : 0 ≤ r) (h1 : r < y.natAbs) : x / y = q ∧ x % y = r := by
  rcases Int.lt_trichotomy y 0 with hn | hn | hn
  · have hp : 0 < -y := by omega
    have := (Int.ediv_emod_unique hp (a := x) (q := -q) (r := r)).2 ⟨by rw [← h]; grind, h0, by omega⟩
    rw [Int.ediv_neg, Int.emod_neg] at this
    exact ⟨by omega, this.2⟩
  · exact absurd hn hy
  · exact (Int.ediv_emod_unique hn).2 ⟨h, h0, by omega⟩
theorem iAdd_z (na nb : Bool) (wa wb : List Nat) (z : Int) (ha : wOK wa) (hb : wOK wb) (la : wa.length ≤ 536870912) (lb : wb.length ≤ 536870912) (h : zv na wa + zv nb wb = z) :
    Con Tryz.prog 69 [AG (IC na wa), AG (IC nb wb)] { v := AG (ZC z) } := h ▸ iAdd_c na nb wa wb ha hb la lb
/-- Quotient and remainder as Go divides, and one step further. -/
def tq (na nb : Bool) (A B : Nat) : Int := if na = nb then ((A / B : Nat) : Int) else -((A / B : Nat) : Int)
def tr (na : Bool) (A B : Nat) : Int := if na then -((A % B : Nat) : Int) else ((A % B : Nat) : Int)
def sg (n : Bool) (A : Nat) : Int := if n then -(A : Int) else A
theorem tqr (na nb : Bool) {A B : Nat} (hB : 0 < B) : tr na A B + sg nb B * tq na nb A B = sg na A ∧ (tr na A B).natAbs < B := by
  have h := Nat.div_add_mod A B
  have h2 := Nat.mod_lt A hB
  have hz : (B : Int) * ((A / B : Nat) : Int) + ((A % B : Nat) : Int) = A := by rw [← Int.natCast_mul, ← Int.natCast_add, h]
  unfold tr tq sg
  generalize ((A / B : Nat) : Int) = q at *
  refine ⟨?_, ?_⟩
  · cases na <;> cases nb <;> simp only [Bool.false_eq_true, if_true, if_false, reduceCtorEq] <;> grind
  · cases na <;> simp <;> omega
theorem tqr_pos (na nb : Bool) {A B : Nat} (hB : 0 < B) (h : 0 ≤ tr na A B) : sg na A / sg nb B = tq na nb A B ∧ sg na A % sg nb B = tr na A B := by
  obtain ⟨h1, h2⟩ := tqr na nb (A := A) hB
  refine ediv_of ?_ h1 h ?_ <;> (unfold sg; split <;> omega)
theorem tqr_neg (na nb : Bool) {A B : Nat} (hB : 0 < B) (h : tr na A B < 0) : sg na A / sg nb B = tq na nb A B + sg (!nb) 1 ∧ sg na A % sg nb B = tr na A B + B := by
  obtain ⟨h1, h2⟩ := tqr na nb (A := A) hB
  refine ediv_of ?_ ?_ (by omega) ?_
  · unfold sg; split <;> omega
  · rw [← h1]; unfold sg; cases nb <;> simp <;> grind
  · unfold sg; split <;> omega

theorem iDivMod0_c (na nb : Bool) (wa wb : List Nat) (ha : wOK wa) (hb : wOK wb) (la : wa.length ≤ 268435456) (lb : wb.length ≤ 268435456) (h0 : zv nb wb = 0) :
    Con Tryz.prog 88 [AG (IC na wa), AG (IC nb wb)] { v := .tup [.agg (ZC 0), .agg (ZC 0), .one (.d (lI 10))] } := by
  have hB : wof (wv wb) = [] := by rw [wof_nil]; unfold zv at h0; split at h0 <;> omega
  refine con_intro (fn := Tryz.f88) tok Tryz.func88 (by kernel_rfl) rfl ?_
  intro w0 X
  rw [entry_mkE _ _ [(0, AG (IC na wa)), (1, AG (IC nb wb))] rfl rfl]
  refine AWP_reg_seq tok fun K hK => ?_
  refine s_box rfl rfl rfl rfl rfl rfl ?_
  refine s_box rfl rfl rfl rfl rfl rfl ?_
  refine s_alloc rfl rfl rfl rfl rfl rfl ?_
  refine s_alloc rfl rfl rfl rfl rfl rfl ?_
  refine s_assign rfl rfl rfl ?_
  refine s_end (hK _ ?_); clear hK K
  refine a_draw tok mixed (A := [[], [], [0], [], [], [0, 1, 3], [3, 4], []]) (an := [{}, {}, {}, { c := [15] }, { c := [15] }, {}, {}, {}]) rfl (by kernel_rfl) rfl fun K hK => ?_
  refine s_fieldAddr rfl rfl rfl ?_
  refine s_load rfl rfl rfl ?_
  refine s_call rfl rfl (trimZ_c wa ha (by omega)) rfl rfl rfl rfl ?_
  refine s_fieldAddr rfl rfl rfl ?_
  refine s_load rfl rfl rfl ?_
  refine s_call rfl rfl (trimZ_c wb hb (by omega)) rfl rfl rfl rfl ?_
  refine s_assign rfl rfl rfl ?_
  refine s_assign rfl rfl rfl ?_
  refine s_end (hK _ ?_); clear hK K
  refine AWP_seq ?_
  refine AWP_reg_seq tok fun K hK => ?_
  refine s_move rfl rfl rfl ?_
  refine s_blt rfl (len_w (n := 0) rfl rfl (by rw [hB]; rfl)) rfl ?_
  refine s_bin rfl rfl rfl ?_
  refine s_end (hK _ ?_); clear hK K
  refine a_cond rfl (fun hc => ?_) (fun hc => ?_)
  · refine AWP_reg_seq tok fun K hK => ?_
    refine s_build rfl rfl rfl ?_
    refine s_build rfl rfl rfl ?_
    refine s_store rfl rfl rfl rfl rfl ?_
    refine s_store rfl rfl rfl rfl rfl ?_
    refine s_assign rfl rfl rfl ?_
    refine s_end (hK _ ?_); clear hK K
    refine AWP_ret ?_
    repeat (with_reducible refine tq_ret ?_)
    exact post_ret (fin_mk (by rfl) (by rfl) (by rfl))
  · simp at hc

theorem iDivMod_c (na nb : Bool) (wa wb : List Nat) (ha : wOK wa) (hb : wOK wb) (la : wa.length ≤ 268435456) (lb : wb.length ≤ 268435456) (h0 : zv nb wb ≠ 0) :
    Con Tryz.prog 88 [AG (IC na wa), AG (IC nb wb)] { v := .tup [.agg (ZC (zv na wa / zv nb wb)), .agg (ZC (zv na wa % zv nb wb)), .one (.d (lI 0))] } := by
  have hB0 : wv wb ≠ 0 := by intro h; apply h0; unfold zv; rw [h]; simp
  have hBp : 0 < wv wb := by omega
  have hBn : wof (wv wb) ≠ [] := by rw [ne_eq, wof_nil]; exact hB0
  have hla := wl_len ha
  have hlb := wl_len hb
  have hxa : zv na wa = sg na (wv wa) := rfl
  have hxb : zv nb wb = sg nb (wv wb) := rfl
  rw [hxa, hxb]
  generalize hA : wv wa = A at *
  generalize hB : wv wb = B at *
  have hql : (divQ (wof A) (wof B)).length ≤ 268435457 := Nat.le_trans (divQ_len _ _) (by omega)
  have hrl : (divR (wof A) (wof B)).length ≤ 536870912 := Nat.le_trans (divR_len _ _) (by omega)
  have hqv := divQ_wv (wof_ok A) hBn (wof_top B)
  have hrv := divR_wv (a := wof A) (wof_ok B) hBn (wof_top B)
  rw [wv_wof, wv_wof] at hqv hrv
  have hrok := divR_ok (wof_ok A) (wof_ok B) hBn (wof_top B)
  have hrle : (wof (tr na A B).natAbs).length ≤ (wof A).length := wl_mono (by unfold tr; have := Nat.mod_le A B; split <;> omega)
  have hqle : (wof (tq na nb A B).natAbs).length ≤ (wof A).length := wl_mono (by unfold tq; have := Nat.div_le_self A B; split <;> omega)
  refine con_intro (fn := Tryz.f88) tok Tryz.func88 (by kernel_rfl) rfl ?_
  intro w0 X
  rw [entry_mkE _ _ [(0, AG (IC na wa)), (1, AG (IC nb wb))] rfl rfl]
  refine AWP_reg_seq tok fun K hK => ?_
  refine s_box rfl rfl rfl rfl rfl rfl ?_
  refine s_box rfl rfl rfl rfl rfl rfl ?_
  refine s_alloc rfl rfl rfl rfl rfl rfl ?_
  refine s_alloc rfl rfl rfl rfl rfl rfl ?_
  refine s_assign rfl rfl rfl ?_
  refine s_end (hK _ ?_); clear hK K
  refine a_draw tok mixed (A := [[], [], [0], [], [], [0, 1, 3], [3, 4], []]) (an := [{}, {}, {}, { c := [15] }, { c := [15] }, {}, {}, {}]) rfl (by kernel_rfl) rfl fun K hK => ?_
  refine s_fieldAddr rfl rfl rfl ?_
  refine s_load rfl rfl rfl ?_
  refine s_call rfl rfl (hA ▸ trimZ_c wa ha (by omega)) rfl rfl rfl rfl ?_
  refine s_fieldAddr rfl rfl rfl ?_
  refine s_load rfl rfl rfl ?_
  refine s_call rfl rfl (hB ▸ trimZ_c wb hb (by omega)) rfl rfl rfl rfl ?_
  refine s_assign rfl rfl rfl ?_
  refine s_assign rfl rfl rfl ?_
  refine s_end (hK _ ?_); clear hK K
  refine AWP_seq ?_
  refine AWP_reg_seq tok fun K hK => ?_
  refine s_move rfl rfl rfl ?_
  refine s_blt rfl (len_w rfl rfl rfl) rfl ?_
  refine s_bin rfl rfl rfl ?_
  refine s_end (hK _ ?_); clear hK K
  refine a_cond rfl (fun hc => ?_) (fun hc => ?_)
  · exact absurd (by simpa using hc) hBn
  refine AWP_skip ?_
  show AWP _ _ _ _ _ _
  refine AWP_reg_seq tok fun K hK => ?_
  refine s_move rfl rfl rfl ?_
  refine s_move rfl rfl rfl ?_
  refine s_call rfl rfl (divide_c _ _ (wof_ok A) (wof_ok B) (wof_top A) (wof_top B) hBn (by omega) (by omega)) rfl rfl rfl rfl ?_
  refine s_move rfl rfl rfl ?_
  refine s_extract rfl rfl rfl ?_
  refine s_extract rfl rfl rfl ?_
  refine s_assign rfl rfl rfl ?_
  refine s_assign rfl rfl rfl ?_
  refine s_end (hK _ ?_); clear hK K
  refine a_draw tok mixed (A := [[], [], [], [], [0, 2], [], [0, 1, 2, 3], [], [], [], [0, 1, 2, 3, 4, 5, 7], [], [], [7, 8, 9], []]) (an := [{}, {}, {}, {}, {}, {}, {}, { c := [36] }, { c := [36] }, { c := [36] }, {}, { c := [36, 40] }, { c := [36, 40, 11] }, {}, {}]) rfl (by kernel_rfl) rfl fun K hK => ?_
  refine s_fieldAddr rfl rfl rfl ?_
  refine s_load rfl rfl rfl ?_
  refine s_fieldAddr rfl rfl rfl ?_
  refine s_load rfl rfl rfl ?_
  refine s_bin rfl rfl rfl ?_
  refine s_move rfl rfl rfl ?_
  refine s_call rfl rfl (made_z (!(na == nb)) _ (tq na nb A B) (divQ_ok _ _) (by omega) (by unfold zv tq; rw [hqv]; cases na <;> cases nb <;> simp)) rfl rfl rfl rfl ?_
  refine s_fieldAddr rfl rfl rfl ?_
  refine s_load rfl rfl rfl ?_
  refine s_move rfl rfl rfl ?_
  refine s_call rfl rfl (made_z na _ (tr na A B) hrok (by omega) (by unfold zv tr; rw [hrv])) rfl rfl rfl rfl ?_
  refine s_alloc rfl rfl rfl rfl rfl rfl ?_
  refine s_alloc rfl rfl rfl rfl rfl rfl ?_
  refine s_store rfl rfl rfl rfl rfl ?_
  refine s_store rfl rfl rfl rfl rfl ?_
  refine s_end (hK _ ?_); clear hK K
  refine a_join (α := Unit) (fun _ => mk 56 [(4, .ptr 4 0), (5, .ptr 5 0), (11, .ptr 11 0), (12, .ptr 12 0)] [(4, some (.box [.d (.lit (.bool false)), .nil])), (5, some (.box [.d (.lit (.bool false)), .nil])), (11, some (.box (ZC (sg na A / sg nb B)))), (12, some (.box (ZC (sg na A % sg nb B))))] []) (fun _ => True) ?_ ?_
  · refine AWP_reg_seq tok fun K hK => ?_
    refine s_fieldAddr rfl rfl rfl ?_
    refine s_load rfl rfl rfl ?_
    refine s_end (hK _ ?_); clear hK K
    refine a_cond rfl (fun hd => ?_) (fun hd => ?_)
    · have hd : tr na A B < 0 := of_decide_eq_true hd
      obtain ⟨e1, e2⟩ := tqr_neg na nb hBp hd
      refine AWP_reg_seq tok fun K hK => ?_
      refine s_load rfl rfl rfl ?_
      refine s_move rfl rfl rfl ?_
      refine s_build rfl rfl rfl ?_
      refine s_call rfl rfl (iAdd_z (decide (tr na A B < 0)) false (wof (tr na A B).natAbs) (wof B) (sg na A % sg nb B) (wof_ok _) (wof_ok _) (by omega) (by omega) (by rw [zv_ZC, e2]; unfold zv; rw [wv_wof]; simp)) rfl rfl rfl rfl ?_
      refine s_store rfl rfl rfl rfl rfl ?_
      refine s_end (hK _ ?_); clear hK K
      refine AWP_regW fun K hK => ?_
      refine w_step tok rfl ?_
      refine s_load rfl rfl rfl ?_
      refine s_end ?_
      refine w_step tok rfl ?_
      refine s_fieldAddr rfl rfl rfl ?_
      refine s_end ?_
      refine w_step tok rfl ?_
      refine s_load rfl rfl rfl ?_
      refine s_end ?_
      refine w_step tok rfl ?_
      refine s_un rfl rfl rfl ?_
      refine s_end ?_
      refine w_step tok rfl ?_
      refine s_buildSlice rfl rfl rfl rfl ?_
      refine s_end ?_
      refine w_wk (Wk.fzNew rfl rfl rfl) ?_
      refine w_step tok rfl ?_
      refine s_build rfl rfl rfl ?_
      refine s_end ?_
      refine w_step tok rfl ?_
      refine s_call rfl rfl (iAdd_z (decide (tq na nb A B < 0)) (!nb) (wof (tq na nb A B).natAbs) [1] (sg na A / sg nb B) (wof_ok _) (wOK.one (by decide)) (by omega) (by simp) (by rw [zv_ZC, e1]; rfl)) rfl rfl rfl rfl ?_
      refine s_end ?_
      refine w_step tok rfl ?_
      refine s_store rfl rfl rfl rfl rfl ?_
      refine s_end ?_
      refine w_end rfl (hK _ ?_); clear hK K
      exact ⟨(), trivial, Wk.mk' ⟨rfl, rfl, rfl, rfl, trivial⟩ ⟨rfl, rfl, rfl, rfl, trivial⟩⟩
    · have hd : 0 ≤ tr na A B := by have := of_decide_eq_false hd; omega
      obtain ⟨e1, e2⟩ := tqr_pos na nb hBp hd
      refine AWP_skip ?_
      exact ⟨(), trivial, Wk.mk' ⟨rfl, rfl, rfl, rfl, trivial⟩ ⟨rfl, rfl, by rw [e1]; rfl, by rw [e2]; rfl, trivial⟩⟩
  rintro - -
  show AWP _ _ _ _ _ (mk 56 [(4, .ptr 4 0), (5, .ptr 5 0), (11, .ptr 11 0), (12, .ptr 12 0)] [(4, some (.box [.d (.lit (.bool false)), .nil])), (5, some (.box [.d (.lit (.bool false)), .nil])), (11, some (.box (ZC (sg na A / sg nb B)))), (12, some (.box (ZC (sg na A % sg nb B))))] [])
  refine a_draw tok mixed (A := [[], [], [], [], []]) (an := [{}, {}, { d := [12] }, {}, {}]) rfl (by kernel_rfl) rfl fun K hK => ?_
  refine s_load rfl rfl rfl ?_
  refine s_load rfl rfl rfl ?_
  refine s_store rfl rfl rfl rfl rfl ?_
  refine s_store rfl rfl rfl rfl rfl ?_
  refine s_assign rfl rfl rfl ?_
  refine s_end (hK _ ?_); clear hK K
  refine AWP_ret ?_
  repeat (with_reducible refine tq_ret ?_)
  exact post_ret (fin_mk (by rfl) (by rfl) (by rfl))

theorem iDivModZ_c (x y : Int) (hx : zl x ≤ 268435456) (hy : zl y ≤ 268435456) (h0 : y ≠ 0) :
    Con Tryz.prog 88 [AG (ZC x), AG (ZC y)] { v := .tup [.agg (ZC (x / y)), .agg (ZC (x % y)), .one (.d (lI 0))] } := by
  have := iDivMod_c (decide (x < 0)) (decide (y < 0)) (wof x.natAbs) (wof y.natAbs) (wof_ok _) (wof_ok _) hx hy (by rw [zv_ZC]; exact h0)
  rw [zv_ZC, zv_ZC] at this
  exact this

theorem iGcd_c (na nb : Bool) (wa wb : List Nat) (ha : wOK wa) (hb : wOK wb) (la : wa.length ≤ 268435456) (lb : wb.length ≤ 268435456) :
    Con Tryz.prog 87 [AG (IC na wa), AG (IC nb wb)] { v := AG (ZC (Int.gcd (zv na wa) (zv nb wb) : Int)) } := by
  have h1 : zl ((zv na wa).natAbs : Int) ≤ 268435456 := by unfold zl; rw [Int.natAbs_natCast, zv_abs]; exact Nat.le_trans (wl_len ha) la
  have h2 : zl ((zv nb wb).natAbs : Int) ≤ 268435456 := by unfold zl; rw [Int.natAbs_natCast, zv_abs]; exact Nat.le_trans (wl_len hb) lb
  have hg : Int.gcd (zv na wa) (zv nb wb) = Nat.gcd (zv na wa).natAbs (zv nb wb).natAbs := rfl
  refine con_intro (fn := Tryz.f87) tok Tryz.func87 (by kernel_rfl) rfl ?_
  intro w0 X
  rw [entry_mkE _ _ [(0, AG (IC na wa)), (1, AG (IC nb wb))] rfl rfl]
  rw [hg]
  refine AWP_reg_seq tok fun K hK => ?_
  refine s_box rfl rfl rfl rfl rfl rfl ?_
  refine s_box rfl rfl rfl rfl rfl rfl ?_
  refine s_alloc rfl rfl rfl rfl rfl rfl ?_
  refine s_end (hK _ ?_); clear hK K
  refine a_draw tok mixed (A := [[], [], [], [0], [], [], [2], []]) (an := [{}, {}, { c := [11] }, {}, { c := [11, 13] }, { c := [11, 13, 5] }, {}, {}]) rfl (by kernel_rfl) rfl fun K hK => ?_
  refine s_load rfl rfl rfl ?_
  refine s_call rfl rfl (iAbs_c na wa ha (by omega)) rfl rfl rfl rfl ?_
  refine s_load rfl rfl rfl ?_
  refine s_call rfl rfl (iAbs_c nb wb hb (by omega)) rfl rfl rfl rfl ?_
  refine s_alloc rfl rfl rfl rfl rfl rfl ?_
  refine s_alloc rfl rfl rfl rfl rfl rfl ?_
  refine s_store rfl rfl rfl rfl rfl ?_
  refine s_store rfl rfl rfl rfl rfl ?_
  refine s_end (hK _ ?_); clear hK K
  generalize (zv na wa).natAbs = A at *
  generalize (zv nb wb).natAbs = B at *
  refine AWP_seq ?_
  refine AWP_block (a_loop (α := Nat × Nat) (fun p => mk 28 [(4, .ptr 4 0), (5, .ptr 5 0), (6, .ptr 6 0)] [(4, some (.box [.d (.lit (.bool false)), .nil])), (5, some (.box (ZC (p.1 : Int)))), (6, some (.box (ZC (p.2 : Int))))] []) (fun p => zl (p.1 : Int) ≤ 268435456 ∧ zl (p.2 : Int) ≤ 268435456 ∧ Nat.gcd p.1 p.2 = Nat.gcd A B) (fun p => p.2) (A, B) ?_ ⟨h1, h2, rfl⟩ ?_)
  · exact Wk.mk' ⟨rfl, rfl, rfl, trivial⟩ ⟨rfl, rfl, rfl, trivial⟩
  rintro ⟨m, n⟩ ⟨i1, i2, i3⟩
  simp only at i1 i2 i3
  show AWP _ _ _ _ _ (mk 28 [(4, .ptr 4 0), (5, .ptr 5 0), (6, .ptr 6 0)] [(4, some (.box [.d (.lit (.bool false)), .nil])), (5, some (.box (ZC (m : Int)))), (6, some (.box (ZC (n : Int))))] [])
  refine AWP_seq ?_
  refine AWP_reg_seq tok fun K hK => ?_
  refine s_fieldAddr rfl rfl rfl ?_
  refine s_load rfl rfl rfl ?_
  refine s_blt rfl (len_w rfl rfl rfl) rfl ?_
  refine s_bin rfl rfl rfl ?_
  refine s_end (hK _ ?_); clear hK K
  refine a_cond rfl (fun hc => ?_) (fun hc => ?_)
  · have hn : n ≠ 0 := by
      intro h; subst h
      have : wof ((0 : Nat) : Int).natAbs = [] := rfl
      rw [this] at hc; simp at hc
    refine AWP_skip ?_
    show AWP _ _ _ _ _ _
    refine AWP_block ?_
    refine AWP_reg_seq tok fun K hK => ?_
    refine s_load rfl rfl rfl ?_
    refine s_load rfl rfl rfl ?_
    refine s_call rfl rfl (iDivModZ_c (m : Int) (n : Int) i1 i2 (by omega)) rfl rfl rfl rfl ?_
    refine s_move rfl rfl rfl ?_
    refine s_extract rfl rfl rfl ?_
    refine s_extract rfl rfl rfl ?_
    refine s_extract rfl rfl rfl ?_
    refine s_alloc rfl rfl rfl rfl rfl rfl ?_
    refine s_alloc rfl rfl rfl rfl rfl rfl ?_
    refine s_store rfl rfl rfl rfl rfl ?_
    refine s_store rfl rfl rfl rfl rfl ?_
    refine s_assign rfl rfl rfl ?_
    refine s_end (hK _ ?_); clear hK K
    refine a_draw1 tok mixed (A := [[], [], [], []]) (an := [{}, {}, { d := [8] }, {}]) rfl (by kernel_rfl) rfl fun K hK => ?_
    refine s_load rfl rfl rfl ?_
    refine s_load rfl rfl rfl ?_
    refine s_store rfl rfl rfl rfl rfl ?_
    refine s_store rfl rfl rfl rfl rfl ?_
    refine s_end (hK _ ?_); clear hK K
    have hmod : (m : Int) % (n : Int) = ((m % n : Nat) : Int) := rfl
    refine ⟨(n, m % n), Nat.mod_lt _ (by omega), ⟨i2, ?_, ?_⟩, Wk.mk' ⟨rfl, rfl, rfl, trivial⟩ ⟨rfl, rfl, by rw [hmod]; rfl, trivial⟩⟩
    · refine Nat.le_trans ?_ i2
      exact wl_mono (by simp only [Int.natAbs_natCast]; exact Nat.le_of_lt (Nat.mod_lt _ (by omega)))
    · simp only; rw [← i3, Nat.gcd_comm m n, Nat.gcd_rec n m, Nat.gcd_comm]
  · have hn : n = 0 := by
      have : wof (n : Int).natAbs = [] := by
        apply List.length_eq_zero_iff.1
        simp at hc; simpa using hc
      rw [wof_nil] at this; omega
    subst hn
    rw [Nat.gcd_zero_right] at i3
    subst i3
    refine AWP_exit ?_
    show AWP _ _ _ _ _ _
    refine AWP_reg_seq tok fun K hK => ?_
    refine s_load rfl rfl rfl ?_
    refine s_store rfl rfl rfl rfl rfl ?_
    refine s_end (hK _ ?_); clear hK K
    refine AWP_ret ?_
    repeat (with_reducible refine tq_ret ?_)
    exact post_ret (fin_mk (by rfl) (by rfl) (by rfl))
end Go.Proofs.YtcafppnjemgkiaaGreat

/- Integers in canonical form; rationals as the program computes them. No condition. -/
namespace Go.Proofs.YtcafppnjemgkiaaGreat
attribute [local irreducible] lexA

/-! ### Integers in canonical form -/
theorem iNegZ_c (x : Int) (hx : zl x ≤ 268435456) : Con Tryz.prog 86 [AG (ZC x)] { v := AG (ZC (-x)) } := by
  have := iNeg_c (decide (x < 0)) (wof x.natAbs) (wof_ok _) (Nat.le_trans hx (by decide))
  rw [zv_ZC] at this; exact this
theorem iAddZ_c (x y : Int) (hx : zl x ≤ 536870912) (hy : zl y ≤ 536870912) : Con Tryz.prog 69 [AG (ZC x), AG (ZC y)] { v := AG (ZC (x + y)) } := by
  have := iAdd_c (decide (x < 0)) (decide (y < 0)) (wof x.natAbs) (wof y.natAbs) (wof_ok _) (wof_ok _) hx hy
  rw [zv_ZC, zv_ZC] at this; exact this
theorem iSubZ_c (x y : Int) (hx : zl x ≤ 536870912) (hy : zl y ≤ 536870912) : Con Tryz.prog 101 [AG (ZC x), AG (ZC y)] { v := AG (ZC (x - y)) } := by
  have := iSub_c (decide (x < 0)) (decide (y < 0)) (wof x.natAbs) (wof y.natAbs) (wof_ok _) (wof_ok _) hx hy
  rw [zv_ZC, zv_ZC] at this; exact this
theorem iMulZ_c (x y : Int) (hx : zl x ≤ 536870912) (hy : zl y ≤ 536870912) : Con Tryz.prog 70 [AG (ZC x), AG (ZC y)] { v := AG (ZC (x * y)) } := by
  have := iMul_c (decide (x < 0)) (decide (y < 0)) (wof x.natAbs) (wof y.natAbs) (wof_ok _) (wof_ok _) hx hy
  rw [zv_ZC, zv_ZC] at this; exact this
theorem iSignZ_c (x : Int) (hx : zl x ≤ 536870912) : Con Tryz.prog 85 [AG (ZC x)] { v := dI x.sign } := by
  have := iSign_c (decide (x < 0)) (wof x.natAbs) (wof_ok _) (Nat.le_trans hx (by decide))
  rw [zv_ZC] at this; exact this
theorem iDivMod_q (na nb : Bool) (wa wb : List Nat) (x y q : Int) (ha : wOK wa) (hb : wOK wb) (la : wa.length ≤ 268435456) (lb : wb.length ≤ 268435456) (hx : zv na wa = x) (hy : zv nb wb = y) (h0 : y ≠ 0) (hq : x / y = q) :
    Con Tryz.prog 88 [AG (IC na wa), AG (IC nb wb)] { v := .tup [.agg (ZC q), .agg (ZC (x % y)), .one (.d (lI 0))] } := by
  subst hx hy hq
  exact iDivMod_c na nb wa wb ha hb la lb h0

/-! ### Rationals -/
/-- The cells of a rational as it stands. -/
def QC (na : Bool) (wa : List Nat) (nb : Bool) (wb : List Nat) : List SC := [.d (.lit (.bool na)), .d (dW wa), .d (.lit (.bool nb)), .d (dW wb)]
/-- Its value. -/
def qv (na : Bool) (wa : List Nat) (nb : Bool) (wb : List Nat) : Rat := Rat.divInt (zv na wa) (zv nb wb)
/-- The cells of the canonical rational. -/
def QZ (q : Rat) : List SC := QC (decide (q.num < 0)) (wof q.num.natAbs) (decide ((q.den : Int) < 0)) (wof (q.den : Int).natAbs)
theorem qv_QZ (q : Rat) : qv (decide (q.num < 0)) (wof q.num.natAbs) (decide ((q.den : Int) < 0)) (wof (q.den : Int).natAbs) = q := by
  unfold qv; rw [zv_ZC, zv_ZC, divInt_self]
theorem QZ_ZC (q : Rat) (n d : Int) (hn : q.num = n) (hd : (q.den : Int) = d) : QZ q = ZC n ++ ZC d := by subst hn hd; rfl

theorem gcd_pos {x y : Int} (h : y ≠ 0) : Int.gcd x y ≠ 0 := by
  intro h'
  have := Int.gcd_eq_zero_iff.1 h'
  exact h this.2
theorem zl_gcd (x : Int) {y : Int} (h : y ≠ 0) : zl (Int.gcd x y : Int) ≤ zl y := by
  unfold zl
  refine wl_mono ?_
  rw [Int.natAbs_natCast]
  exact Nat.gcd_le_right _ (by omega)

theorem qNew_c (na nb : Bool) (wa wb : List Nat) (ha : wOK wa) (hb : wOK wb) (la : wa.length ≤ 268435456) (lb : wb.length ≤ 268435456) :
    Con Tryz.prog 63 [AG (IC na wa), AG (IC nb wb)] { v := AG (QZ (Rat.divInt (zv na wa) (zv nb wb))) } := by
  have lza : zl (zv na wa) ≤ 268435456 := by unfold zl; rw [zv_abs]; exact Nat.le_trans (wl_len ha) la
  have lzb : zl (zv nb wb) ≤ 268435456 := by unfold zl; rw [zv_abs]; exact Nat.le_trans (wl_len hb) lb
  refine con_intro (fn := Tryz.f63) tok Tryz.func63 (by kernel_rfl) rfl ?_
  intro w0 X
  rw [entry_mkE _ _ [(0, AG (IC na wa)), (1, AG (IC nb wb))] rfl rfl]
  refine AWP_reg_seq tok fun K hK => ?_
  refine s_box rfl rfl rfl rfl rfl rfl ?_
  refine s_box rfl rfl rfl rfl rfl rfl ?_
  refine s_alloc rfl rfl rfl rfl rfl rfl ?_
  refine s_end (hK _ ?_); clear hK K
  refine AWP_seq ?_
  refine AWP_reg_seq tok fun K hK => ?_
  refine s_load rfl rfl rfl ?_
  refine s_call rfl rfl (iSign_c nb wb hb (by omega)) rfl rfl rfl rfl ?_
  refine s_bin rfl rfl rfl ?_
  refine s_end (hK _ ?_); clear hK K
  refine a_cond rfl (fun hc => ?_) (fun hc => ?_)
  · have h0 : zv nb wb = 0 := Int.sign_eq_zero_iff_zero.1 (by simpa using hc)
    refine AWP_reg_seq tok fun K hK => ?_
    refine s_call rfl rfl (iOf_c 0 (by unfold I64; omega)) rfl rfl rfl rfl ?_
    refine s_call rfl rfl (iOf_c 1 (by unfold I64; omega)) rfl rfl rfl rfl ?_
    refine s_build rfl rfl rfl ?_
    refine s_store rfl rfl rfl rfl rfl ?_
    refine s_end (hK _ ?_); clear hK K
    refine AWP_ret ?_
    repeat (with_reducible refine tq_ret ?_)
    exact post_ret (fin_mk (by rfl) (by rfl) (by rw [h0, Rat.divInt_zero]; rfl))
  have h0 : zv nb wb ≠ 0 := by intro h; rw [h] at hc; simp at hc
  refine AWP_skip ?_
  show AWP _ _ _ _ _ _
  generalize hx : zv na wa = x at *
  generalize hy : zv nb wb = y at *
  refine a_keep [(2, .ptr 2 0), (3, .ptr 3 0), (4, .ptr 4 0)] [(2, some (.box (IC na wa))), (3, some (.box (IC nb wb))), (4, some (.box [.d (.lit (.bool false)), .nil, .d (.lit (.bool false)), .nil]))] ⟨rfl, rfl, rfl, trivial⟩ ⟨rfl, rfl, rfl, trivial⟩ ?_
  refine a_join (α := (Bool × List Nat) × (Bool × List Nat)) (fun p => mk 45 [(2, .ptr 2 0), (3, .ptr 3 0), (4, .ptr 4 0)] [(2, some (.box (IC p.1.1 p.1.2))), (3, some (.box (IC p.2.1 p.2.2))), (4, some (.box [.d (.lit (.bool false)), .nil, .d (.lit (.bool false)), .nil]))] []) (fun p => wOK p.1.2 ∧ wOK p.2.2 ∧ p.1.2.length ≤ 268435456 ∧ p.2.2.length ≤ 268435456 ∧ zv p.1.1 p.1.2 = y.sign * x ∧ zv p.2.1 p.2.2 = (y.natAbs : Int)) ?_ ?_
  · refine AWP_reg_seq tok fun K hK => ?_
    refine s_load rfl rfl rfl ?_
    refine s_call rfl rfl (hy ▸ iSign_c nb wb hb (by omega)) rfl rfl rfl rfl ?_
    refine s_bin rfl rfl rfl ?_
    refine s_end (hK _ ?_); clear hK K
    refine a_cond rfl (fun hd => ?_) (fun hd => ?_)
    · have hd : y < 0 := by
        have h1 : y.sign < 0 := of_decide_eq_true hd
        rcases Int.lt_trichotomy y 0 with h | h | h
        · exact h
        · exact absurd h h0
        · rw [Int.sign_eq_one_of_pos h] at h1; omega
      refine a_draw1 tok mixed (A := [[], [], [], [0], [2], []]) (an := [{}, {}, { c := [22] }, {}, {}, {}]) rfl (by kernel_rfl) rfl fun K hK => ?_
      refine s_load rfl rfl rfl ?_
      refine s_call rfl rfl (hx ▸ iNeg_c na wa ha (by omega)) rfl rfl rfl rfl ?_
      refine s_load rfl rfl rfl ?_
      refine s_call rfl rfl (hy ▸ iNeg_c nb wb hb (by omega)) rfl rfl rfl rfl ?_
      refine s_store rfl rfl rfl rfl rfl ?_
      refine s_store rfl rfl rfl rfl rfl ?_
      refine s_end (hK _ ?_); clear hK K
      refine ⟨((decide (-x < 0), wof (-x).natAbs), (decide (-y < 0), wof (-y).natAbs)), ⟨wof_ok _, wof_ok _, ?_, ?_, ?_, ?_⟩, Wk.mk' ⟨rfl, rfl, rfl, trivial⟩ ⟨rfl, rfl, rfl, trivial⟩⟩
      · show zl (-x) ≤ _; rw [zl_neg]; exact lza
      · show zl (-y) ≤ _; rw [zl_neg]; exact lzb
      · simp only; rw [zv_ZC, Int.sign_eq_neg_one_of_neg hd]; omega
      · simp only; rw [zv_ZC]; omega
    · have hd : 0 < y := by
        have h1 : ¬ y.sign < 0 := of_decide_eq_false hd
        rcases Int.lt_trichotomy y 0 with h | h | h
        · rw [Int.sign_eq_neg_one_of_neg h] at h1; omega
        · exact absurd h h0
        · exact h
      refine AWP_skip ?_
      refine ⟨((na, wa), (nb, wb)), ⟨ha, hb, la, lb, ?_, ?_⟩, Wk.mk' ⟨rfl, rfl, rfl, trivial⟩ ⟨rfl, rfl, rfl, trivial⟩⟩
      · simp only; rw [hx, Int.sign_eq_one_of_pos hd]; omega
      · simp only; rw [hy]; omega
  rintro ⟨⟨na', wa'⟩, ⟨nb', wb'⟩⟩ ⟨oa, ob, ka, kb, va, vb⟩
  simp only at oa ob ka kb va vb
  show AWP _ _ _ _ _ (mk 45 [(2, .ptr 2 0), (3, .ptr 3 0), (4, .ptr 4 0)] [(2, some (.box (IC na' wa'))), (3, some (.box (IC nb' wb'))), (4, some (.box [.d (.lit (.bool false)), .nil, .d (.lit (.bool false)), .nil]))] [])
  have hg : (Int.gcd (zv na' wa') (zv nb' wb') : Int) = (Int.gcd x y : Int) := by
    rw [va, vb]
    show ((Nat.gcd (y.sign * x).natAbs (y.natAbs : Int).natAbs : Nat) : Int) = _
    rw [Int.natAbs_mul, Int.natAbs_natCast]
    have : y.sign.natAbs = 1 := by
      rcases Int.lt_trichotomy y 0 with h | h | h
      · rw [Int.sign_eq_neg_one_of_neg h]; rfl
      · exact absurd h h0
      · rw [Int.sign_eq_one_of_pos h]; rfl
    rw [this, Nat.one_mul]; rfl
  have hgn : (Int.gcd x y : Int) ≠ 0 := by have := gcd_pos (x := x) h0; omega
  have hgl : (wof (Int.gcd x y : Int).natAbs).length ≤ 268435456 := Nat.le_trans (zl_gcd x h0) lzb
  refine AWP_reg_seq tok fun K hK => ?_
  refine s_load rfl rfl rfl ?_
  refine s_load rfl rfl rfl ?_
  refine s_call rfl rfl (hg ▸ iGcd_c na' nb' wa' wb' oa ob ka kb) rfl rfl rfl rfl ?_
  refine s_alloc rfl rfl rfl rfl rfl rfl ?_
  refine s_store rfl rfl rfl rfl rfl ?_
  refine s_end (hK _ ?_); clear hK K
  refine AWP_reg_seq tok fun K hK => ?_
  refine s_load rfl rfl rfl ?_
  refine s_load rfl rfl rfl ?_
  refine s_call rfl rfl (iDivMod_q na' (decide ((Int.gcd x y : Int) < 0)) wa' (wof (Int.gcd x y : Int).natAbs) (y.sign * x) (Int.gcd x y : Int) (Rat.divInt x y).num oa (wof_ok _) ka hgl va (zv_ZC _) hgn (num_gcd x y).symm) rfl rfl rfl rfl ?_
  refine s_move rfl rfl rfl ?_
  refine s_extract rfl rfl rfl ?_
  refine s_extract rfl rfl rfl ?_
  refine s_extract rfl rfl rfl ?_
  refine s_alloc rfl rfl rfl rfl rfl rfl ?_
  refine s_alloc rfl rfl rfl rfl rfl rfl ?_
  refine s_store rfl rfl rfl rfl rfl ?_
  refine s_store rfl rfl rfl rfl rfl ?_
  refine s_assign rfl rfl rfl ?_
  refine s_end (hK _ ?_); clear hK K
  refine AWP_reg_seq tok fun K hK => ?_
  refine s_load rfl rfl rfl ?_
  refine s_load rfl rfl rfl ?_
  refine s_call rfl rfl (iDivMod_q nb' (decide ((Int.gcd x y : Int) < 0)) wb' (wof (Int.gcd x y : Int).natAbs) (y.natAbs : Int) (Int.gcd x y : Int) ((Rat.divInt x y).den : Int) ob (wof_ok _) kb hgl vb (zv_ZC _) hgn (den_gcd h0).symm) rfl rfl rfl rfl ?_
  refine s_move rfl rfl rfl ?_
  refine s_extract rfl rfl rfl ?_
  refine s_extract rfl rfl rfl ?_
  refine s_extract rfl rfl rfl ?_
  refine s_alloc rfl rfl rfl rfl rfl rfl ?_
  refine s_alloc rfl rfl rfl rfl rfl rfl ?_
  refine s_store rfl rfl rfl rfl rfl ?_
  refine s_store rfl rfl rfl rfl rfl ?_
  refine s_assign rfl rfl rfl ?_
  refine s_end (hK _ ?_); clear hK K
  refine AWP_reg_seq tok fun K hK => ?_
  refine s_load rfl rfl rfl ?_
  refine s_load rfl rfl rfl ?_
  refine s_build rfl rfl rfl ?_
  refine s_store rfl rfl rfl rfl rfl ?_
  refine s_end (hK _ ?_); clear hK K
  refine AWP_ret ?_
  repeat (with_reducible refine tq_ret ?_)
  exact post_ret (fin_mk (by rfl) (by rfl) (by rfl))

theorem qOf_c (n d : Int) (hn : I64 n) (hd : I64 d) : Con Tryz.prog 40 [dI n, dI d] { v := AG (QZ (Rat.divInt n d)) } := by
  have h1 := zl_i64 hn
  have h2 := zl_i64 hd
  have hz : Rat.divInt (zv (decide (n < 0)) (wof n.natAbs)) (zv (decide (d < 0)) (wof d.natAbs)) = Rat.divInt n d := by rw [zv_ZC, zv_ZC]
  refine con_intro (fn := Tryz.f40) tok Tryz.func40 (by kernel_rfl) rfl ?_
  intro w0 X
  rw [entry_mkE _ _ [(0, dI n), (1, dI d)] rfl rfl]
  refine AWP_reg_seq tok fun K hK => ?_
  refine s_alloc rfl rfl rfl rfl rfl rfl ?_
  refine s_end (hK _ ?_); clear hK K
  refine AWP_reg_seq tok fun K hK => ?_
  refine s_move rfl rfl rfl ?_
  refine s_call rfl rfl (iOf_c n hn) rfl rfl rfl rfl ?_
  refine s_move rfl rfl rfl ?_
  refine s_call rfl rfl (iOf_c d hd) rfl rfl rfl rfl ?_
  refine s_call rfl rfl (hz ▸ qNew_c (decide (n < 0)) (decide (d < 0)) (wof n.natAbs) (wof d.natAbs) (wof_ok _) (wof_ok _) (Nat.le_trans h1 (by decide)) (Nat.le_trans h2 (by decide))) rfl rfl rfl rfl ?_
  refine s_store rfl rfl rfl rfl rfl ?_
  refine s_end (hK _ ?_); clear hK K
  refine AWP_ret ?_
  repeat (with_reducible refine tq_ret ?_)
  exact post_ret (fin_mk (by rfl) (by rfl) (by rfl))

theorem qNewZ_c (x y : Int) (q : Rat) (hx : zl x ≤ 268435456) (hy : zl y ≤ 268435456) (h : Rat.divInt x y = q) : Con Tryz.prog 63 [AG (ZC x), AG (ZC y)] { v := AG (QZ q) } := by
  have := qNew_c (decide (x < 0)) (decide (y < 0)) (wof x.natAbs) (wof y.natAbs) (wof_ok _) (wof_ok _) hx hy
  rw [zv_ZC, zv_ZC, h] at this; exact this

theorem qNorm_c (na nb : Bool) (wa wb : List Nat) (ha : wOK wa) (hb : wOK wb) (la : wa.length ≤ 268435456) (lb : wb.length ≤ 268435456) :
    Con Tryz.prog 68 [AG (QC na wa nb wb)] { v := AG (QZ (qv na wa nb wb)) } := by
  refine con_intro (fn := Tryz.f68) tok Tryz.func68 (by kernel_rfl) rfl ?_
  intro w0 X
  rw [entry_mkE _ _ [(0, AG (QC na wa nb wb))] rfl rfl]
  refine AWP_reg_seq tok fun K hK => ?_
  refine s_box rfl rfl rfl rfl rfl rfl ?_
  refine s_alloc rfl rfl rfl rfl rfl rfl ?_
  refine s_end (hK _ ?_); clear hK K
  refine AWP_reg_seq tok fun K hK => ?_
  refine s_fieldAddr rfl rfl rfl ?_
  refine s_load rfl rfl rfl ?_
  refine s_fieldAddr rfl rfl rfl ?_
  refine s_load rfl rfl rfl ?_
  refine s_call rfl rfl (qNew_c na nb wa wb ha hb la lb) rfl rfl rfl rfl ?_
  refine s_store rfl rfl rfl rfl rfl ?_
  refine s_end (hK _ ?_); clear hK K
  refine AWP_ret ?_
  repeat (with_reducible refine tq_ret ?_)
  exact post_ret (fin_mk (by rfl) (by rfl) (by rfl))

theorem qNeg_c (na nb : Bool) (wa wb : List Nat) (ha : wOK wa) (hb : wOK wb) (la : wa.length ≤ 268435456) (lb : wb.length ≤ 268435456) :
    Con Tryz.prog 103 [AG (QC na wa nb wb)] { v := AG (QZ (-(qv na wa nb wb))) } := by
  have hz : Rat.divInt (zv (decide (-(zv na wa) < 0)) (wof (-(zv na wa)).natAbs)) (zv nb wb) = -(qv na wa nb wb) := by rw [zv_ZC]; unfold qv; rw [Rat.neg_divInt]
  have hl : (wof (-(zv na wa)).natAbs).length ≤ 268435456 := by rw [Int.natAbs_neg, zv_abs]; exact Nat.le_trans (wl_len ha) la
  refine con_intro (fn := Tryz.f103) tok Tryz.func103 (by kernel_rfl) rfl ?_
  intro w0 X
  rw [entry_mkE _ _ [(0, AG (QC na wa nb wb))] rfl rfl]
  refine AWP_reg_seq tok fun K hK => ?_
  refine s_box rfl rfl rfl rfl rfl rfl ?_
  refine s_alloc rfl rfl rfl rfl rfl rfl ?_
  refine s_end (hK _ ?_); clear hK K
  refine a_draw tok mixed (A := [[], [], [0], [], [], [0, 1, 3], []]) (an := [{}, {}, {}, { c := [5] }, { c := [5] }, {}, {}]) rfl (by kernel_rfl) rfl fun K hK => ?_
  refine s_fieldAddr rfl rfl rfl ?_
  refine s_load rfl rfl rfl ?_
  refine s_call rfl rfl (iNeg_c na wa ha (by omega)) rfl rfl rfl rfl ?_
  refine s_fieldAddr rfl rfl rfl ?_
  refine s_load rfl rfl rfl ?_
  refine s_call rfl rfl (hz ▸ qNew_c (decide (-(zv na wa) < 0)) nb (wof (-(zv na wa)).natAbs) wb (wof_ok _) hb hl lb) rfl rfl rfl rfl ?_
  refine s_store rfl rfl rfl rfl rfl ?_
  refine s_end (hK _ ?_); clear hK K
  refine AWP_ret ?_
  repeat (with_reducible refine tq_ret ?_)
  exact post_ret (fin_mk (by rfl) (by rfl) (by rfl))

theorem qAdd_c (na nb nc nd : Bool) (wa wb wc wd : List Nat) (ha : wOK wa) (hb : wOK wb) (hc : wOK wc) (hd : wOK wd) (la : wa.length ≤ 16777216) (lb : wb.length ≤ 16777216) (lc : wc.length ≤ 16777216) (ld : wd.length ≤ 16777216) :
    Con Tryz.prog 49 [AG (QC na wa nb wb), AG (QC nc wc nd wd)] { v := AG (QZ (qv na wa nb wb + qv nc wc nd wd)) } := by
  have hx : ql (qv na wa nb wb) ≤ 16777217 := by
    refine Nat.le_trans (ql_divInt _ _) ?_
    have h1 := wl_len ha
    have h2 := wl_len hb
    unfold zl wl; rw [zv_abs, zv_abs]; omega
  have hy : ql (qv nc wc nd wd) ≤ 16777217 := by
    refine Nat.le_trans (ql_divInt _ _) ?_
    have h1 := wl_len hc
    have h2 := wl_len hd
    unfold zl wl; rw [zv_abs, zv_abs]; omega
  refine con_intro (fn := Tryz.f49) tok Tryz.func49 (by kernel_rfl) rfl ?_
  intro w0 X
  rw [entry_mkE _ _ [(0, AG (QC na wa nb wb)), (1, AG (QC nc wc nd wd))] rfl rfl]
  refine AWP_reg_seq tok fun K hK => ?_
  refine s_box rfl rfl rfl rfl rfl rfl ?_
  refine s_box rfl rfl rfl rfl rfl rfl ?_
  refine s_alloc rfl rfl rfl rfl rfl rfl ?_
  refine s_end (hK _ ?_); clear hK K
  refine a_draw tok mixed (A := [[], [], [], [0], [2], []]) (an := [{}, {}, { c := [6] }, {}, {}, {}]) rfl (by kernel_rfl) rfl fun K hK => ?_
  refine s_load rfl rfl rfl ?_
  refine s_call rfl rfl (qNorm_c na nb wa wb ha hb (by omega) (by omega)) rfl rfl rfl rfl ?_
  refine s_load rfl rfl rfl ?_
  refine s_call rfl rfl (qNorm_c nc nd wc wd hc hd (by omega) (by omega)) rfl rfl rfl rfl ?_
  refine s_store rfl rfl rfl rfl rfl ?_
  refine s_store rfl rfl rfl rfl rfl ?_
  refine s_end (hK _ ?_); clear hK K
  generalize qv na wa nb wb = x at *
  generalize qv nc wc nd wd = y at *
  have a1 := ql_num x
  have a2 := ql_den x
  have b1 := ql_num y
  have b2 := ql_den y
  have m1 := zl_mul x.num y.den
  have m2 := zl_mul y.num x.den
  have m3 := zl_mul x.den y.den
  have m4 := zl_add (x.num * y.den) (y.num * x.den)
  refine a_keep [(2, .ptr 2 0), (3, .ptr 3 0), (4, .ptr 4 0)] [(2, some (.box (QZ x))), (3, some (.box (QZ y))), (4, some (.box [.d (.lit (.bool false)), .nil, .d (.lit (.bool false)), .nil]))] ⟨rfl, rfl, rfl, trivial⟩ ⟨rfl, rfl, rfl, trivial⟩ ?_
  refine a_draw tok mixed (A := [[], [], [], [], [0, 2], [], [], [], [], [0, 1, 2, 3, 5, 7], [0, 1, 2, 3, 5, 6, 7, 8], [], [], [], [], [0, 1, 2, 3, 4, 5, 6, 7, 8, 9, 11, 13], [0, 1, 2, 3, 4, 5, 6, 7, 8, 9, 11, 12, 13, 14], []]) (an := [{}, {}, {}, {}, {}, { c := [13] }, { c := [13] }, { c := [13] }, { c := [13] }, {}, {}, { c := [13, 18, 19] }, { c := [13, 18, 19] }, { c := [13, 18, 19] }, { c := [13, 18, 19] }, {}, {}, {}]) rfl (by kernel_rfl) rfl fun K hK => ?_
  refine s_fieldAddr rfl rfl rfl ?_
  refine s_load rfl rfl rfl ?_
  refine s_fieldAddr rfl rfl rfl ?_
  refine s_load rfl rfl rfl ?_
  refine s_call rfl rfl (iMulZ_c x.num y.den (by omega) (by omega)) rfl rfl rfl rfl ?_
  refine s_fieldAddr rfl rfl rfl ?_
  refine s_load rfl rfl rfl ?_
  refine s_fieldAddr rfl rfl rfl ?_
  refine s_load rfl rfl rfl ?_
  refine s_call rfl rfl (iMulZ_c y.num x.den (by omega) (by omega)) rfl rfl rfl rfl ?_
  refine s_call rfl rfl (iAddZ_c (x.num * y.den) (y.num * x.den) (by omega) (by omega)) rfl rfl rfl rfl ?_
  refine s_fieldAddr rfl rfl rfl ?_
  refine s_load rfl rfl rfl ?_
  refine s_fieldAddr rfl rfl rfl ?_
  refine s_load rfl rfl rfl ?_
  refine s_call rfl rfl (iMulZ_c x.den y.den (by omega) (by omega)) rfl rfl rfl rfl ?_
  refine s_call rfl rfl (qNewZ_c (x.num * y.den + y.num * x.den) ((x.den : Int) * y.den) (x + y) (by omega) (by omega) (divInt_add x y).symm) rfl rfl rfl rfl ?_
  refine s_store rfl rfl rfl rfl rfl ?_
  refine s_end (hK _ ?_); clear hK K
  refine AWP_ret ?_
  repeat (with_reducible refine tq_ret ?_)
  exact post_ret (fin_mk (by rfl) (by rfl) (by rfl))

theorem qSub_c (na nb nc nd : Bool) (wa wb wc wd : List Nat) (ha : wOK wa) (hb : wOK wb) (hc : wOK wc) (hd : wOK wd) (la : wa.length ≤ 16777216) (lb : wb.length ≤ 16777216) (lc : wc.length ≤ 16777215) (ld : wd.length ≤ 16777215) :
    Con Tryz.prog 81 [AG (QC na wa nb wb), AG (QC nc wc nd wd)] { v := AG (QZ (qv na wa nb wb - qv nc wc nd wd)) } := by
  have hy : ql (-(qv nc wc nd wd)) ≤ 16777216 := by
    rw [ql_neg]
    refine Nat.le_trans (ql_divInt _ _) ?_
    have h1 := wl_len hc
    have h2 := wl_len hd
    unfold zl wl; rw [zv_abs, zv_abs]; omega
  have h1 := ql_num (-(qv nc wc nd wd))
  have h2 := ql_den (-(qv nc wc nd wd))
  have hz : qv na wa nb wb + qv (decide ((-(qv nc wc nd wd)).num < 0)) (wof (-(qv nc wc nd wd)).num.natAbs) (decide (((-(qv nc wc nd wd)).den : Int) < 0)) (wof ((-(qv nc wc nd wd)).den : Int).natAbs) = qv na wa nb wb - qv nc wc nd wd := by
    rw [qv_QZ, Rat.sub_eq_add_neg]
  refine con_intro (fn := Tryz.f81) tok Tryz.func81 (by kernel_rfl) rfl ?_
  intro w0 X
  rw [entry_mkE _ _ [(0, AG (QC na wa nb wb)), (1, AG (QC nc wc nd wd))] rfl rfl]
  refine AWP_reg_seq tok fun K hK => ?_
  refine s_box rfl rfl rfl rfl rfl rfl ?_
  refine s_box rfl rfl rfl rfl rfl rfl ?_
  refine s_alloc rfl rfl rfl rfl rfl rfl ?_
  refine s_end (hK _ ?_); clear hK K
  refine a_draw tok mixed (A := [[], [], [], [1], []]) (an := [{}, {}, {}, {}, {}]) rfl (by kernel_rfl) rfl fun K hK => ?_
  refine s_load rfl rfl rfl ?_
  refine s_load rfl rfl rfl ?_
  refine s_call rfl rfl (qNeg_c nc nd wc wd hc hd (by omega) (by omega)) rfl rfl rfl rfl ?_
  refine s_call rfl rfl (hz ▸ qAdd_c na nb _ _ wa wb _ _ ha hb (wof_ok _) (wof_ok _) la lb (Nat.le_trans h1 hy) (Nat.le_trans h2 hy)) rfl rfl rfl rfl ?_
  refine s_store rfl rfl rfl rfl rfl ?_
  refine s_end (hK _ ?_); clear hK K
  refine AWP_ret ?_
  repeat (with_reducible refine tq_ret ?_)
  exact post_ret (fin_mk (by rfl) (by rfl) (by rfl))

theorem qMul_c (na nb nc nd : Bool) (wa wb wc wd : List Nat) (ha : wOK wa) (hb : wOK wb) (hc : wOK wc) (hd : wOK wd) (la : wa.length ≤ 16777216) (lb : wb.length ≤ 16777216) (lc : wc.length ≤ 16777216) (ld : wd.length ≤ 16777216) :
    Con Tryz.prog 50 [AG (QC na wa nb wb), AG (QC nc wc nd wd)] { v := AG (QZ (qv na wa nb wb * qv nc wc nd wd)) } := by
  have z1 : zl (zv na wa) ≤ 16777216 := by unfold zl; rw [zv_abs]; exact Nat.le_trans (wl_len ha) la
  have z2 : zl (zv nb wb) ≤ 16777216 := by unfold zl; rw [zv_abs]; exact Nat.le_trans (wl_len hb) lb
  have z3 : zl (zv nc wc) ≤ 16777216 := by unfold zl; rw [zv_abs]; exact Nat.le_trans (wl_len hc) lc
  have z4 : zl (zv nd wd) ≤ 16777216 := by unfold zl; rw [zv_abs]; exact Nat.le_trans (wl_len hd) ld
  have m1 := zl_mul (zv na wa) (zv nc wc)
  have m2 := zl_mul (zv nb wb) (zv nd wd)
  have hz : Rat.divInt (zv na wa * zv nc wc) (zv nb wb * zv nd wd) = qv na wa nb wb * qv nc wc nd wd := by unfold qv; rw [Rat.divInt_mul_divInt]
  refine con_intro (fn := Tryz.f50) tok Tryz.func50 (by kernel_rfl) rfl ?_
  intro w0 X
  rw [entry_mkE _ _ [(0, AG (QC na wa nb wb)), (1, AG (QC nc wc nd wd))] rfl rfl]
  refine AWP_reg_seq tok fun K hK => ?_
  refine s_box rfl rfl rfl rfl rfl rfl ?_
  refine s_box rfl rfl rfl rfl rfl rfl ?_
  refine s_alloc rfl rfl rfl rfl rfl rfl ?_
  refine s_end (hK _ ?_); clear hK K
  refine a_draw tok mixed (A := [[], [], [], [], [0, 2], [], [], [], [], [0, 1, 2, 3, 5, 7], [0, 1, 2, 3, 5, 6, 7, 8], []]) (an := [{}, {}, {}, {}, {}, { c := [9] }, { c := [9] }, { c := [9] }, { c := [9] }, {}, {}, {}]) rfl (by kernel_rfl) rfl fun K hK => ?_
  refine s_fieldAddr rfl rfl rfl ?_
  refine s_load rfl rfl rfl ?_
  refine s_fieldAddr rfl rfl rfl ?_
  refine s_load rfl rfl rfl ?_
  refine s_call rfl rfl (iMul_c na nc wa wc ha hc (by omega) (by omega)) rfl rfl rfl rfl ?_
  refine s_fieldAddr rfl rfl rfl ?_
  refine s_load rfl rfl rfl ?_
  refine s_fieldAddr rfl rfl rfl ?_
  refine s_load rfl rfl rfl ?_
  refine s_call rfl rfl (iMul_c nb nd wb wd hb hd (by omega) (by omega)) rfl rfl rfl rfl ?_
  refine s_call rfl rfl (qNewZ_c (zv na wa * zv nc wc) (zv nb wb * zv nd wd) _ (by omega) (by omega) hz) rfl rfl rfl rfl ?_
  refine s_store rfl rfl rfl rfl rfl ?_
  refine s_end (hK _ ?_); clear hK K
  refine AWP_ret ?_
  repeat (with_reducible refine tq_ret ?_)
  exact post_ret (fin_mk (by rfl) (by rfl) (by rfl))

theorem ql_qv {na nb : Bool} {wa wb : List Nat} {k : Nat} (ha : wOK wa) (hb : wOK wb) (la : wa.length ≤ k) (lb : wb.length ≤ k) (hk : 1 ≤ k) : ql (qv na wa nb wb) ≤ k := by
  refine Nat.le_trans (ql_divInt _ _) ?_
  have h1 := wl_len ha
  have h2 := wl_len hb
  unfold zl wl; rw [zv_abs, zv_abs]; omega
theorem qMul_q (x y : Rat) (na nb nc nd : Bool) (wa wb wc wd : List Nat) (ha : wOK wa) (hb : wOK wb) (hc : wOK wc) (hd : wOK wd) (la : wa.length ≤ 16777216) (lb : wb.length ≤ 16777216) (lc : wc.length ≤ 16777216) (ld : wd.length ≤ 16777216)
    (hx : qv na wa nb wb = x) (hy : qv nc wc nd wd = y) :
    Con Tryz.prog 50 [AG (QC na wa nb wb), AG (QC nc wc nd wd)] { v := AG (QZ (x * y)) } := by
  subst hx hy
  exact qMul_c na nb nc nd wa wb wc wd ha hb hc hd la lb lc ld
theorem qMulZ_c (x y : Rat) (hx : ql x ≤ 16777216) (hy : ql y ≤ 16777216) : Con Tryz.prog 50 [AG (QZ x), AG (QZ y)] { v := AG (QZ (x * y)) } :=
  qMul_q x y _ _ _ _ _ _ _ _ (wof_ok _) (wof_ok _) (wof_ok _) (wof_ok _) (Nat.le_trans (ql_num x) hx) (Nat.le_trans (ql_den x) hx) (Nat.le_trans (ql_num y) hy) (Nat.le_trans (ql_den y) hy) (qv_QZ x) (qv_QZ y)
theorem qAdd_q (x y : Rat) (na nb nc nd : Bool) (wa wb wc wd : List Nat) (ha : wOK wa) (hb : wOK wb) (hc : wOK wc) (hd : wOK wd) (la : wa.length ≤ 16777216) (lb : wb.length ≤ 16777216) (lc : wc.length ≤ 16777216) (ld : wd.length ≤ 16777216)
    (hx : qv na wa nb wb = x) (hy : qv nc wc nd wd = y) :
    Con Tryz.prog 49 [AG (QC na wa nb wb), AG (QC nc wc nd wd)] { v := AG (QZ (x + y)) } := by
  subst hx hy
  exact qAdd_c na nb nc nd wa wb wc wd ha hb hc hd la lb lc ld
theorem qAddZ_c (x y : Rat) (hx : ql x ≤ 16777216) (hy : ql y ≤ 16777216) : Con Tryz.prog 49 [AG (QZ x), AG (QZ y)] { v := AG (QZ (x + y)) } :=
  qAdd_q x y _ _ _ _ _ _ _ _ (wof_ok _) (wof_ok _) (wof_ok _) (wof_ok _) (Nat.le_trans (ql_num x) hx) (Nat.le_trans (ql_den x) hx) (Nat.le_trans (ql_num y) hy) (Nat.le_trans (ql_den y) hy) (qv_QZ x) (qv_QZ y)
theorem qSub_q (x y : Rat) (na nb nc nd : Bool) (wa wb wc wd : List Nat) (ha : wOK wa) (hb : wOK wb) (hc : wOK wc) (hd : wOK wd) (la : wa.length ≤ 16777215) (lb : wb.length ≤ 16777215) (lc : wc.length ≤ 16777215) (ld : wd.length ≤ 16777215)
    (hx : qv na wa nb wb = x) (hy : qv nc wc nd wd = y) :
    Con Tryz.prog 81 [AG (QC na wa nb wb), AG (QC nc wc nd wd)] { v := AG (QZ (x - y)) } := by
  subst hx hy
  exact qSub_c na nb nc nd wa wb wc wd ha hb hc hd (by omega) (by omega) lc ld
theorem qSubZ_c (x y : Rat) (hx : ql x ≤ 16777215) (hy : ql y ≤ 16777215) : Con Tryz.prog 81 [AG (QZ x), AG (QZ y)] { v := AG (QZ (x - y)) } :=
  qSub_q x y _ _ _ _ _ _ _ _ (wof_ok _) (wof_ok _) (wof_ok _) (wof_ok _) (Nat.le_trans (ql_num x) hx) (Nat.le_trans (ql_den x) hx) (Nat.le_trans (ql_num y) hy) (Nat.le_trans (ql_den y) hy) (qv_QZ x) (qv_QZ y)
end Go.Proofs.YtcafppnjemgkiaaGreat

/- The reference's integers: words trimmed, compared, added, subtracted. No condition. -/
namespace Go.Proofs.YtcafppnjemgkiaaGreat
attribute [local irreducible] lexA

theorem r1trim_c (ws : List Nat) (hw : wOK ws) (hl : ws.length ≤ 1073741824) : Con Tryz.prog 71 [V1 (dW ws)] { v := V1 (dW (wof (wv ws))) } := by
  rw [← trimW_eq hw]
  refine con_intro (fn := Tryz.f71) tok Tryz.func71 (by kernel_rfl) rfl ?_
  intro w0 X
  rw [entry_mkE _ _ [(0, V1 (dW ws))] rfl rfl]
  refine AWP_reg_seq tok fun K hK => ?_
  refine s_assign rfl rfl rfl ?_
  refine s_end (hK _ ?_); clear hK K
  refine AWP_seq ?_
  refine AWP_block (a_loop (α := List Nat) (fun us => mk 23 [(0, V1 (dW us))] [] []) (fun us => us.length ≤ ws.length ∧ trimW us = trimW ws) List.length ws ?_ ⟨Nat.le_refl _, rfl⟩ ?_)
  · exact Wk.mk' ⟨rfl, trivial⟩ trivial
  rintro us ⟨hle, hus⟩
  refine AWP_seq ?_
  refine a_join (α := Bool) (fun c => mk 23 [(0, V1 (dW us)), (14, dB c)] [] []) (fun c => (c = true → ∃ vs, us = vs ++ [0]) ∧ (c = false → trimW us = us)) ?_ ?_
  · refine AWP_reg tok fun K hK => ?_
    refine s_move rfl rfl rfl ?_
    refine s_blt rfl (len_w rfl rfl rfl) rfl ?_
    refine s_bin rfl rfl rfl ?_
    refine s_move rfl rfl rfl ?_
    refine s_split (fun hb => ?_) (fun hb => ?_)
    · rcases List.eq_nil_or_concat us with rfl | ⟨vs, x, rfl⟩
      · simp at hb
      rw [List.concat_eq_append] at *
      simp only [List.length_append, List.length_singleton] at *
      refine s_move rfl rfl rfl ?_
      refine s_move rfl rfl rfl ?_
      refine s_blt rfl (len_w rfl rfl (List.length_append)) rfl ?_
      refine s_bin rfl (e_sub (c := (vs.length : Int)) (by simp) (by omega)) rfl ?_
      refine s_indexAddr rfl (x_w (i := vs.length) rfl rfl rfl rfl rfl (by simp)) rfl ?_
      refine s_load rfl rfl rfl ?_
      refine s_bin rfl rfl rfl ?_
      refine s_pick rfl rfl rfl ?_
      refine s_end (hK _ ?_); clear hK K
      refine ⟨_, ⟨fun h => ?_, fun h => ?_⟩, Wk.mk' ⟨rfl, rfl, trivial⟩ trivial⟩
      · have hx : x = 0 := by simpa using h
        exact ⟨vs, by rw [hx]⟩
      · have hx : x ≠ 0 := by simpa using h
        exact trimW_snoc _ hx
    · have hu : us = [] := by simpa using hb
      subst hu
      refine s_skip rfl ?_
      refine s_skip rfl ?_
      refine s_skip rfl ?_
      refine s_skip rfl ?_
      refine s_skip rfl ?_
      refine s_skip rfl ?_
      refine s_skip rfl ?_
      refine s_pick rfl rfl rfl ?_
      refine s_end (hK _ ?_); clear hK K
      exact ⟨false, ⟨fun h => (by cases h), fun _ => rfl⟩, Wk.mk' ⟨rfl, rfl, trivial⟩ trivial⟩
  rintro c ⟨h1, h2⟩
  refine a_cond rfl (fun hc => ?_) (fun hc => ?_)
  · obtain ⟨vs, rfl⟩ := h1 hc
    simp only [List.length_append, List.length_singleton] at *
    refine AWP_skip ?_
    show AWP _ _ _ _ _ _
    refine AWP_block ?_
    refine AWP_reg tok fun K hK => ?_
    refine s_move rfl rfl rfl ?_
    refine s_move rfl rfl rfl ?_
    refine s_blt rfl (len_w rfl rfl (List.length_append)) rfl ?_
    refine s_bin rfl (e_sub (c := (vs.length : Int)) (by simp) (by omega)) rfl ?_
    refine s_slice rfl rfl rfl (sl_w (lo := 0) (hi := vs.length) rfl rfl rfl rfl rfl rfl (by omega) (by simp)) rfl ?_
    refine s_assign rfl rfl rfl ?_
    refine s_end (hK _ ?_); clear hK K
    exact ⟨vs, by simp, ⟨by omega, by rw [← hus, trimW_snoc0]⟩, Wk.mk' ⟨by show V1 _ = _; simp, trivial⟩ trivial⟩
  · have h2 := h2 hc
    refine AWP_exit ?_
    show AWP _ _ _ _ _ _
    refine AWP_reg_seq tok fun K hK => ?_
    refine s_buildSlice rfl rfl rfl rfl ?_
    refine s_move rfl rfl rfl ?_
    refine s_append rfl (ap_o (es := []) rfl rfl rfl rfl rfl rfl (by decide) (Nat.le_of_ble_eq_true rfl) rfl cW_len rfl rfl rfl (by simp; omega)) rfl rfl ?_
    refine s_assign rfl rfl rfl ?_
    refine s_end (hK _ ?_); clear hK K
    refine a_fz [2] [22] 22 [(2, V1 (dW us))] [] rfl ?_ trivial ?_
    · exact ⟨frz_w (by simp) (by simp), trivial⟩
    refine AWP_ret ?_
    repeat (with_reducible refine tq_ret ?_)
    exact post_ret (fin_mk (by rfl) (by rfl) (by rw [← hus, h2]; rfl))

theorem r1Norm_c (n : Bool) (w : List Nat) (hw : wOK w) (hl : w.length ≤ 1073741824) : Con Tryz.prog 72 [AG (IC n w)] { v := AG (ZC (zv n w)) } := by
  have hz : ZC (zv n w) = IC (n && decide (wv w ≠ 0)) (wof (wv w)) := by rw [made_eq hw, trimW_eq hw]
  have h0 : decide (((wof (wv w)).length : Int) > 0) = decide (wv w ≠ 0) := by
    have := wof_nil (n := wv w)
    by_cases h : wv w = 0
    · rw [h]; rfl
    · have h1 : wof (wv w) ≠ [] := fun h' => h (this.1 h')
      have h2 := List.length_pos_iff.2 h1
      simp [h]; omega
  refine con_intro (fn := Tryz.f72) tok Tryz.func72 (by kernel_rfl) rfl ?_
  intro w0 X
  rw [entry_mkE _ _ [(0, AG (IC n w))] rfl rfl]
  refine AWP_reg_seq tok fun K hK => ?_
  refine s_box rfl rfl rfl rfl rfl rfl ?_
  refine s_alloc rfl rfl rfl rfl rfl rfl ?_
  refine s_end (hK _ ?_); clear hK K
  refine AWP_reg_seq tok fun K hK => ?_
  refine s_fieldAddr rfl rfl rfl ?_
  refine s_load rfl rfl rfl ?_
  refine s_call rfl rfl (r1trim_c w hw hl) rfl rfl rfl rfl ?_
  refine s_assign rfl rfl rfl ?_
  refine s_end (hK _ ?_); clear hK K
  refine AWP_reg_seq tok fun K hK => ?_
  refine s_fieldAddr rfl rfl rfl ?_
  refine s_load rfl rfl rfl ?_
  refine s_move rfl rfl rfl ?_
  refine s_split (fun hn => ?_) (fun hn => ?_)
  · have hn : n = true := hn
    subst hn
    refine s_move rfl rfl rfl ?_
    refine s_blt rfl (len_w rfl rfl rfl) rfl ?_
    refine s_bin rfl rfl rfl ?_
    refine s_pick rfl rfl rfl ?_
    refine s_move rfl rfl rfl ?_
    refine s_build rfl rfl rfl ?_
    refine s_store rfl rfl rfl rfl rfl ?_
    refine s_end (hK _ ?_); clear hK K
    refine AWP_ret ?_
    repeat (with_reducible refine tq_ret ?_)
    exact post_ret (fin_mk (by rfl) (by rfl) (by rw [hz, Bool.true_and, ← h0]; rfl))
  · have hn : n = false := hn
    subst hn
    refine s_skip rfl ?_
    refine s_skip rfl ?_
    refine s_skip rfl ?_
    refine s_pick rfl rfl rfl ?_
    refine s_move rfl rfl rfl ?_
    refine s_build rfl rfl rfl ?_
    refine s_store rfl rfl rfl rfl rfl ?_
    refine s_end (hK _ ?_); clear hK K
    refine AWP_ret ?_
    repeat (with_reducible refine tq_ret ?_)
    exact post_ret (fin_mk (by rfl) (by rfl) (by rw [hz, Bool.false_and]; rfl))

theorem r1Of_c (n : Int) (hn : I64 n) : Con Tryz.prog 55 [dI n] { v := AG (ZC n) } := by
  unfold I64 at hn
  refine con_intro (fn := Tryz.f55) tok Tryz.func55 (by kernel_rfl) rfl ?_
  intro w0 X
  rw [entry_mkE _ _ [(0, dI n)] rfl rfl]
  refine AWP_reg_seq tok fun K hK => ?_
  refine s_alloc rfl rfl rfl rfl rfl rfl ?_
  refine s_end (hK _ ?_); clear hK K
  refine AWP_reg_seq tok fun K hK => ?_
  refine s_move rfl rfl rfl ?_
  refine s_conv rfl (e_conv (m := ((n % 18446744073709551616).toNat : Int)) rfl rfl rfl (by rw [w_u64]; omega)) rfl ?_
  refine s_assign rfl rfl rfl ?_
  refine s_end (hK _ ?_); clear hK K
  refine a_join (α := Unit) (fun _ => mk 20 [(0, dI n), (2, .ptr 2 0), (3, dL n.natAbs)] [(2, some (.box [.d (.lit (.bool false)), .nil]))] []) (fun _ => True) ?_ ?_
  · refine AWP_reg_seq tok fun K hK => ?_
    refine s_move rfl rfl rfl ?_
    refine s_bin rfl rfl rfl ?_
    refine s_end (hK _ ?_); clear hK K
    refine a_cond rfl (fun hc => ?_) (fun hc => ?_)
    · have hc : n < 0 := by simpa using hc
      refine AWP_reg tok fun K hK => ?_
      refine s_move rfl rfl rfl ?_
      refine s_un rfl rfl rfl ?_
      refine s_assign rfl rfl rfl ?_
      refine s_end (hK _ ?_); clear hK K
      refine ⟨(), trivial, Wk.mk' ⟨rfl, rfl, ?_, trivial⟩ ⟨rfl, trivial⟩⟩
      show V1 (.lit (.int .u64 (IntKind.u64.wrap (0 - ((n % 18446744073709551616).toNat : Int))))) = _
      rw [w_u64]
      have : (0 - ((n % 18446744073709551616).toNat : Int)) % 18446744073709551616 = (n.natAbs : Int) := by omega
      rw [this]
    · have hc : ¬ n < 0 := by simpa using hc
      refine AWP_skip ?_
      refine ⟨(), trivial, Wk.mk' ⟨rfl, rfl, ?_, trivial⟩ ⟨rfl, trivial⟩⟩
      show dL _ = dL _
      have : (n % 18446744073709551616).toNat = n.natAbs := by omega
      rw [this]
  rintro - -
  have hd : n.natAbs / 2 ^ 32 % 4294967296 = n.natAbs / 4294967296 := by show n.natAbs / 4294967296 % 4294967296 = _; omega
  have hv : zv (decide (n < 0)) [n.natAbs % 4294967296, n.natAbs / 2 ^ 32 % 4294967296] = n := by unfold zv; simp only [wv, hd]; by_cases h : n < 0 <;> simp [h] <;> omega
  refine AWP_regW_seq fun K hK => ?_
  refine w_step tok rfl ?_
  refine s_move rfl rfl rfl ?_
  refine s_end ?_
  refine w_step tok rfl ?_
  refine s_bin rfl rfl rfl ?_
  refine s_end ?_
  refine w_step tok rfl ?_
  refine s_move rfl rfl rfl ?_
  refine s_end ?_
  refine w_step tok rfl ?_
  refine s_conv rfl (e_conv rfl rfl rfl (wrapU _)) rfl ?_
  refine s_end ?_
  refine w_step tok rfl ?_
  refine s_move rfl rfl rfl ?_
  refine s_end ?_
  refine w_step tok rfl ?_
  refine s_bin rfl (e_shrL (s := 32) (by omega) rfl) rfl ?_
  refine s_end ?_
  refine w_step tok rfl ?_
  refine s_conv rfl (e_conv rfl rfl rfl (wrapU _)) rfl ?_
  refine s_end ?_
  refine w_step tok rfl ?_
  refine s_buildSlice rfl rfl rfl rfl ?_
  refine s_end ?_
  refine w_wk (Wk.fzNew rfl rfl rfl) ?_
  refine w_step tok rfl ?_
  refine s_build rfl rfl rfl ?_
  refine s_end ?_
  refine w_step tok rfl ?_
  refine s_call rfl rfl (r1Norm_c (decide (n < 0)) [n.natAbs % 4294967296, n.natAbs / 2 ^ 32 % 4294967296] (fun x hx => by simp at hx; omega) (by simp)) rfl rfl rfl rfl ?_
  refine s_end ?_
  refine w_step tok rfl ?_
  refine s_store rfl rfl rfl rfl rfl ?_
  refine s_end ?_
  refine w_end rfl (hK _ ?_); clear hK K
  refine AWP_ret ?_
  repeat (with_reducible refine tq_ret ?_)
  exact post_ret (fin_mk (by rfl) (by rfl) (by rw [hv]; rfl))

theorem r1cmp_c (a b : List Nat) (ha : wOK a) (hb : wOK b) (ta : wTop a) (tb : wTop b) (la : a.length ≤ 1073741824) (lb : b.length ≤ 1073741824) :
    Con Tryz.prog 91 [V1 (dW a), V1 (dW b)] { v := dI (ncmp (wv a) (wv b)) } := by
  refine con_intro (fn := Tryz.f91) tok Tryz.func91 (by kernel_rfl) rfl ?_
  intro w0 X
  rw [entry_mkE _ _ [(0, V1 (dW a)), (1, V1 (dW b))] rfl rfl]
  refine AWP_reg_seq tok fun K hK => ?_
  refine s_assign rfl rfl rfl ?_
  refine s_end (hK _ ?_); clear hK K
  refine AWP_seq ?_
  refine AWP_reg_seq tok fun K hK => ?_
  refine s_move rfl rfl rfl ?_
  refine s_blt rfl (len_w rfl rfl rfl) rfl ?_
  refine s_move rfl rfl rfl ?_
  refine s_blt rfl (len_w rfl rfl rfl) rfl ?_
  refine s_bin rfl rfl rfl ?_
  refine s_end (hK _ ?_); clear hK K
  refine a_cond rfl (fun hc => ?_) (fun hc => ?_)
  · have hc : a.length ≠ b.length := by simp at hc; omega
    refine AWP_seq ?_
    refine AWP_reg_seq tok fun K hK => ?_
    refine s_move rfl rfl rfl ?_
    refine s_blt rfl (len_w rfl rfl rfl) rfl ?_
    refine s_move rfl rfl rfl ?_
    refine s_blt rfl (len_w rfl rfl rfl) rfl ?_
    refine s_bin rfl rfl rfl ?_
    refine s_end (hK _ ?_); clear hK K
    refine a_cond rfl (fun hd => ?_) (fun hd => ?_)
    · have hd : a.length < b.length := by simp at hd; omega
      refine AWP_reg_seq tok fun K hK => ?_
      refine s_assign rfl rfl rfl ?_
      refine s_end (hK _ ?_); clear hK K
      refine AWP_ret ?_
      repeat (with_reducible refine tq_ret ?_)
      exact post_ret (fin_mk (by rfl) (by rfl) (by have := wv_len_lt ha tb hd; unfold ncmp; rw [if_pos this]; rfl))
    · have hd : b.length < a.length := by simp at hd; omega
      refine AWP_skip ?_
      show AWP _ _ _ _ _ _
      refine AWP_reg_seq tok fun K hK => ?_
      refine s_assign rfl rfl rfl ?_
      refine s_end (hK _ ?_); clear hK K
      refine AWP_ret ?_
      repeat (with_reducible refine tq_ret ?_)
      exact post_ret (fin_mk (by rfl) (by rfl) (by have := wv_len_lt hb ta hd; unfold ncmp; rw [if_neg (by omega), if_pos this]; rfl))
  have hc : a.length = b.length := by simp at hc; omega
  refine AWP_skip ?_
  show AWP _ _ _ _ _ _
  refine AWP_seq ?_
  refine AWP_reg_seq tok fun K hK => ?_
  refine s_move rfl rfl rfl ?_
  refine s_blt rfl (len_w rfl rfl rfl) rfl ?_
  refine s_bin rfl (e_sub rfl (by omega)) rfl ?_
  refine s_assign rfl rfl rfl ?_
  refine s_end (hK _ ?_); clear hK K
  refine AWP_block (a_loop (α := Nat) (fun k => mk 41 [(0, V1 (dW a)), (1, V1 (dW b)), (5, dI ((k : Int) - 1))] [] []) (fun k => k ≤ a.length ∧ a.drop k = b.drop k) (fun k => k) a.length ?_ ⟨Nat.le_refl _, by simp [hc]⟩ ?_)
  · exact Wk.mk' ⟨rfl, rfl, rfl, trivial⟩ trivial
  rintro k ⟨hk, hdr⟩
  refine AWP_seq ?_
  refine AWP_reg_seq tok fun K hK => ?_
  refine s_move rfl rfl rfl ?_
  refine s_bin rfl rfl rfl ?_
  refine s_end (hK _ ?_); clear hK K
  refine a_cond rfl (fun hg => ?_) (fun hg => ?_)
  · obtain ⟨j, rfl⟩ : ∃ j, k = j + 1 := ⟨k - 1, by simp at hg; omega⟩
    refine AWP_skip ?_
    show AWP _ _ _ _ _ _
    refine AWP_seq ?_
    refine AWP_block ?_
    have hja : j < a.length := by omega
    have hjb : j < b.length := by omega
    refine AWP_seq ?_
    refine a_keep [(0, V1 (dW a)), (1, V1 (dW b)), (5, dI j)] [] ⟨rfl, rfl, by exact dI_eq (by omega), trivial⟩ trivial ?_
    refine a_draw tok mixed (A := [[], [], [], [0, 1], [], [], [], [4, 5], [0, 1, 2, 4, 5, 6]]) (an := [{}, {}, {}, {}, {}, {}, {}, {}, {}]) rfl (by kernel_rfl) rfl fun K hK => ?_
    refine s_move rfl rfl rfl ?_
    refine s_move rfl rfl rfl ?_
    refine s_indexAddr rfl (x_w (i := j) rfl rfl rfl rfl rfl hja) rfl ?_
    refine s_load rfl rfl rfl ?_
    refine s_move rfl rfl rfl ?_
    refine s_move rfl rfl rfl ?_
    refine s_indexAddr rfl (x_w (i := j) rfl rfl rfl rfl rfl hjb) rfl ?_
    refine s_load rfl rfl rfl ?_
    refine s_bin rfl rfl rfl ?_
    refine s_end (hK _ ?_); clear hK K
    refine a_cond rfl (fun hl => ?_) (fun hl => ?_)
    · have hl : a[j] < b[j] := by simp at hl; omega
      refine AWP_reg_seq tok fun K hK => ?_
      refine s_assign rfl rfl rfl ?_
      refine s_end (hK _ ?_); clear hK K
      refine AWP_ret ?_
      repeat (with_reducible refine tq_ret ?_)
      exact post_ret (fin_mk (by rfl) (by rfl) (by have := wv_less ha hc (by omega) hdr hl; unfold ncmp; rw [if_pos this]; rfl))
    have hl : b[j] ≤ a[j] := by simp at hl; omega
    refine AWP_skip ?_
    show AWP _ _ _ _ _ _
    refine a_keep [(0, V1 (dW a)), (1, V1 (dW b)), (5, dI j)] [] ⟨rfl, rfl, rfl, trivial⟩ trivial ?_
    refine a_draw tok mixed (A := [[], [], [], [0, 1], [], [], [], [4, 5], [0, 1, 2, 4, 5, 6]]) (an := [{}, {}, {}, {}, {}, {}, {}, {}, {}]) rfl (by kernel_rfl) rfl fun K hK => ?_
    refine s_move rfl rfl rfl ?_
    refine s_move rfl rfl rfl ?_
    refine s_indexAddr rfl (x_w (i := j) rfl rfl rfl rfl rfl hja) rfl ?_
    refine s_load rfl rfl rfl ?_
    refine s_move rfl rfl rfl ?_
    refine s_move rfl rfl rfl ?_
    refine s_indexAddr rfl (x_w (i := j) rfl rfl rfl rfl rfl hjb) rfl ?_
    refine s_load rfl rfl rfl ?_
    refine s_bin rfl rfl rfl ?_
    refine s_end (hK _ ?_); clear hK K
    refine a_cond rfl (fun hm => ?_) (fun hm => ?_)
    · have hm : b[j] < a[j] := by simp at hm; omega
      refine AWP_reg_seq tok fun K hK => ?_
      refine s_assign rfl rfl rfl ?_
      refine s_end (hK _ ?_); clear hK K
      refine AWP_ret ?_
      repeat (with_reducible refine tq_ret ?_)
      exact post_ret (fin_mk (by rfl) (by rfl) (by have := wv_less hb hc.symm (by omega) hdr.symm hm; unfold ncmp; rw [if_neg (by omega), if_pos this]; rfl))
    have hn : a[j] = b[j] := by simp at hm; omega
    refine AWP_skip ?_
    show AWP _ _ _ _ _ _
    refine AWP_reg tok fun K hK => ?_
    refine s_move rfl rfl rfl ?_
    refine s_bin rfl (e_sub (c := (j : Int) - 1) (by omega) (by omega)) rfl ?_
    refine s_assign rfl rfl rfl ?_
    refine s_end (hK _ ?_); clear hK K
    exact ⟨j, by omega, ⟨by omega, by rw [List.drop_eq_getElem_cons hja, List.drop_eq_getElem_cons hjb, hn, hdr]⟩, Wk.mk' ⟨rfl, rfl, rfl, trivial⟩ trivial⟩
  · have hk0 : k = 0 := by simp at hg; omega
    subst hk0
    refine AWP_exit ?_
    show AWP _ _ _ _ _ _
    refine AWP_reg_seq tok fun K hK => ?_
    refine s_assign rfl rfl rfl ?_
    refine s_end (hK _ ?_); clear hK K
    have : a = b := by simpa using hdr
    refine AWP_ret ?_
    repeat (with_reducible refine tq_ret ?_)
    exact post_ret (fin_mk (by rfl) (by rfl) (by subst this; unfold ncmp; rw [if_neg (by omega), if_neg (by omega)]; rfl))

theorem sumN_end {x y : List Nat} (hx : wOK x) (hy : wOK y) {i : Nat} (hi : max x.length y.length + 1 ≤ i) : sumN x y i / 4294967296 ^ i = 0 := by
  have h1 : sumN x y i = wv x + wv y := by unfold sumN; rw [List.take_of_length_le (by omega), List.take_of_length_le (by omega)]
  have h2 := plus_lt hx hy
  have h3 : 4294967296 ^ (max x.length y.length + 1) ≤ 4294967296 ^ i := Nat.pow_le_pow_right (by decide) hi
  rw [h1]; exact Nat.div_eq_of_lt (by omega)

theorem r1add_c (a b : List Nat) (ha : wOK a) (hb : wOK b) (la : a.length ≤ 1073741800) (lb : b.length ≤ 1073741800) :
    Con Tryz.prog 90 [V1 (dW a), V1 (dW b)] { v := V1 (dW (wof (wv a + wv b))) } := by
  refine con_intro (fn := Tryz.f90) tok Tryz.func90 (by kernel_rfl) rfl ?_
  intro w0 X
  rw [entry_mkE _ _ [(0, V1 (dW a)), (1, V1 (dW b))] rfl rfl]
  refine AWP_reg_seq tok fun K hK => ?_
  refine s_assign rfl rfl rfl ?_
  refine s_end (hK _ ?_); clear hK K
  refine AWP_reg_seq tok fun K hK => ?_
  refine s_assign rfl rfl rfl ?_
  refine s_end (hK _ ?_); clear hK K
  refine AWP_reg_seq tok fun K hK => ?_
  refine s_assign rfl rfl rfl ?_
  refine s_end (hK _ ?_); clear hK K
  refine AWP_seq ?_
  refine AWP_reg_seq tok fun K hK => ?_
  refine s_assign rfl rfl rfl ?_
  refine s_end (hK _ ?_); clear hK K
  refine AWP_block (a_loop (α := Nat) (fun i => mk 55 [(0, V1 (dW a)), (1, V1 (dW b)), (5, ownN 5 1 i), (6, dL (sumN a b i / 4294967296 ^ i)), (7, dI i)] [(5, arrN 1 ((wfix i (sumN a b i)).map cW) i)] []) (fun i => i ≤ max a.length b.length + 1) (fun i => max a.length b.length + 1 - i) 0 ?_ (Nat.zero_le _) ?_)
  · exact Wk.mk' ⟨rfl, rfl, rfl, by simp [sumN, wv]; rfl, rfl, trivial⟩ ⟨rfl, trivial⟩
  intro i hi
  have hcar := sumN_carry ha hb i
  refine AWP_seq ?_
  refine a_join (α := Bool) (fun c => mk 55 [(0, V1 (dW a)), (1, V1 (dW b)), (5, ownN 5 1 i), (6, dL (sumN a b i / 4294967296 ^ i)), (7, dI i), (21, dB c)] [(5, arrN 1 ((wfix i (sumN a b i)).map cW) i)] []) (fun c => (c = true → i ≤ max a.length b.length) ∧ (c = false → a.length ≤ i ∧ b.length ≤ i ∧ sumN a b i / 4294967296 ^ i = 0)) ?_ ?_
  · refine AWP_reg tok fun K hK => ?_
    refine s_move rfl rfl rfl ?_
    refine s_move rfl rfl rfl ?_
    refine s_blt rfl (len_w rfl rfl rfl) rfl ?_
    refine s_bin rfl rfl rfl ?_
    refine s_move rfl rfl rfl ?_
    refine s_split (fun hx => ?_) (fun hx => ?_)
    · have hx : i < a.length := by simp at hx; omega
      refine s_skip rfl ?_
      refine s_skip rfl ?_
      refine s_skip rfl ?_
      refine s_skip rfl ?_
      refine s_pick rfl rfl rfl ?_
      refine s_move rfl rfl rfl ?_
      refine s_skip rfl ?_
      refine s_skip rfl ?_
      refine s_pick rfl rfl rfl ?_
      refine s_end (hK _ ?_); clear hK K
      exact ⟨true, ⟨fun _ => by omega, fun h => (by cases h)⟩, Wk.mk' ⟨rfl, rfl, rfl, rfl, rfl, rfl, trivial⟩ ⟨rfl, trivial⟩⟩
    have hx : a.length ≤ i := by simp at hx; omega
    refine s_move rfl rfl rfl ?_
    refine s_move rfl rfl rfl ?_
    refine s_blt rfl (len_w rfl rfl rfl) rfl ?_
    refine s_bin rfl rfl rfl ?_
    refine s_pick rfl rfl rfl ?_
    refine s_move rfl rfl rfl ?_
    refine s_split (fun hy => ?_) (fun hy => ?_)
    · have hy : i < b.length := by simp at hy; omega
      refine s_skip rfl ?_
      refine s_skip rfl ?_
      refine s_pick rfl rfl rfl ?_
      refine s_end (hK _ ?_); clear hK K
      exact ⟨true, ⟨fun _ => by omega, fun h => (by cases h)⟩, Wk.mk' ⟨rfl, rfl, rfl, rfl, rfl, rfl, trivial⟩ ⟨rfl, trivial⟩⟩
    have hy : b.length ≤ i := by simp at hy; omega
    refine s_move rfl rfl rfl ?_
    refine s_bin rfl rfl rfl ?_
    refine s_pick rfl rfl rfl ?_
    refine s_end (hK _ ?_); clear hK K
    refine ⟨_, ⟨fun h => ?_, fun h => ?_⟩, Wk.mk' ⟨rfl, rfl, rfl, rfl, rfl, rfl, trivial⟩ ⟨rfl, trivial⟩⟩
    · rcases Nat.lt_or_ge (max a.length b.length) i with h' | h'
      · rw [sumN_end ha hb h'] at h; simp at h
      · exact h'
    · refine ⟨hx, hy, ?_⟩
      generalize sumN a b i / 4294967296 ^ i = q at *
      simp at h; omega
  rintro c ⟨h1, h2⟩
  refine a_cond rfl (fun hc => ?_) (fun hc => ?_)
  · have hi' := h1 hc
    have hax := getD_lt ha i
    have hbx := getD_lt hb i
    refine AWP_skip ?_
    show AWP _ _ _ _ _ _
    refine AWP_seq ?_
    refine AWP_block ?_
    refine a_join (α := Unit) (fun _ => mk 55 [(0, V1 (dW a)), (1, V1 (dW b)), (5, ownN 5 1 i), (6, dL (sumN a b i / 4294967296 ^ i + a.getD i 0)), (7, dI i)] [(5, arrN 1 ((wfix i (sumN a b i)).map cW) i)] []) (fun _ => True) ?_ ?_
    · refine AWP_reg_seq tok fun K hK => ?_
      refine s_move rfl rfl rfl ?_
      refine s_move rfl rfl rfl ?_
      refine s_blt rfl (len_w rfl rfl rfl) rfl ?_
      refine s_bin rfl rfl rfl ?_
      refine s_end (hK _ ?_); clear hK K
      refine a_cond rfl (fun hx => ?_) (fun hx => ?_)
      · have hx : i < a.length := by simp at hx; omega
        refine AWP_reg tok fun K hK => ?_
        refine s_move rfl rfl rfl ?_
        refine s_move rfl rfl rfl ?_
        refine s_move rfl rfl rfl ?_
        refine s_indexAddr rfl (x_wD (i := i) rfl rfl rfl rfl rfl hx) rfl ?_
        refine s_load rfl rfl rfl ?_
        refine s_conv rfl (e_conv rfl rfl rfl (wrapL (ha.lt64 i))) rfl ?_
        refine s_bin rfl (e_addL rfl (by omega)) rfl ?_
        refine s_assign rfl rfl rfl ?_
        refine s_end (hK _ ?_); clear hK K
        exact ⟨(), trivial, Wk.mk' ⟨rfl, rfl, rfl, rfl, rfl, trivial⟩ ⟨rfl, trivial⟩⟩
      · have hx : a.length ≤ i := by simp at hx; omega
        refine AWP_skip ?_
        exact ⟨(), trivial, Wk.mk' ⟨rfl, rfl, rfl, by rw [getD_end hx]; rfl, rfl, trivial⟩ ⟨rfl, trivial⟩⟩
    rintro - -
    show AWP _ _ _ _ _ (mk 55 [(0, V1 (dW a)), (1, V1 (dW b)), (5, ownN 5 1 i), (6, dL (sumN a b i / 4294967296 ^ i + a.getD i 0)), (7, dI i)] [(5, arrN 1 ((wfix i (sumN a b i)).map cW) i)] [])
    refine a_join (α := Unit) (fun _ => mk 55 [(0, V1 (dW a)), (1, V1 (dW b)), (5, ownN 5 1 i), (6, dL (sumN a b (i + 1) / 4294967296 ^ i)), (7, dI i)] [(5, arrN 1 ((wfix i (sumN a b i)).map cW) i)] []) (fun _ => True) ?_ ?_
    · have e1 : sumN a b i / 4294967296 ^ i + a.getD i 0 + b.getD i 0 = sumN a b (i + 1) / 4294967296 ^ i := by rw [sumN_step]; omega
      refine AWP_reg_seq tok fun K hK => ?_
      refine s_move rfl rfl rfl ?_
      refine s_move rfl rfl rfl ?_
      refine s_blt rfl (len_w rfl rfl rfl) rfl ?_
      refine s_bin rfl rfl rfl ?_
      refine s_end (hK _ ?_); clear hK K
      refine a_cond rfl (fun hx => ?_) (fun hx => ?_)
      · have hx : i < b.length := by simp at hx; omega
        refine AWP_reg tok fun K hK => ?_
        refine s_move rfl rfl rfl ?_
        refine s_move rfl rfl rfl ?_
        refine s_move rfl rfl rfl ?_
        refine s_indexAddr rfl (x_wD (i := i) rfl rfl rfl rfl rfl hx) rfl ?_
        refine s_load rfl rfl rfl ?_
        refine s_conv rfl (e_conv rfl rfl rfl (wrapL (hb.lt64 i))) rfl ?_
        refine s_bin rfl (e_addL e1 (by omega)) rfl ?_
        refine s_assign rfl rfl rfl ?_
        refine s_end (hK _ ?_); clear hK K
        exact ⟨(), trivial, Wk.mk' ⟨rfl, rfl, rfl, rfl, rfl, trivial⟩ ⟨rfl, trivial⟩⟩
      · have hx : b.length ≤ i := by simp at hx; omega
        rw [getD_end hx, Nat.add_zero] at e1
        refine AWP_skip ?_
        exact ⟨(), trivial, Wk.mk' ⟨rfl, rfl, rfl, by rw [← e1]; rfl, rfl, trivial⟩ ⟨rfl, trivial⟩⟩
    rintro - -
    show AWP _ _ _ _ _ (mk 55 [(0, V1 (dW a)), (1, V1 (dW b)), (5, ownN 5 1 i), (6, dL (sumN a b (i + 1) / 4294967296 ^ i)), (7, dI i)] [(5, arrN 1 ((wfix i (sumN a b i)).map cW) i)] [])
    have e2 : (wfix i (sumN a b i)).map cW ++ [[.lit (.int .u32 ((sumN a b (i + 1) / 4294967296 ^ i % 4294967296 : Nat) : Int))]] = (wfix (i + 1) (sumN a b (i + 1))).map cW := by
      rw [wfix_snoc, sumN_succ, wfix_add, ← sumN_succ]; simp [cW]
    have hsl : sumN a b (i + 1) / 4294967296 ^ i < 18446744073709551616 := by rw [sumN_step]; omega
    refine a_join (α := Unit) (fun _ => mk 55 [(0, V1 (dW a)), (1, V1 (dW b)), (5, .val (.one (.own 50 1 0 (i + 1)))), (6, dL (sumN a b (i + 1) / 4294967296 ^ i)), (7, dI i)] [(50, some (.arr 1 ((wfix (i + 1) (sumN a b (i + 1))).map cW)))] []) (fun _ => True) ?_ ?_
    · rcases i with _ | i
      · refine AWP_reg tok fun K hK => ?_
        refine s_move rfl rfl rfl ?_
        refine s_move rfl rfl rfl ?_
        refine s_conv rfl (e_conv rfl rfl rfl (wrapU _)) rfl ?_
        refine s_buildSlice rfl rfl rfl rfl ?_
        refine s_append rfl (ap_nil rfl rfl rfl rfl rfl (by decide) (Nat.le_of_ble_eq_true rfl) rfl (by simp) rfl (by simp) (by simp)) rfl rfl ?_
        refine s_assign rfl rfl rfl ?_
        refine s_end (hK _ ?_); clear hK K
        exact ⟨(), trivial, Wk.mk' ⟨rfl, rfl, rfl, rfl, rfl, trivial⟩ ⟨by rw [← e2]; rfl, trivial⟩⟩
      · refine AWP_reg tok fun K hK => ?_
        refine s_move rfl rfl rfl ?_
        refine s_move rfl rfl rfl ?_
        refine s_conv rfl (e_conv rfl rfl rfl (wrapU _)) rfl ?_
        refine s_buildSlice rfl rfl rfl rfl ?_
        refine s_append rfl (ap_o rfl rfl rfl rfl rfl rfl (by decide) (Nat.le_of_ble_eq_true rfl) rfl (by simp) rfl rfl (by simp [wfix_length]) (by simp; omega)) rfl rfl ?_
        refine s_assign rfl rfl rfl ?_
        refine s_end (hK _ ?_); clear hK K
        refine ⟨(), trivial, Wk.mk' ⟨rfl, rfl, ?_, rfl, rfl, trivial⟩ ⟨by rw [← e2]; rfl, trivial⟩⟩
        show SV.val (.one (.own 50 1 0 _)) = _
        simp [wfix_length]
    rintro - -
    refine AWP_reg tok fun K hK => ?_
    refine s_move rfl rfl rfl ?_
    refine s_bin rfl (e_shrL (s := 32) (by omega) rfl) rfl ?_
    refine s_assign rfl rfl rfl ?_
    refine s_end (hK _ ?_); clear hK K
    show AWP _ _ _ _ _ _
    refine AWP_reg tok fun K hK => ?_
    refine s_move rfl rfl rfl ?_
    refine s_bin rfl (e_add (c := ((i + 1 : Nat) : Int)) (by omega) (by omega)) rfl ?_
    refine s_assign rfl rfl rfl ?_
    refine s_end (hK _ ?_); clear hK K
    refine ⟨i + 1, by omega, by omega, Wk.rn [0, 1, 5, 6, 7] [50] 50 5 rfl rfl rfl ⟨rfl, rfl, rfl, ?_, rfl, trivial⟩ ⟨rfl, trivial⟩⟩
    show dL _ = dL _
    rw [Nat.div_div_eq_div_mul, show (2 : Nat) ^ 32 = 4294967296 from rfl, ← Nat.pow_succ]
  · obtain ⟨hx, hy, hz⟩ := h2 hc
    have hs : sumN a b i = wv a + wv b := by unfold sumN; rw [List.take_of_length_le hx, List.take_of_length_le hy]
    have hlt : wv a + wv b < 4294967296 ^ i := by
      rw [hs] at hz
      rcases Nat.lt_or_ge (wv a + wv b) (4294967296 ^ i) with h' | h'
      · exact h'
      · have := Nat.div_pos h' (pow_pos i); omega
    have hw : wv (wfix i (sumN a b i)) = wv a + wv b := by rw [wv_wfix, hs, Nat.mod_eq_of_lt hlt]
    refine AWP_exit ?_
    show AWP _ _ _ _ _ _
    rcases i with _ | i
    · have h0 : wv a + wv b = 0 := by simpa using hlt
      refine AWP_reg_seq tok fun K hK => ?_
      refine s_move rfl rfl rfl ?_
      refine s_call rfl rfl (r1trim_c [] wOK.nil (by simp)) rfl rfl rfl rfl ?_
      refine s_assign rfl rfl rfl ?_
      refine s_end (hK _ ?_); clear hK K
      refine AWP_ret ?_
      repeat (with_reducible refine tq_ret ?_)
      exact post_ret (fin_mk (by rfl) (by rfl) (by rw [h0]; rfl))
    · refine a_fz [5] [5] 5 [(5, V1 (dW (wfix (i + 1) (sumN a b (i + 1)))))] [] rfl ?_ trivial ?_
      · exact ⟨frz_w rfl (by simp [wfix_length]), trivial⟩
      refine AWP_reg_seq tok fun K hK => ?_
      refine s_move rfl rfl rfl ?_
      refine s_call rfl rfl (r1trim_c _ (wfix_ok _ _) (by rw [wfix_length]; omega)) rfl rfl rfl rfl ?_
      refine s_assign rfl rfl rfl ?_
      refine s_end (hK _ ?_); clear hK K
      refine AWP_ret ?_
      repeat (with_reducible refine tq_ret ?_)
      exact post_ret (fin_mk (by rfl) (by rfl) (by rw [hw]; rfl))

theorem r1sub_c (a b : List Nat) (ha : wOK a) (hb : wOK b) (la : a.length ≤ 1073741800) (hl : b.length ≤ a.length) (hle : wv b ≤ wv a) :
    Con Tryz.prog 92 [V1 (dW a), V1 (dW b)] { v := V1 (dW (wof (wv a - wv b))) } := by
  refine con_intro (fn := Tryz.f92) tok Tryz.func92 (by kernel_rfl) rfl ?_
  intro w0 X
  rw [entry_mkE _ _ [(0, V1 (dW a)), (1, V1 (dW b))] rfl rfl]
  refine AWP_reg_seq tok fun K hK => ?_
  refine s_assign rfl rfl rfl ?_
  refine s_end (hK _ ?_); clear hK K
  refine AWP_reg_seq tok fun K hK => ?_
  refine s_assign rfl rfl rfl ?_
  refine s_end (hK _ ?_); clear hK K
  refine AWP_reg_seq tok fun K hK => ?_
  refine s_assign rfl rfl rfl ?_
  refine s_end (hK _ ?_); clear hK K
  refine AWP_seq ?_
  refine AWP_reg_seq tok fun K hK => ?_
  refine s_assign rfl rfl rfl ?_
  refine s_end (hK _ ?_); clear hK K
  refine AWP_block (a_loop (α := Nat) (fun i => mk 44 [(0, V1 (dW a)), (1, V1 (dW b)), (5, ownN 5 1 i), (6, dI ((1 - difN a b i / 4294967296 ^ i : Nat) : Int)), (7, dI i)] [(5, arrN 1 ((wfix i (difN a b i)).map cW) i)] []) (fun i => i ≤ a.length) (fun i => a.length - i) 0 ?_ (Nat.zero_le _) ?_)
  · exact Wk.mk' ⟨rfl, rfl, rfl, by rw [difN_zero]; rfl, rfl, trivial⟩ ⟨rfl, trivial⟩
  intro i hi
  have hcar := difN_carry (y := b) ha i
  refine AWP_seq ?_
  refine AWP_reg_seq tok fun K hK => ?_
  refine s_move rfl rfl rfl ?_
  refine s_move rfl rfl rfl ?_
  refine s_blt rfl (len_w rfl rfl rfl) rfl ?_
  refine s_bin rfl rfl rfl ?_
  refine s_end (hK _ ?_); clear hK K
  refine a_cond rfl (fun hg => ?_) (fun hg => ?_)
  · have hg : i < a.length := by simp at hg; omega
    have hst := difN_step a hb i
    have hxl := getD_lt ha i
    have hyl := getD_lt hb i
    have hbo : difN a b (i + 1) / 4294967296 ^ (i + 1) = difN a b (i + 1) / 4294967296 ^ i / 4294967296 := by rw [Nat.pow_succ, ← Nat.div_div_eq_div_mul]
    have e3 : wfix i (difN a b (i + 1)) = wfix i (difN a b i) := by
      refine wfix_mod ?_
      have := congrArg (· % 4294967296 ^ i) (difN_succ a hb i)
      simp only [Nat.add_mul_mod_self_right, Nat.add_comm (_ * _)] at this
      exact this
    have e2 : (wfix i (difN a b i)).map cW ++ [[.lit (.int .u32 ((difN a b (i + 1) / 4294967296 ^ i % 4294967296 : Nat) : Int))]] = (wfix (i + 1) (difN a b (i + 1))).map cW := by
      rw [wfix_snoc, e3]; simp [cW]
    generalize hq : difN a b i / 4294967296 ^ i = q at *
    generalize hq' : difN a b (i + 1) / 4294967296 ^ i = q' at *
    refine AWP_skip ?_
    show AWP _ _ _ _ _ _
    refine AWP_seq ?_
    refine AWP_block ?_
    refine AWP_reg_seq tok fun K hK => ?_
    refine s_move rfl rfl rfl ?_
    refine s_move rfl rfl rfl ?_
    refine s_indexAddr rfl (x_wD (i := i) rfl rfl rfl rfl rfl hg) rfl ?_
    refine s_load rfl rfl rfl ?_
    refine s_conv rfl (e_conv (m := (a.getD i 0 : Int)) rfl rfl rfl (IntWalk.i64_in _ (by omega))) rfl ?_
    refine s_move rfl rfl rfl ?_
    refine s_bin rfl (e_sub rfl (by omega)) rfl ?_
    refine s_assign rfl rfl rfl ?_
    refine s_end (hK _ ?_); clear hK K
    refine a_join (α := Unit) (fun _ => mk 44 [(0, V1 (dW a)), (1, V1 (dW b)), (5, ownN 5 1 i), (7, dI i), (8, dI ((a.getD i 0 : Int) - ((1 - q : Nat) : Int) - b.getD i 0))] [(5, arrN 1 ((wfix i (difN a b i)).map cW) i)] []) (fun _ => True) ?_ ?_
    · refine AWP_reg_seq tok fun K hK => ?_
      refine s_move rfl rfl rfl ?_
      refine s_move rfl rfl rfl ?_
      refine s_blt rfl (len_w rfl rfl rfl) rfl ?_
      refine s_bin rfl rfl rfl ?_
      refine s_end (hK _ ?_); clear hK K
      refine a_cond rfl (fun hx => ?_) (fun hx => ?_)
      · have hx : i < b.length := by simp at hx; omega
        refine AWP_reg tok fun K hK => ?_
        refine s_move rfl rfl rfl ?_
        refine s_move rfl rfl rfl ?_
        refine s_move rfl rfl rfl ?_
        refine s_indexAddr rfl (x_wD (i := i) rfl rfl rfl rfl rfl hx) rfl ?_
        refine s_load rfl rfl rfl ?_
        refine s_conv rfl (e_conv (m := (b.getD i 0 : Int)) rfl rfl rfl (IntWalk.i64_in _ (by omega))) rfl ?_
        refine s_bin rfl (e_sub rfl (by omega)) rfl ?_
        refine s_assign rfl rfl rfl ?_
        refine s_end (hK _ ?_); clear hK K
        exact ⟨(), trivial, Wk.mk' ⟨rfl, rfl, rfl, rfl, rfl, trivial⟩ ⟨rfl, trivial⟩⟩
      · have hx : b.length ≤ i := by simp at hx; omega
        refine AWP_skip ?_
        exact ⟨(), trivial, Wk.mk' ⟨rfl, rfl, rfl, rfl, by rw [getD_end hx]; exact dI_eq (by omega), trivial⟩ ⟨rfl, trivial⟩⟩
    rintro - -
    refine AWP_reg_seq tok fun K hK => ?_
    refine s_assign rfl rfl rfl ?_
    refine s_end (hK _ ?_); clear hK K
    refine a_join (α := Unit) (fun _ => mk 44 [(0, V1 (dW a)), (1, V1 (dW b)), (5, ownN 5 1 i), (6, dI ((1 - difN a b (i + 1) / 4294967296 ^ (i + 1) : Nat) : Int)), (7, dI i), (8, dI ((q' % 4294967296 : Nat) : Int))] [(5, arrN 1 ((wfix i (difN a b i)).map cW) i)] []) (fun _ => True) ?_ ?_
    · rw [hbo]
      refine AWP_reg_seq tok fun K hK => ?_
      refine s_move rfl rfl rfl ?_
      refine s_bin rfl rfl rfl ?_
      refine s_end (hK _ ?_); clear hK K
      refine a_cond rfl (fun hx => ?_) (fun hx => ?_)
      · have hx : (a.getD i 0 : Int) - ((1 - q : Nat) : Int) - b.getD i 0 < 0 := by simpa using hx
        refine AWP_reg_seq tok fun K hK => ?_
        refine s_move rfl rfl rfl ?_
        refine s_bin rfl (e_add rfl (by omega)) rfl ?_
        refine s_assign rfl rfl rfl ?_
        refine s_end (hK _ ?_); clear hK K
        refine AWP_reg tok fun K hK => ?_
        refine s_assign rfl rfl rfl ?_
        refine s_end (hK _ ?_); clear hK K
        refine ⟨(), trivial, Wk.mk' ⟨rfl, rfl, rfl, ?_, rfl, ?_, trivial⟩ ⟨rfl, trivial⟩⟩
        · exact dI_eq (by omega)
        · exact dI_eq (by omega)
      · have hx : ¬ (a.getD i 0 : Int) - ((1 - q : Nat) : Int) - b.getD i 0 < 0 := by simpa using hx
        refine AWP_skip ?_
        refine ⟨(), trivial, Wk.mk' ⟨rfl, rfl, rfl, ?_, rfl, ?_, trivial⟩ ⟨rfl, trivial⟩⟩
        · exact dI_eq (by omega)
        · exact dI_eq (by omega)
    rintro - -
    show AWP _ _ _ _ _ (mk 44 [(0, V1 (dW a)), (1, V1 (dW b)), (5, ownN 5 1 i), (6, dI ((1 - difN a b (i + 1) / 4294967296 ^ (i + 1) : Nat) : Int)), (7, dI i), (8, dI ((q' % 4294967296 : Nat) : Int))] [(5, arrN 1 ((wfix i (difN a b i)).map cW) i)] [])
    rcases i with _ | i
    · refine AWP_reg tok fun K hK => ?_
      refine s_move rfl rfl rfl ?_
      refine s_move rfl rfl rfl ?_
      refine s_conv rfl (e_conv (m := ((q' % 4294967296 : Nat) : Int)) rfl rfl rfl (by rw [wrapU, Nat.mod_mod])) rfl ?_
      refine s_buildSlice rfl rfl rfl rfl ?_
      refine s_append rfl (ap_nil rfl rfl rfl rfl rfl (by decide) (Nat.le_of_ble_eq_true rfl) rfl (by simp) rfl (by simp) (by simp)) rfl rfl ?_
      refine s_assign rfl rfl rfl ?_
      refine s_end (hK _ ?_); clear hK K
      show AWP _ _ _ _ _ _
      refine AWP_reg tok fun K hK => ?_
      refine s_move rfl rfl rfl ?_
      refine s_bin rfl (e_add (c := ((0 + 1 : Nat) : Int)) (by omega) (by omega)) rfl ?_
      refine s_assign rfl rfl rfl ?_
      refine s_end (hK _ ?_); clear hK K
      exact ⟨0 + 1, by omega, by omega, Wk.rn [0, 1, 5, 6, 7] [41] 41 5 rfl rfl rfl ⟨rfl, rfl, rfl, rfl, rfl, trivial⟩ ⟨by rw [← e2]; rfl, trivial⟩⟩
    · refine AWP_reg tok fun K hK => ?_
      refine s_move rfl rfl rfl ?_
      refine s_move rfl rfl rfl ?_
      refine s_conv rfl (e_conv (m := ((q' % 4294967296 : Nat) : Int)) rfl rfl rfl (by rw [wrapU, Nat.mod_mod])) rfl ?_
      refine s_buildSlice rfl rfl rfl rfl ?_
      refine s_append rfl (ap_o rfl rfl rfl rfl rfl rfl (by decide) (Nat.le_of_ble_eq_true rfl) rfl (by simp) rfl rfl (by simp [wfix_length]) (by simp; omega)) rfl rfl ?_
      refine s_assign rfl rfl rfl ?_
      refine s_end (hK _ ?_); clear hK K
      show AWP _ _ _ _ _ _
      refine AWP_reg tok fun K hK => ?_
      refine s_move rfl rfl rfl ?_
      refine s_bin rfl (e_add (c := ((i + 1 + 1 : Nat) : Int)) (by omega) (by omega)) rfl ?_
      refine s_assign rfl rfl rfl ?_
      refine s_end (hK _ ?_); clear hK K
      refine ⟨i + 1 + 1, by omega, by omega, Wk.rn [0, 1, 5, 6, 7] [41] 41 5 rfl rfl rfl ⟨rfl, rfl, ?_, rfl, rfl, trivial⟩ ⟨by rw [← e2]; rfl, trivial⟩⟩
      show SV.val (.one (.own 5 1 0 _)) = .val (.one (.own 5 1 0 _))
      simp [wfix_length]
  · have hg : i = a.length := by simp at hg; omega
    subst hg
    have hw : wv (wfix a.length (difN a b a.length)) = wv a - wv b := by
      rw [difN_end hl hle, wv_wfix, Nat.mod_eq_of_lt (Nat.lt_of_le_of_lt (Nat.sub_le _ _) (wv_lt ha))]
    generalize hal : a.length = i at *
    refine AWP_exit ?_
    show AWP _ _ _ _ _ _
    rcases i with _ | i
    · have h0 : wv a - wv b = 0 := by
        have : a = [] := List.length_eq_zero_iff.1 hal
        subst this; simp [wv]
      refine AWP_reg_seq tok fun K hK => ?_
      refine s_move rfl rfl rfl ?_
      refine s_call rfl rfl (r1trim_c [] wOK.nil (by simp)) rfl rfl rfl rfl ?_
      refine s_assign rfl rfl rfl ?_
      refine s_end (hK _ ?_); clear hK K
      refine AWP_ret ?_
      repeat (with_reducible refine tq_ret ?_)
      exact post_ret (fin_mk (by rfl) (by rfl) (by rw [h0]; rfl))
    · refine a_fz [5] [5] 5 [(5, V1 (dW (wfix (i + 1) (difN a b (i + 1)))))] [] rfl ?_ trivial ?_
      · exact ⟨frz_w rfl (by simp [wfix_length]), trivial⟩
      refine AWP_reg_seq tok fun K hK => ?_
      refine s_move rfl rfl rfl ?_
      refine s_call rfl rfl (r1trim_c _ (wfix_ok _ _) (by rw [wfix_length]; omega)) rfl rfl rfl rfl ?_
      refine s_assign rfl rfl rfl ?_
      refine s_end (hK _ ?_); clear hK K
      refine AWP_ret ?_
      repeat (with_reducible refine tq_ret ?_)
      exact post_ret (fin_mk (by rfl) (by rfl) (by rw [hw]; rfl))
end Go.Proofs.YtcafppnjemgkiaaGreat

/- The reference's integers: signs, sums, differences. No condition. -/
namespace Go.Proofs.YtcafppnjemgkiaaGreat
attribute [local irreducible] lexA

theorem r1Norm_z (n : Bool) (w : List Nat) (z : Int) (hw : wOK w) (hl : w.length ≤ 1073741824) (h : zv n w = z) : Con Tryz.prog 72 [AG (IC n w)] { v := AG (ZC z) } :=
  h ▸ r1Norm_c n w hw hl

theorem r1Sign_c (n : Bool) (w : List Nat) (hw : wOK w) (hl : w.length ≤ 1073741824) : Con Tryz.prog 52 [AG (IC n w)] { v := dI (zv n w).sign } := by
  have h0 : wof (wv w) = [] ↔ zv n w = 0 := by rw [wof_nil]; unfold zv; split <;> omega
  have hs : (zv n w < 0 → n = true) ∧ (n = true → zv n w ≤ 0) := by unfold zv; cases n <;> simp <;> omega
  refine con_intro (fn := Tryz.f52) tok Tryz.func52 (by kernel_rfl) rfl ?_
  intro w0 X
  rw [entry_mkE _ _ [(0, AG (IC n w))] rfl rfl]
  refine AWP_reg_seq tok fun K hK => ?_
  refine s_box rfl rfl rfl rfl rfl rfl ?_
  refine s_assign rfl rfl rfl ?_
  refine s_end (hK _ ?_); clear hK K
  refine AWP_seq ?_
  refine AWP_reg_seq tok fun K hK => ?_
  refine s_fieldAddr rfl rfl rfl ?_
  refine s_load rfl rfl rfl ?_
  refine s_call rfl rfl (r1trim_c w hw hl) rfl rfl rfl rfl ?_
  refine s_blt rfl (len_w rfl rfl rfl) rfl ?_
  refine s_bin rfl rfl rfl ?_
  refine s_end (hK _ ?_); clear hK K
  refine a_cond rfl (fun hc => ?_) (fun hc => ?_)
  · have hc : wof (wv w) = [] := by simpa using hc
    refine AWP_reg_seq tok fun K hK => ?_
    refine s_assign rfl rfl rfl ?_
    refine s_end (hK _ ?_); clear hK K
    refine AWP_ret ?_
    repeat (with_reducible refine tq_ret ?_)
    exact post_ret (fin_mk (by rfl) (by rfl) (by rw [h0.1 hc]; rfl))
  · have hc : ¬ zv n w = 0 := by rw [← h0]; simpa using hc
    refine AWP_skip ?_
    show AWP _ _ _ _ _ _
    refine AWP_seq ?_
    refine AWP_reg_seq tok fun K hK => ?_
    refine s_fieldAddr rfl rfl rfl ?_
    refine s_load rfl rfl rfl ?_
    refine s_end (hK _ ?_); clear hK K
    refine a_cond rfl (fun hd => ?_) (fun hd => ?_)
    · have hd : n = true := hd
      have : zv n w < 0 := by have := hs.2 hd; omega
      refine AWP_reg_seq tok fun K hK => ?_
      refine s_assign rfl rfl rfl ?_
      refine s_end (hK _ ?_); clear hK K
      refine AWP_ret ?_
      repeat (with_reducible refine tq_ret ?_)
      exact post_ret (fin_mk (by rfl) (by rfl) (by rw [Int.sign_eq_neg_one_of_neg this]; rfl))
    · have hd : n = false := hd
      have : 0 < zv n w := by
        have := hs.1
        rcases Int.lt_trichotomy (zv n w) 0 with h | h | h
        · rw [this h] at hd; cases hd
        · exact absurd h hc
        · exact h
      refine AWP_skip ?_
      show AWP _ _ _ _ _ _
      refine AWP_reg_seq tok fun K hK => ?_
      refine s_assign rfl rfl rfl ?_
      refine s_end (hK _ ?_); clear hK K
      refine AWP_ret ?_
      repeat (with_reducible refine tq_ret ?_)
      exact post_ret (fin_mk (by rfl) (by rfl) (by rw [Int.sign_eq_one_of_pos this]; rfl))

theorem r1Neg_c (n : Bool) (w : List Nat) (hw : wOK w) (hl : w.length ≤ 1073741824) : Con Tryz.prog 75 [AG (IC n w)] { v := AG (ZC (-(zv n w))) } := by
  refine con_intro (fn := Tryz.f75) tok Tryz.func75 (by kernel_rfl) rfl ?_
  intro w0 X
  rw [entry_mkE _ _ [(0, AG (IC n w))] rfl rfl]
  refine AWP_reg_seq tok fun K hK => ?_
  refine s_box rfl rfl rfl rfl rfl rfl ?_
  refine s_alloc rfl rfl rfl rfl rfl rfl ?_
  refine s_end (hK _ ?_); clear hK K
  refine AWP_reg_seq tok fun K hK => ?_
  refine s_fieldAddr rfl rfl rfl ?_
  refine s_load rfl rfl rfl ?_
  refine s_un rfl rfl rfl ?_
  refine s_fieldAddr rfl rfl rfl ?_
  refine s_load rfl rfl rfl ?_
  refine s_build rfl rfl rfl ?_
  refine s_call rfl rfl (r1Norm_z (!n) w (-(zv n w)) hw hl (by unfold zv; cases n <;> simp)) rfl rfl rfl rfl ?_
  refine s_store rfl rfl rfl rfl rfl ?_
  refine s_end (hK _ ?_); clear hK K
  refine AWP_ret ?_
  repeat (with_reducible refine tq_ret ?_)
  exact post_ret (fin_mk (by rfl) (by rfl) (by rfl))

theorem r1Abs_c (n : Bool) (w : List Nat) (hw : wOK w) (hl : w.length ≤ 1073741824) : Con Tryz.prog 98 [AG (IC n w)] { v := AG (ZC ((zv n w).natAbs : Int)) } := by
  refine con_intro (fn := Tryz.f98) tok Tryz.func98 (by kernel_rfl) rfl ?_
  intro w0 X
  rw [entry_mkE _ _ [(0, AG (IC n w))] rfl rfl]
  refine AWP_reg_seq tok fun K hK => ?_
  refine s_box rfl rfl rfl rfl rfl rfl ?_
  refine s_alloc rfl rfl rfl rfl rfl rfl ?_
  refine s_end (hK _ ?_); clear hK K
  refine AWP_reg_seq tok fun K hK => ?_
  refine s_fieldAddr rfl rfl rfl ?_
  refine s_load rfl rfl rfl ?_
  refine s_build rfl rfl rfl ?_
  refine s_call rfl rfl (r1Norm_z false w ((zv n w).natAbs : Int) hw hl (by rw [zv_abs]; unfold zv; simp)) rfl rfl rfl rfl ?_
  refine s_store rfl rfl rfl rfl rfl ?_
  refine s_end (hK _ ?_); clear hK K
  refine AWP_ret ?_
  repeat (with_reducible refine tq_ret ?_)
  exact post_ret (fin_mk (by rfl) (by rfl) (by rfl))

theorem r1Add_c (na nb : Bool) (wa wb : List Nat) (ha : wOK wa) (hb : wOK wb) (la : wa.length ≤ 536870912) (lb : wb.length ≤ 536870912) :
    Con Tryz.prog 65 [AG (IC na wa), AG (IC nb wb)] { v := AG (ZC (zv na wa + zv nb wb)) } := by
  have hla : (wof (zv na wa).natAbs).length ≤ wa.length := by rw [zv_abs]; exact wl_len ha
  have hlb : (wof (zv nb wb).natAbs).length ≤ wb.length := by rw [zv_abs]; exact wl_len hb
  refine con_intro (fn := Tryz.f65) tok Tryz.func65 (by kernel_rfl) rfl ?_
  intro w0 X
  rw [entry_mkE _ _ [(0, AG (IC na wa)), (1, AG (IC nb wb))] rfl rfl]
  refine AWP_reg_seq tok fun K hK => ?_
  refine s_box rfl rfl rfl rfl rfl rfl ?_
  refine s_box rfl rfl rfl rfl rfl rfl ?_
  refine s_alloc rfl rfl rfl rfl rfl rfl ?_
  refine s_end (hK _ ?_); clear hK K
  refine AWP_reg_seq tok fun K hK => ?_
  refine s_load rfl rfl rfl ?_
  refine s_call rfl rfl (r1Norm_c na wa ha (by omega)) rfl rfl rfl rfl ?_
  refine s_store rfl rfl rfl rfl rfl ?_
  refine s_end (hK _ ?_); clear hK K
  refine AWP_reg_seq tok fun K hK => ?_
  refine s_load rfl rfl rfl ?_
  refine s_call rfl rfl (r1Norm_c nb wb hb (by omega)) rfl rfl rfl rfl ?_
  refine s_store rfl rfl rfl rfl rfl ?_
  refine s_end (hK _ ?_); clear hK K
  generalize zv na wa = x at *
  generalize zv nb wb = y at *
  have hpl := wl_add x.natAbs y.natAbs
  unfold wl at hpl
  refine a_keep [(2, .ptr 2 0), (3, .ptr 3 0), (4, .ptr 4 0)] [(2, some (.box (ZC x))), (3, some (.box (ZC y))), (4, some (.box [.d (.lit (.bool false)), .nil]))] ⟨rfl, rfl, rfl, trivial⟩ ⟨rfl, rfl, rfl, trivial⟩ ?_
  refine AWP_seq ?_
  refine AWP_reg_seq tok fun K hK => ?_
  refine s_fieldAddr rfl rfl rfl ?_
  refine s_load rfl rfl rfl ?_
  refine s_fieldAddr rfl rfl rfl ?_
  refine s_load rfl rfl rfl ?_
  refine s_bin rfl rfl rfl ?_
  refine s_end (hK _ ?_); clear hK K
  refine a_cond rfl (fun hc => ?_) (fun hc => ?_)
  · have hc : (x < 0) ↔ (y < 0) := by simpa using hc
    refine a_draw tok mixed (A := [[], [], [], [], [], [], [2, 4], [0, 2, 3, 4, 5], [0, 1, 2, 3, 4, 5], []]) (an := [{}, {}, {}, {}, {}, {}, {}, {}, {}, {}]) rfl (by kernel_rfl) rfl fun K hK => ?_
    refine s_fieldAddr rfl rfl rfl ?_
    refine s_load rfl rfl rfl ?_
    refine s_fieldAddr rfl rfl rfl ?_
    refine s_load rfl rfl rfl ?_
    refine s_fieldAddr rfl rfl rfl ?_
    refine s_load rfl rfl rfl ?_
    refine s_call rfl rfl (r1add_c (wof x.natAbs) (wof y.natAbs) (wof_ok _) (wof_ok _) (by omega) (by omega)) rfl rfl rfl rfl ?_
    refine s_build rfl rfl rfl ?_
    refine s_call rfl rfl (r1Norm_z (decide (x < 0)) _ (x + y) (wof_ok _) (by rw [wv_wof, wv_wof]; omega) (by unfold zv; rw [wv_wof, wv_wof, wv_wof]; by_cases h : x < 0 <;> simp [h] <;> omega)) rfl rfl rfl rfl ?_
    refine s_store rfl rfl rfl rfl rfl ?_
    refine s_end (hK _ ?_); clear hK K
    refine AWP_ret ?_
    repeat (with_reducible refine tq_ret ?_)
    exact post_ret (fin_mk (by rfl) (by rfl) (by rfl))
  · have hc : ¬ ((x < 0) ↔ (y < 0)) := by simpa using hc
    refine AWP_skip ?_
    show AWP _ _ _ _ _ _
    refine a_keep [(2, .ptr 2 0), (3, .ptr 3 0), (4, .ptr 4 0)] [(2, some (.box (ZC x))), (3, some (.box (ZC y))), (4, some (.box [.d (.lit (.bool false)), .nil]))] ⟨rfl, rfl, rfl, trivial⟩ ⟨rfl, rfl, rfl, trivial⟩ ?_
    refine AWP_seq ?_
    refine AWP_reg_seq tok fun K hK => ?_
    refine s_fieldAddr rfl rfl rfl ?_
    refine s_load rfl rfl rfl ?_
    refine s_fieldAddr rfl rfl rfl ?_
    refine s_load rfl rfl rfl ?_
    refine s_call rfl rfl (r1cmp_c (wof x.natAbs) (wof y.natAbs) (wof_ok _) (wof_ok _) (wof_top _) (wof_top _) (by omega) (by omega)) rfl rfl rfl rfl ?_
    refine s_bin rfl rfl rfl ?_
    refine s_end (hK _ ?_); clear hK K
    refine a_cond rfl (fun hd => ?_) (fun hd => ?_)
    · have hd : x.natAbs < y.natAbs := by have := ncmp_lt.1 (of_decide_eq_true hd); rwa [wv_wof, wv_wof] at this
      have hle : (wof x.natAbs).length ≤ (wof y.natAbs).length := wl_mono (by omega)
      have hsl : (wof (y.natAbs - x.natAbs)).length ≤ (wof y.natAbs).length := wl_mono (by omega)
      refine a_draw tok mixed (A := [[], [], [], [], [], [], [2, 4], [0, 2, 3, 4, 5], [0, 1, 2, 3, 4, 5], []]) (an := [{}, {}, {}, {}, {}, {}, {}, {}, {}, {}]) rfl (by kernel_rfl) rfl fun K hK => ?_
      refine s_fieldAddr rfl rfl rfl ?_
      refine s_load rfl rfl rfl ?_
      refine s_fieldAddr rfl rfl rfl ?_
      refine s_load rfl rfl rfl ?_
      refine s_fieldAddr rfl rfl rfl ?_
      refine s_load rfl rfl rfl ?_
      refine s_call rfl rfl (r1sub_c (wof y.natAbs) (wof x.natAbs) (wof_ok _) (wof_ok _) (by omega) hle (by rw [wv_wof, wv_wof]; omega)) rfl rfl rfl rfl ?_
      refine s_build rfl rfl rfl ?_
      refine s_call rfl rfl (r1Norm_z (decide (y < 0)) _ (x + y) (wof_ok _) (by rw [wv_wof, wv_wof]; omega) (by unfold zv; rw [wv_wof, wv_wof, wv_wof]; by_cases h : y < 0 <;> simp [h] <;> omega)) rfl rfl rfl rfl ?_
      refine s_store rfl rfl rfl rfl rfl ?_
      refine s_end (hK _ ?_); clear hK K
      refine AWP_ret ?_
      repeat (with_reducible refine tq_ret ?_)
      exact post_ret (fin_mk (by rfl) (by rfl) (by rfl))
    · have hd : y.natAbs ≤ x.natAbs := by have := mt ncmp_lt.2 (of_decide_eq_false hd); rw [wv_wof, wv_wof] at this; omega
      have hle : (wof y.natAbs).length ≤ (wof x.natAbs).length := wl_mono (by omega)
      have hsl : (wof (x.natAbs - y.natAbs)).length ≤ (wof x.natAbs).length := wl_mono (by omega)
      refine AWP_skip ?_
      show AWP _ _ _ _ _ _
      refine a_keep [(2, .ptr 2 0), (3, .ptr 3 0), (4, .ptr 4 0)] [(2, some (.box (ZC x))), (3, some (.box (ZC y))), (4, some (.box [.d (.lit (.bool false)), .nil]))] ⟨rfl, rfl, rfl, trivial⟩ ⟨rfl, rfl, rfl, trivial⟩ ?_
      refine a_draw tok mixed (A := [[], [], [], [], [], [], [2, 4], [0, 2, 3, 4, 5], [0, 1, 2, 3, 4, 5], []]) (an := [{}, {}, {}, {}, {}, {}, {}, {}, {}, {}]) rfl (by kernel_rfl) rfl fun K hK => ?_
      refine s_fieldAddr rfl rfl rfl ?_
      refine s_load rfl rfl rfl ?_
      refine s_fieldAddr rfl rfl rfl ?_
      refine s_load rfl rfl rfl ?_
      refine s_fieldAddr rfl rfl rfl ?_
      refine s_load rfl rfl rfl ?_
      refine s_call rfl rfl (r1sub_c (wof x.natAbs) (wof y.natAbs) (wof_ok _) (wof_ok _) (by omega) hle (by rw [wv_wof, wv_wof]; omega)) rfl rfl rfl rfl ?_
      refine s_build rfl rfl rfl ?_
      refine s_call rfl rfl (r1Norm_z (decide (x < 0)) _ (x + y) (wof_ok _) (by rw [wv_wof, wv_wof]; omega) (by unfold zv; rw [wv_wof, wv_wof, wv_wof]; by_cases h : x < 0 <;> simp [h] <;> omega)) rfl rfl rfl rfl ?_
      refine s_store rfl rfl rfl rfl rfl ?_
      refine s_end (hK _ ?_); clear hK K
      refine AWP_ret ?_
      repeat (with_reducible refine tq_ret ?_)
      exact post_ret (fin_mk (by rfl) (by rfl) (by rfl))

theorem r1Sub_c (na nb : Bool) (wa wb : List Nat) (ha : wOK wa) (hb : wOK wb) (la : wa.length ≤ 536870912) (lb : wb.length ≤ 536870912) :
    Con Tryz.prog 82 [AG (IC na wa), AG (IC nb wb)] { v := AG (ZC (zv na wa - zv nb wb)) } := by
  have hlb : (wof (-(zv nb wb)).natAbs).length ≤ wb.length := by rw [Int.natAbs_neg, zv_abs]; exact wl_len hb
  have hz : zv na wa + zv (decide (-(zv nb wb) < 0)) (wof (-(zv nb wb)).natAbs) = zv na wa - zv nb wb := by rw [zv_ZC]; omega
  refine con_intro (fn := Tryz.f82) tok Tryz.func82 (by kernel_rfl) rfl ?_
  intro w0 X
  rw [entry_mkE _ _ [(0, AG (IC na wa)), (1, AG (IC nb wb))] rfl rfl]
  refine AWP_reg_seq tok fun K hK => ?_
  refine s_box rfl rfl rfl rfl rfl rfl ?_
  refine s_box rfl rfl rfl rfl rfl rfl ?_
  refine s_alloc rfl rfl rfl rfl rfl rfl ?_
  refine s_end (hK _ ?_); clear hK K
  refine a_draw tok mixed (A := [[], [], [], [1], []]) (an := [{}, {}, {}, {}, {}]) rfl (by kernel_rfl) rfl fun K hK => ?_
  refine s_load rfl rfl rfl ?_
  refine s_load rfl rfl rfl ?_
  refine s_call rfl rfl (r1Neg_c nb wb hb (by omega)) rfl rfl rfl rfl ?_
  refine s_call rfl rfl (hz ▸ r1Add_c na (decide (-(zv nb wb) < 0)) wa (wof (-(zv nb wb)).natAbs) ha (wof_ok _) la (by omega)) rfl rfl rfl rfl ?_
  refine s_store rfl rfl rfl rfl rfl ?_
  refine s_end (hK _ ?_); clear hK K
  refine AWP_ret ?_
  repeat (with_reducible refine tq_ret ?_)
  exact post_ret (fin_mk (by rfl) (by rfl) (by rfl))
end Go.Proofs.YtcafppnjemgkiaaGreat

/- The reference's integers: products, division bit by bit. No condition. -/
namespace Go.Proofs.YtcafppnjemgkiaaGreat
attribute [local irreducible] lexA

theorem WTI.rowk {a b : List Nat} {i k : Nat} {out : List Nat} (h : WTI a (b ++ [0]) i k out 0) (hk : b.length ≤ k) : WTI a (b ++ [0]) (i + 1) 0 out 0 := by
  have hb : wv ((b ++ [0]).take k) = wv (b ++ [0]) := by
    rcases Nat.lt_or_ge b.length k with h' | h'
    · rw [List.take_of_length_le (by simp; omega)]
    · have : k = b.length := by omega
      subst this
      rw [List.take_append_of_le_length (Nat.le_refl _), List.take_of_length_le (Nat.le_refl _), wv_append]; simp [wv]
  have hv := h.val
  rw [hb] at hv
  refine ⟨h.ok, h.len, fun m hm => h.hi m (by omega), ?_, by decide⟩
  rw [wv_take']
  simp only [List.take_zero, wv, Nat.mul_zero, Nat.zero_mul, Nat.add_zero] at *
  rw [hv]; grind
theorem WTI.c0 {a b : List Nat} (ha : wOK a) (hb : wOK b) {i : Nat} {out : List Nat} {c : Nat} (h : WTI a (b ++ [0]) i (b.length + 1) out c) : c = 0 := by
  have hv := h.val
  have e0 : (b ++ [0]).take (b.length + 1) = b ++ [0] := List.take_of_length_le (by simp)
  rw [e0] at hv
  have hw : wv (b ++ [0]) = wv b := by rw [wv_append]; simp [wv]
  rw [hw] at hv
  have e : wv (a.take i) * wv b + a.getD i 0 * wv b * 4294967296 ^ i = wv (a.take (i + 1)) * wv b := by rw [wv_take']; grind
  rw [e] at hv
  have h1 := wv_take_lt ha (i + 1)
  have h2 := wv_lt hb
  have h3 : wv (a.take (i + 1)) * wv b < 4294967296 ^ (i + (b.length + 1)) := by
    rw [show i + (b.length + 1) = i + 1 + b.length from by omega, Nat.pow_add]
    rcases Nat.eq_zero_or_pos (wv b) with h0 | h0
    · rw [h0, Nat.mul_zero]; exact Nat.mul_pos (pow_pos _) (pow_pos _)
    · calc wv (a.take (i + 1)) * wv b < 4294967296 ^ (i + 1) * wv b := Nat.mul_lt_mul_of_pos_right h1 h0
        _ ≤ 4294967296 ^ (i + 1) * 4294967296 ^ b.length := Nat.mul_le_mul_left _ (Nat.le_of_lt h2)
  rcases Nat.eq_zero_or_pos c with h0 | h0
  · exact h0
  · have : 1 * 4294967296 ^ (i + (b.length + 1)) ≤ c * 4294967296 ^ (i + (b.length + 1)) := Nat.mul_le_mul_right _ h0
    omega
theorem getD_app0 (b : List Nat) (k : Nat) : (b ++ [0]).getD k 0 = b.getD k 0 := by
  rw [List.getD_eq_getElem?_getD, List.getD_eq_getElem?_getD, List.getElem?_append]
  split
  · rfl
  · rename_i h
    rw [List.getElem?_eq_none (by omega : b.length ≤ k)]
    rcases Nat.lt_or_ge (k - b.length) 1 with h' | h'
    · have : k - b.length = 0 := by omega
      rw [this]; rfl
    · rw [List.getElem?_eq_none (by simpa using h')]

theorem r1Mul_c (na nb : Bool) (wa wb : List Nat) (ha : wOK wa) (hb : wOK wb) (la : wa.length ≤ 500000000) (lb : wb.length ≤ 500000000) :
    Con Tryz.prog 66 [AG (IC na wa), AG (IC nb wb)] { v := AG (ZC (zv na wa * zv nb wb)) } := by
  have hb' : wOK (wb ++ [0]) := hb.append (wOK.one (by decide))
  have lb' : (wb ++ [0]).length = wb.length + 1 := by simp
  refine con_intro (fn := Tryz.f66) tok Tryz.func66 (by kernel_rfl) rfl ?_
  intro w0 X
  rw [entry_mkE _ _ [(0, AG (IC na wa)), (1, AG (IC nb wb))] rfl rfl]
  refine AWP_reg_seq tok fun K hK => ?_
  refine s_box rfl rfl rfl rfl rfl rfl ?_
  refine s_box rfl rfl rfl rfl rfl rfl ?_
  refine s_alloc rfl rfl rfl rfl rfl rfl ?_
  refine s_end (hK _ ?_); clear hK K
  refine AWP_reg_seq tok fun K hK => ?_
  refine s_fieldAddr rfl rfl rfl ?_
  refine s_load rfl rfl rfl ?_
  refine s_blt rfl (len_w rfl rfl rfl) rfl ?_
  refine s_fieldAddr rfl rfl rfl ?_
  refine s_load rfl rfl rfl ?_
  refine s_blt rfl (len_w rfl rfl rfl) rfl ?_
  refine s_bin rfl (e_add (c := ((wa.length + wb.length : Nat) : Int)) (by omega) (by omega)) rfl ?_
  refine s_bin rfl (e_add (c := ((wa.length + (wb.length + 1) : Nat) : Int)) (by omega) (by omega)) rfl ?_
  refine s_makeSlice (sz := _) (es := _) (f := _) (v := _) rfl (mk_w (l := wa.length + (wb.length + 1)) (c := wa.length + (wb.length + 1)) rfl rfl rfl rfl rfl (Nat.le_of_ble_eq_true rfl) rfl rfl (by omega) (by omega)) rfl rfl ?_
  refine s_assign rfl rfl rfl ?_
  refine s_end (hK _ ?_); clear hK K
  refine AWP_seq ?_
  refine AWP_reg_seq tok fun K hK => ?_
  refine s_assign rfl rfl rfl ?_
  refine s_end (hK _ ?_); clear hK K
  refine AWP_block (a_loop (α := Nat × List Nat) (fun p => mk 83 [(2, .ptr 2 0), (3, .ptr 3 0), (4, .ptr 4 0), (5, .val (.one (.own 18 1 0 (wa.length + (wb.length + 1))))), (6, dI p.1)] [(2, some (.box (IC na wa))), (3, some (.box (IC nb wb))), (4, some (.box [.d (.lit (.bool false)), .nil])), (18, some (.arr 1 (p.2.map cW)))] []) (fun p => p.1 ≤ wa.length ∧ WTI wa (wb ++ [0]) p.1 0 p.2 0) (fun p => wa.length - p.1) (0, List.replicate (wa.length + (wb.length + 1)) 0) ?_ ⟨Nat.zero_le _, lb' ▸ WTI.start wa (wb ++ [0])⟩ ?_)
  · exact Wk.mk' ⟨rfl, rfl, rfl, rfl, rfl, trivial⟩ ⟨rfl, rfl, rfl, rfl, trivial⟩
  rintro ⟨i, out⟩ ⟨hi, hti⟩
  simp only at hi hti
  show AWP _ _ _ _ _ (mk 83 [(2, .ptr 2 0), (3, .ptr 3 0), (4, .ptr 4 0), (5, .val (.one (.own 18 1 0 (wa.length + (wb.length + 1))))), (6, dI i)] [(2, some (.box (IC na wa))), (3, some (.box (IC nb wb))), (4, some (.box [.d (.lit (.bool false)), .nil])), (18, some (.arr 1 (out.map cW)))] [])
  refine AWP_seq ?_
  refine AWP_reg_seq tok fun K hK => ?_
  refine s_move rfl rfl rfl ?_
  refine s_fieldAddr rfl rfl rfl ?_
  refine s_load rfl rfl rfl ?_
  refine s_blt rfl (len_w rfl rfl rfl) rfl ?_
  refine s_bin rfl rfl rfl ?_
  refine s_end (hK _ ?_); clear hK K
  refine a_cond rfl (fun hg => ?_) (fun hg => ?_)
  · have hg : i < wa.length := by simp at hg; omega
    refine AWP_skip ?_
    show AWP _ _ _ _ _ _
    refine AWP_seq ?_
    refine AWP_block ?_
    refine AWP_reg_seq tok fun K hK => ?_
    refine s_assign rfl rfl rfl ?_
    refine s_end (hK _ ?_); clear hK K
    refine AWP_reg_seq tok fun K hK => ?_
    refine s_assign rfl rfl rfl ?_
    refine s_end (hK _ ?_); clear hK K
    refine AWP_block (a_loop (α := Nat × List Nat × Nat) (fun p => mk 83 [(2, .ptr 2 0), (3, .ptr 3 0), (4, .ptr 4 0), (5, .val (.one (.own 18 1 0 (wa.length + (wb.length + 1))))), (6, dI i), (7, dL p.2.2), (8, dI p.1)] [(2, some (.box (IC na wa))), (3, some (.box (IC nb wb))), (4, some (.box [.d (.lit (.bool false)), .nil])), (18, some (.arr 1 (p.2.1.map cW)))] []) (fun p => p.1 ≤ wb.length + 1 ∧ WTI wa (wb ++ [0]) i p.1 p.2.1 p.2.2) (fun p => wb.length + 1 - p.1) (0, out, 0) ?_ ⟨Nat.zero_le _, hti⟩ ?_)
    · exact Wk.mk' ⟨rfl, rfl, rfl, rfl, rfl, rfl, rfl, trivial⟩ ⟨rfl, rfl, rfl, rfl, trivial⟩
    rintro ⟨j, out, c⟩ ⟨hj, hti⟩
    simp only at hj hti
    show AWP _ _ _ _ _ (mk 83 [(2, .ptr 2 0), (3, .ptr 3 0), (4, .ptr 4 0), (5, .val (.one (.own 18 1 0 (wa.length + (wb.length + 1))))), (6, dI i), (7, dL c), (8, dI j)] [(2, some (.box (IC na wa))), (3, some (.box (IC nb wb))), (4, some (.box [.d (.lit (.bool false)), .nil])), (18, some (.arr 1 (out.map cW)))] [])
    have hlen := hti.len
    rw [lb'] at hlen
    have hcl := hti.cl
    refine AWP_seq ?_
    refine a_join (α := Bool) (fun p => mk 83 [(2, .ptr 2 0), (3, .ptr 3 0), (4, .ptr 4 0), (5, .val (.one (.own 18 1 0 (wa.length + (wb.length + 1))))), (6, dI i), (7, dL c), (8, dI j), (34, dB p)] [(2, some (.box (IC na wa))), (3, some (.box (IC nb wb))), (4, some (.box [.d (.lit (.bool false)), .nil])), (18, some (.arr 1 (out.map cW)))] []) (fun p => (p = true → j ≤ wb.length) ∧ (p = false → wb.length ≤ j ∧ c = 0)) ?_ ?_
    · refine AWP_reg tok fun K hK => ?_
      refine s_move rfl rfl rfl ?_
      refine s_fieldAddr rfl rfl rfl ?_
      refine s_load rfl rfl rfl ?_
      refine s_blt rfl (len_w rfl rfl rfl) rfl ?_
      refine s_bin rfl rfl rfl ?_
      refine s_move rfl rfl rfl ?_
      refine s_split (fun hx => ?_) (fun hx => ?_)
      · have hx : j < wb.length := by simp at hx; omega
        refine s_skip rfl ?_
        refine s_skip rfl ?_
        refine s_pick rfl rfl rfl ?_
        refine s_end (hK _ ?_); clear hK K
        exact ⟨true, ⟨fun _ => by omega, fun h => (by cases h)⟩, Wk.mk' ⟨rfl, rfl, rfl, rfl, rfl, rfl, rfl, rfl, trivial⟩ ⟨rfl, rfl, rfl, rfl, trivial⟩⟩
      · have hx : wb.length ≤ j := by simp at hx; omega
        refine s_move rfl rfl rfl ?_
        refine s_bin rfl rfl rfl ?_
        refine s_pick rfl rfl rfl ?_
        refine s_end (hK _ ?_); clear hK K
        refine ⟨_, ⟨fun h => ?_, fun h => ?_⟩, Wk.mk' ⟨rfl, rfl, rfl, rfl, rfl, rfl, rfl, rfl, trivial⟩ ⟨rfl, rfl, rfl, rfl, trivial⟩⟩
        · rcases Nat.lt_or_ge wb.length j with h' | h'
          · have : j = wb.length + 1 := by omega
            subst this
            have := hti.c0 ha hb
            subst this
            simp at h
          · exact h'
        · exact ⟨hx, by simp at h; omega⟩
    rintro p ⟨h1, h2⟩
    refine a_cond rfl (fun hh => ?_) (fun hh => ?_)
    · have hh := h1 hh
      have hB := hti.bound ha hb'
      have hij : i + j < out.length := by omega
      have hst := hti.step hg (by omega) hB
      rw [getD_app0] at hB hst
      have hm : wa.getD i 0 * wb.getD j 0 < 18446744073709551616 := by omega
      have hou := getD_lt hti.ok (i + j)
      refine AWP_skip ?_
      show AWP _ _ _ _ _ _
      refine AWP_seq ?_
      refine AWP_block ?_
      refine a_keep [(2, .ptr 2 0), (3, .ptr 3 0), (4, .ptr 4 0), (5, .val (.one (.own 18 1 0 (wa.length + (wb.length + 1))))), (6, dI i), (7, dL c), (8, dI j)] [(2, some (.box (IC na wa))), (3, some (.box (IC nb wb))), (4, some (.box [.d (.lit (.bool false)), .nil])), (18, some (.arr 1 (out.map cW)))] ⟨rfl, rfl, rfl, rfl, rfl, rfl, rfl, trivial⟩ ⟨rfl, rfl, rfl, rfl, trivial⟩ ?_
      refine AWP_reg_seq tok fun K hK => ?_
      refine s_move rfl rfl rfl ?_
      refine s_move rfl rfl rfl ?_
      refine s_move rfl rfl rfl ?_
      refine s_bin rfl (e_add (c := ((i + j : Nat) : Int)) (by omega) (by omega)) rfl ?_
      refine s_indexAddr rfl (x_o (i := i + j) (j := i + j) rfl rfl rfl rfl rfl (by omega) (by omega)) rfl ?_
      refine s_load rfl (l_wD rfl rfl rfl rfl hij) rfl ?_
      refine s_conv rfl (e_conv rfl rfl rfl (wrapL (hti.ok.lt64 _))) rfl ?_
      refine s_move rfl rfl rfl ?_
      refine s_bin rfl (e_addL rfl (by omega)) rfl ?_
      refine s_assign rfl rfl rfl ?_
      refine s_end (hK _ ?_); clear hK K
      refine a_join (α := Unit) (fun _ => mk 83 [(2, .ptr 2 0), (3, .ptr 3 0), (4, .ptr 4 0), (5, .val (.one (.own 18 1 0 (wa.length + (wb.length + 1))))), (6, dI i), (8, dI j), (9, dL (wa.getD i 0 * wb.getD j 0 + out.getD (i + j) 0 + c))] [(2, some (.box (IC na wa))), (3, some (.box (IC nb wb))), (4, some (.box [.d (.lit (.bool false)), .nil])), (18, some (.arr 1 (out.map cW)))] []) (fun _ => True) ?_ ?_
      · refine AWP_reg_seq tok fun K hK => ?_
        refine s_move rfl rfl rfl ?_
        refine s_fieldAddr rfl rfl rfl ?_
        refine s_load rfl rfl rfl ?_
        refine s_blt rfl (len_w rfl rfl rfl) rfl ?_
        refine s_bin rfl rfl rfl ?_
        refine s_end (hK _ ?_); clear hK K
        refine a_cond rfl (fun hx => ?_) (fun hx => ?_)
        · have hx : j < wb.length := by simp at hx; omega
          refine a_keep [(2, .ptr 2 0), (3, .ptr 3 0), (4, .ptr 4 0), (5, .val (.one (.own 18 1 0 (wa.length + (wb.length + 1))))), (6, dI i), (8, dI j), (9, dL (out.getD (i + j) 0 + c))] [(2, some (.box (IC na wa))), (3, some (.box (IC nb wb))), (4, some (.box [.d (.lit (.bool false)), .nil])), (18, some (.arr 1 (out.map cW)))] ⟨rfl, rfl, rfl, rfl, rfl, rfl, rfl, trivial⟩ ⟨rfl, rfl, rfl, rfl, trivial⟩ ?_
          refine a_draw1 tok mixed (A := [[], [], [], [], [1], [1, 2, 3], [1, 2, 3, 4], [], [], [], [7], [7, 8, 9], [7, 8, 9, 10], [1, 2, 3, 4, 5, 7, 8, 9, 10, 11], [1, 2, 3, 4, 5, 6, 7, 8, 9, 10, 11, 12], []]) (an := [{}, {}, {}, {}, {}, {}, {}, {}, {}, {}, {}, {}, {}, {}, {}, {}]) rfl (by kernel_rfl) rfl fun K hK => ?_
          refine s_move rfl rfl rfl ?_
          refine s_fieldAddr rfl rfl rfl ?_
          refine s_load rfl rfl rfl ?_
          refine s_move rfl rfl rfl ?_
          refine s_indexAddr rfl (x_wD (i := i) rfl rfl rfl rfl rfl hg) rfl ?_
          refine s_load rfl rfl rfl ?_
          refine s_conv rfl (e_conv rfl rfl rfl (wrapL (ha.lt64 i))) rfl ?_
          refine s_fieldAddr rfl rfl rfl ?_
          refine s_load rfl rfl rfl ?_
          refine s_move rfl rfl rfl ?_
          refine s_indexAddr rfl (x_wD (i := j) rfl rfl rfl rfl rfl hx) rfl ?_
          refine s_load rfl rfl rfl ?_
          refine s_conv rfl (e_conv rfl rfl rfl (wrapL (hb.lt64 j))) rfl ?_
          refine s_bin rfl (e_mulL rfl hm) rfl ?_
          refine s_bin rfl (e_addL (z := wa.getD i 0 * wb.getD j 0 + out.getD (i + j) 0 + c) (by omega) hB) rfl ?_
          refine s_assign rfl rfl rfl ?_
          refine s_end (hK _ ?_); clear hK K
          exact ⟨(), trivial, Wk.mk' ⟨rfl, rfl, rfl, rfl, rfl, rfl, rfl, trivial⟩ ⟨rfl, rfl, rfl, rfl, trivial⟩⟩
        · have hx : wb.length ≤ j := by simp at hx; omega
          refine AWP_skip ?_
          exact ⟨(), trivial, Wk.mk' ⟨rfl, rfl, rfl, rfl, rfl, rfl, dL_eq (by rw [getD_end hx]; omega), trivial⟩ ⟨rfl, rfl, rfl, rfl, trivial⟩⟩
      rintro - -
      show AWP _ _ _ _ _ (mk 83 [(2, .ptr 2 0), (3, .ptr 3 0), (4, .ptr 4 0), (5, .val (.one (.own 18 1 0 (wa.length + (wb.length + 1))))), (6, dI i), (8, dI j), (9, dL (wa.getD i 0 * wb.getD j 0 + out.getD (i + j) 0 + c))] [(2, some (.box (IC na wa))), (3, some (.box (IC nb wb))), (4, some (.box [.d (.lit (.bool false)), .nil])), (18, some (.arr 1 (out.map cW)))] [])
      refine AWP_reg_seq tok fun K hK => ?_
      refine s_move rfl rfl rfl ?_
      refine s_move rfl rfl rfl ?_
      refine s_move rfl rfl rfl ?_
      refine s_bin rfl (e_add (c := ((i + j : Nat) : Int)) (by omega) (by omega)) rfl ?_
      refine s_move rfl rfl rfl ?_
      refine s_conv rfl (e_conv rfl rfl rfl (wrapU _)) rfl ?_
      refine s_indexAddr rfl (x_o (i := i + j) (j := i + j) rfl rfl rfl rfl rfl (by omega) (by omega)) rfl ?_
      refine s_store rfl (st_w rfl rfl rfl hij) rfl rfl rfl ?_
      refine s_end (hK _ ?_); clear hK K
      refine AWP_reg tok fun K hK => ?_
      refine s_move rfl rfl rfl ?_
      refine s_bin rfl (e_shrL (s := 32) (by omega) rfl) rfl ?_
      refine s_assign rfl rfl rfl ?_
      refine s_end (hK _ ?_); clear hK K
      show AWP _ _ _ _ _ _
      refine AWP_reg tok fun K hK => ?_
      refine s_move rfl rfl rfl ?_
      refine s_bin rfl (e_add (c := ((j + 1 : Nat) : Int)) (by omega) (by omega)) rfl ?_
      refine s_assign rfl rfl rfl ?_
      refine s_end (hK _ ?_); clear hK K
      exact ⟨(j + 1, _, _), by simp only; omega, ⟨by simp only; omega, hst⟩, Wk.mk' ⟨rfl, rfl, rfl, rfl, rfl, rfl, rfl, trivial⟩ ⟨rfl, rfl, rfl, rfl, trivial⟩⟩
    · obtain ⟨hx, hc0⟩ := h2 hh
      subst hc0
      refine AWP_exit ?_
      show AWP _ _ _ _ _ _
      refine AWP_reg tok fun K hK => ?_
      refine s_move rfl rfl rfl ?_
      refine s_bin rfl (e_add (c := ((i + 1 : Nat) : Int)) (by omega) (by omega)) rfl ?_
      refine s_assign rfl rfl rfl ?_
      refine s_end (hK _ ?_); clear hK K
      exact ⟨(i + 1, _), by simp only; omega, ⟨hg, hti.rowk hx⟩, Wk.mk' ⟨rfl, rfl, rfl, rfl, rfl, trivial⟩ ⟨rfl, rfl, rfl, rfl, trivial⟩⟩
  · have hg : i = wa.length := by simp at hg; omega
    subst hg
    have hfin := hti.fin
    have hw0 : wv (wb ++ [0]) = wv wb := by rw [wv_append]; simp [wv]
    have hout : wv out = wv wa * wv wb := by
      have hv := hti.val
      simp only [List.take_zero, wv, Nat.mul_zero, Nat.zero_mul, Nat.add_zero, List.take_of_length_le (Nat.le_refl _)] at hv
      rw [hv, hw0]
    have hol := hti.len
    rw [lb'] at hol
    refine AWP_exit ?_
    show AWP _ _ _ _ _ _
    refine a_fz [2, 3, 4, 5] [2, 3, 4, 18] 18 [(2, .ptr 2 0), (3, .ptr 3 0), (4, .ptr 4 0), (5, V1 (dW out))] [(2, some (.box (IC na wa))), (3, some (.box (IC nb wb))), (4, some (.box [.d (.lit (.bool false)), .nil]))] rfl ?_ ?_ ?_
    · exact ⟨rfl, rfl, rfl, frz_w rfl (by omega), trivial⟩
    · exact ⟨rfl, rfl, rfl, trivial⟩
    refine AWP_reg_seq tok fun K hK => ?_
    refine s_fieldAddr rfl rfl rfl ?_
    refine s_load rfl rfl rfl ?_
    refine s_fieldAddr rfl rfl rfl ?_
    refine s_load rfl rfl rfl ?_
    refine s_bin rfl rfl rfl ?_
    refine s_move rfl rfl rfl ?_
    refine s_build rfl rfl rfl ?_
    refine s_call rfl rfl (r1Norm_z (!(na == nb)) out (zv na wa * zv nb wb) hti.ok (by omega) (by unfold zv; rw [hout]; cases na <;> cases nb <;> simp [Int.natCast_mul, Int.mul_neg, Int.neg_mul])) rfl rfl rfl rfl ?_
    refine s_store rfl rfl rfl rfl rfl ?_
    refine s_end (hK _ ?_); clear hK K
    refine AWP_ret ?_
    repeat (with_reducible refine tq_ret ?_)
    exact post_ret (fin_mk (by rfl) (by rfl) (by rfl))

theorem pow32 (k : Nat) : 4294967296 ^ k = 2 ^ (32 * k) := by rw [show 4294967296 = 2 ^ 32 from rfl, ← Nat.pow_mul]
theorem pow_split (i : Nat) : 2 ^ i = 4294967296 ^ (i / 32) * 2 ^ (i % 32) := by rw [pow32, ← Nat.pow_add, Nat.div_add_mod]
theorem bit_word {m : List Nat} (hm : wOK m) (i : Nat) : m.getD (i / 32) 0 / 2 ^ (i % 32) % 2 = wv m / 2 ^ i % 2 := by
  rw [wv_get hm, pow_split i, ← Nat.div_div_eq_div_mul]
  generalize wv m / 4294967296 ^ (i / 32) = y
  have hs : i % 32 < 32 := Nat.mod_lt _ (by decide)
  generalize i % 32 = s at *
  have e : 4294967296 = 2 ^ s * (2 * 2 ^ (31 - s)) := by
    rw [← Nat.pow_succ', ← Nat.pow_add, show s + (31 - s + 1) = 32 from by omega]
  rw [e, Nat.mod_mul_right_div_self, Nat.mod_mul_right_mod]

theorem r1bit_c (m : List Nat) (i : Nat) (hm : wOK m) (lm : m.length ≤ 1073741824) (hi : i ≤ 9223372036854775807) :
    Con Tryz.prog 109 [V1 (dW m), dI i] { v := dU (wv m / 2 ^ i % 2) } := by
  refine con_intro (fn := Tryz.f109) tok Tryz.func109 (by kernel_rfl) rfl ?_
  intro w0 X
  rw [entry_mkE _ _ [(0, V1 (dW m)), (1, dI i)] rfl rfl]
  refine AWP_reg_seq tok fun K hK => ?_
  refine s_assign rfl rfl rfl ?_
  refine s_end (hK _ ?_); clear hK K
  refine AWP_seq ?_
  refine AWP_reg_seq tok fun K hK => ?_
  refine s_move rfl rfl rfl ?_
  refine s_bin rfl (e_quoI (y := 32) (by omega) hi rfl) rfl ?_
  refine s_move rfl rfl rfl ?_
  refine s_blt rfl (len_w rfl rfl rfl) rfl ?_
  refine s_bin rfl rfl rfl ?_
  refine s_end (hK _ ?_); clear hK K
  refine a_cond rfl (fun hc => ?_) (fun hc => ?_)
  · have hc : m.length ≤ i / 32 := by simp at hc; omega
    have h0 : wv m / 2 ^ i = 0 := by
      refine Nat.div_eq_of_lt (Nat.lt_of_lt_of_le (wv_lt hm) ?_)
      rw [pow32]; exact Nat.pow_le_pow_right (by decide) (by omega)
    refine AWP_reg_seq tok fun K hK => ?_
    refine s_assign rfl rfl rfl ?_
    refine s_end (hK _ ?_); clear hK K
    refine AWP_ret ?_
    repeat (with_reducible refine tq_ret ?_)
    exact post_ret (fin_mk (by rfl) (by rfl) (by rw [h0]; rfl))
  · have hc : i / 32 < m.length := by simp at hc; omega
    refine AWP_skip ?_
    show AWP _ _ _ _ _ _
    refine AWP_reg_seq tok fun K hK => ?_
    refine s_move rfl rfl rfl ?_
    refine s_move rfl rfl rfl ?_
    refine s_bin rfl (e_quoI (y := 32) (by omega) hi rfl) rfl ?_
    refine s_indexAddr rfl (x_wD (i := i / 32) rfl rfl rfl rfl rfl hc) rfl ?_
    refine s_load rfl rfl rfl ?_
    refine s_move rfl rfl rfl ?_
    refine s_bin rfl (e_remI (y := 32) (by omega) hi rfl) rfl ?_
    refine s_conv rfl (e_conv rfl rfl rfl (wrapL (by omega))) rfl ?_
    refine s_bin rfl (e_shrU (s := i % 32) (by omega) rfl) rfl ?_
    refine s_bin rfl (e_remU (y := 2) (by omega) rfl) rfl ?_
    refine s_assign rfl rfl rfl ?_
    refine s_end (hK _ ?_); clear hK K
    refine AWP_ret ?_
    repeat (with_reducible refine tq_ret ?_)
    exact post_ret (fin_mk (by rfl) (by rfl) (by rw [bit_word hm]; rfl))

theorem bit_step {A B n : Nat} (hB : 0 < B) : (2 * (A / 2 ^ (n + 1) % B) + A / 2 ^ n % 2) / B + 2 * (A / 2 ^ (n + 1) / B) = A / 2 ^ n / B ∧ (2 * (A / 2 ^ (n + 1) % B) + A / 2 ^ n % 2) % B = A / 2 ^ n % B := by
  have e : A / 2 ^ (n + 1) = A / 2 ^ n / 2 := by rw [Nat.pow_succ, Nat.div_div_eq_div_mul]
  rw [e]
  generalize A / 2 ^ n = y
  have h := Nat.div_add_mod (y / 2) B
  have h2 := Nat.div_add_mod y 2
  generalize y / 2 / B = q at *
  generalize y / 2 % B = r at *
  generalize y / 2 = x at *
  generalize y % 2 = b at *
  have : y = (2 * r + b) + B * (2 * q) := by grind
  rw [this, Nat.add_mul_div_left _ _ hB, Nat.add_mul_mod_self_left]
  exact ⟨rfl, rfl⟩
/-- The quotient's words, when the bits from n on are found. -/
structure BQ (A B L n : Nat) (q : List Nat) : Prop where
  ok : wOK q
  len : q.length = L
  val : wv q = A / 2 ^ n / B * 2 ^ n
theorem BQ.zero {A B L n : Nat} {q : List Nat} (h : BQ A B L (n + 1) q) (h0 : A / 2 ^ n / B = 2 * (A / 2 ^ (n + 1) / B)) : BQ A B L n q :=
  ⟨h.ok, h.len, by rw [h.val, h0, Nat.pow_succ]; grind⟩
theorem BQ.one {A B L n : Nat} {q : List Nat} (h : BQ A B L (n + 1) q) (h0 : A / 2 ^ n / B = 1 + 2 * (A / 2 ^ (n + 1) / B)) (hn : n / 32 < L) :
    BQ A B L n (q.set (n / 32) ((q.getD (n / 32) 0 + 1 * 2 ^ (n % 32) % 4294967296) % 4294967296)) := by
  have hs : n % 32 < 32 := Nat.mod_lt _ (by decide)
  have hp : 1 * 2 ^ (n % 32) % 4294967296 = 2 ^ (n % 32) := by
    rw [Nat.one_mul, Nat.mod_eq_of_lt]
    exact Nat.pow_lt_pow_right (by decide) hs
  have hw : q.getD (n / 32) 0 % 2 ^ (n % 32 + 1) = 0 := by
    rw [wv_get h.ok, h.val]
    have e1 : A / 2 ^ (n + 1) / B * 2 ^ (n + 1) / 4294967296 ^ (n / 32) = A / 2 ^ (n + 1) / B * 2 ^ (n % 32 + 1) := by
      rw [Nat.pow_succ, pow_split n, Nat.pow_succ]
      have : A / (4294967296 ^ (n / 32) * 2 ^ (n % 32) * 2) / B * (4294967296 ^ (n / 32) * 2 ^ (n % 32) * 2) = A / (4294967296 ^ (n / 32) * 2 ^ (n % 32) * 2) / B * (2 ^ (n % 32) * 2) * 4294967296 ^ (n / 32) := by
        generalize A / (4294967296 ^ (n / 32) * 2 ^ (n % 32) * 2) / B = z
        generalize 2 ^ (n % 32) = y
        generalize 4294967296 ^ (n / 32) = x
        grind
      rw [this, Nat.mul_div_cancel _ (pow_pos _)]
    rw [e1]
    have e2 : 4294967296 = 2 ^ (n % 32 + 1) * 2 ^ (31 - n % 32) := by rw [← Nat.pow_add, show n % 32 + 1 + (31 - n % 32) = 32 from by omega]
    rw [e2, Nat.mod_mul_right_mod, Nat.mul_mod_left]
  have hlt : q.getD (n / 32) 0 + 2 ^ (n % 32) < 4294967296 := by
    have h1 := getD_lt h.ok (n / 32)
    obtain ⟨z, hz⟩ := Nat.dvd_of_mod_eq_zero hw
    rw [hz] at h1 ⊢
    have e2 : 4294967296 = 2 ^ (n % 32 + 1) * 2 ^ (31 - n % 32) := by rw [← Nat.pow_add, show n % 32 + 1 + (31 - n % 32) = 32 from by omega]
    have h2 : z < 2 ^ (31 - n % 32) := Nat.lt_of_mul_lt_mul_left (a := 2 ^ (n % 32 + 1)) (by rw [← e2]; exact h1)
    have h3 : 2 ^ (n % 32 + 1) * (z + 1) ≤ 2 ^ (n % 32 + 1) * 2 ^ (31 - n % 32) := Nat.mul_le_mul_left _ h2
    rw [← e2, Nat.mul_succ, Nat.pow_succ] at h3
    have h4 : 0 < 2 ^ (n % 32) := Nat.two_pow_pos _
    rw [Nat.pow_succ]; omega
  rw [hp, Nat.mod_eq_of_lt hlt]
  refine ⟨h.ok.set _ hlt, by rw [List.length_set]; exact h.len, ?_⟩
  have hsv := wv_setD (a := q) (i := n / 32) (by rw [h.len]; exact hn) (q.getD (n / 32) 0 + 2 ^ (n % 32))
  have hv := h.val
  rw [h0, Nat.add_mul, Nat.one_mul]
  rw [Nat.add_mul] at hsv
  have hps := pow_split n
  rw [Nat.mul_comm (4294967296 ^ (n / 32))] at hps
  rw [← hps] at hsv
  rw [Nat.pow_succ] at hv
  have : A / 2 ^ (n + 1) / B * (2 ^ n * 2) = 2 * (A / 2 ^ (n + 1) / B) * 2 ^ n := by
    generalize A / 2 ^ (n + 1) / B = z; grind
  rw [Nat.pow_succ] at this
  rw [this] at hv
  rw [Nat.pow_succ]
  omega

theorem r1divide_c (a b : List Nat) (ha : wOK a) (hb : wOK b) (tb : wTop b) (h0 : 0 < wv b) (la : a.length ≤ 268435456) (lb : b.length ≤ 268435456) :
    Con Tryz.prog 100 [V1 (dW a), V1 (dW b)] { v := .tup [.one (.d (dW (wof (wv a / wv b)))), .one (.d (dW (wof (wv a % wv b))))] } := by
  have hrl : ∀ n, n < 2 * wv b → (wof n).length ≤ b.length + 1 := by
    intro n hn
    have h1 := wv_lt hb
    refine wl_le ?_
    rw [Nat.pow_succ]; omega
  have hbw : b = wof (wv b) := top_uniq hb (wof_ok _) tb (wof_top _) (wv_wof _).symm
  refine con_intro (fn := Tryz.f100) tok Tryz.func100 (by kernel_rfl) rfl ?_
  intro w0 X
  rw [entry_mkE _ _ [(0, V1 (dW a)), (1, V1 (dW b))] rfl rfl]
  refine AWP_reg_seq tok fun K hK => ?_
  refine s_assign rfl rfl rfl ?_
  refine s_assign rfl rfl rfl ?_
  refine s_end (hK _ ?_); clear hK K
  refine AWP_reg_seq tok fun K hK => ?_
  refine s_move rfl rfl rfl ?_
  refine s_blt rfl (len_w rfl rfl rfl) rfl ?_
  refine s_makeSlice (sz := _) (es := _) (f := _) (v := _) rfl (mk_w (l := a.length) (c := a.length) rfl rfl rfl rfl rfl (Nat.le_of_ble_eq_true rfl) rfl rfl (by omega) (by omega)) rfl rfl ?_
  refine s_assign rfl rfl rfl ?_
  refine s_end (hK _ ?_); clear hK K
  refine AWP_reg_seq tok fun K hK => ?_
  refine s_assign rfl rfl rfl ?_
  refine s_end (hK _ ?_); clear hK K
  refine AWP_seq ?_
  refine AWP_reg_seq tok fun K hK => ?_
  refine s_move rfl rfl rfl ?_
  refine s_blt rfl (len_w rfl rfl rfl) rfl ?_
  refine s_bin rfl (e_mul (c := ((32 * a.length : Nat) : Int)) (by omega) (by omega)) rfl ?_
  refine s_bin rfl (e_sub rfl (by omega)) rfl ?_
  refine s_assign rfl rfl rfl ?_
  refine s_end (hK _ ?_); clear hK K
  refine AWP_block (a_loop (α := Nat × List Nat) (fun p => mk 54 [(7, V1 (dW (wof (wv a / 2 ^ p.1 % wv b)))), (0, V1 (dW a)), (1, V1 (dW b)), (6, .val (.one (.own 11 1 0 a.length))), (8, dI ((p.1 : Int) - 1))] [(11, some (.arr 1 (p.2.map cW)))] []) (fun p => p.1 ≤ 32 * a.length ∧ BQ (wv a) (wv b) a.length p.1 p.2) (fun p => p.1) (32 * a.length, List.replicate a.length 0) ?_ ⟨Nat.le_refl _, ?_⟩ ?_)
  · have hz : wv a / 2 ^ (32 * a.length) = 0 := by rw [← pow32]; exact Nat.div_eq_of_lt (wv_lt ha)
    simp only [hz, Nat.zero_mod]
    exact Wk.trans (Wk.mk' (E' := [(7, .val (.one .nil)), (0, V1 (dW a)), (1, V1 (dW b)), (6, .val (.one (.own 11 1 0 a.length))), (8, dI (((32 * a.length : Nat) : Int) - 1))]) (S' := [(11, some (.arr 1 ((List.replicate a.length 0).map cW)))]) ⟨rfl, rfl, rfl, rfl, rfl, trivial⟩ ⟨rfl, trivial⟩) Wk.nilD
  · have hz : wv a / 2 ^ (32 * a.length) = 0 := by rw [← pow32]; exact Nat.div_eq_of_lt (wv_lt ha)
    exact ⟨wOK.rep0 _, by simp, by simp only; rw [hz, wv_rep0]; simp⟩
  rintro ⟨m, q⟩ ⟨hm, hbq⟩
  simp only at hm hbq
  show AWP _ _ _ _ _ (mk 54 [(7, V1 (dW (wof (wv a / 2 ^ m % wv b)))), (0, V1 (dW a)), (1, V1 (dW b)), (6, .val (.one (.own 11 1 0 a.length))), (8, dI ((m : Int) - 1))] [(11, some (.arr 1 (q.map cW)))] [])
  have hql := hbq.len
  refine AWP_seq ?_
  refine AWP_reg_seq tok fun K hK => ?_
  refine s_move rfl rfl rfl ?_
  refine s_bin rfl rfl rfl ?_
  refine s_end (hK _ ?_); clear hK K
  refine a_cond rfl (fun hg => ?_) (fun hg => ?_)
  · obtain ⟨i, rfl⟩ : ∃ i, m = i + 1 := ⟨m - 1, by simp at hg; omega⟩
    obtain ⟨s1, s2⟩ := bit_step (A := wv a) (B := wv b) (n := i) h0
    have hr := Nat.mod_lt (wv a / 2 ^ (i + 1)) h0
    have hbit : wv a / 2 ^ i % 2 < 2 := Nat.mod_lt _ (by decide)
    generalize hx : wv a / 2 ^ (i + 1) % wv b = r at *
    generalize hy : wv a / 2 ^ i % 2 = bt at *
    refine AWP_skip ?_
    show AWP _ _ _ _ _ _
    refine AWP_seq ?_
    refine AWP_block ?_
    refine a_keep [(0, V1 (dW a)), (1, V1 (dW b)), (6, .val (.one (.own 11 1 0 a.length))), (7, V1 (dW (wof r))), (8, dI i)] [(11, some (.arr 1 (q.map cW)))] ⟨rfl, rfl, rfl, rfl, dI_eq (by omega), trivial⟩ ⟨rfl, trivial⟩ ?_
    have l1 := hrl r (by omega)
    refine AWP_reg_seq tok fun K hK => ?_
    refine s_move rfl rfl rfl ?_
    refine s_move rfl rfl rfl ?_
    refine s_call rfl rfl (r1add_c (wof r) (wof r) (wof_ok _) (wof_ok _) (by omega) (by omega)) rfl rfl rfl rfl ?_
    refine s_assign rfl rfl rfl ?_
    refine s_end (hK _ ?_); clear hK K
    refine a_join (α := Unit) (fun _ => mk 54 [(0, V1 (dW a)), (1, V1 (dW b)), (6, .val (.one (.own 11 1 0 a.length))), (7, V1 (dW (wof (2 * r + bt)))), (8, dI i)] [(11, some (.arr 1 (q.map cW)))] []) (fun _ => True) ?_ ?_
    · have l2 := hrl (r + r) (by omega)
      have e2 : wv (wof r) + wv (wof r) = r + r := by rw [wv_wof]
      refine AWP_reg_seq tok fun K hK => ?_
      refine s_move rfl rfl rfl ?_
      refine s_move rfl rfl rfl ?_
      refine s_call rfl rfl (hy ▸ r1bit_c a i ha (by omega) (by omega)) rfl rfl rfl rfl ?_
      refine s_bin rfl rfl rfl ?_
      refine s_end (hK _ ?_); clear hK K
      refine a_cond rfl (fun hc => ?_) (fun hc => ?_)
      · have hc : bt = 1 := by simp at hc; omega
        subst hc
        refine AWP_regW fun K hK => ?_
        refine w_step tok rfl ?_
        refine s_move rfl rfl rfl ?_
        refine s_end ?_
        refine w_step tok rfl ?_
        refine s_buildSlice rfl rfl rfl rfl ?_
        refine s_end ?_
        refine w_wk (Wk.fzNew rfl rfl rfl) ?_
        refine w_step tok rfl ?_
        refine s_call rfl rfl (r1add_c (wof (wv (wof r) + wv (wof r))) [1] (wof_ok _) (wOK.one (by decide)) (by rw [e2]; omega) (by simp)) rfl rfl rfl rfl ?_
        refine s_end ?_
        refine w_step tok rfl ?_
        refine s_assign rfl rfl rfl ?_
        refine s_end ?_
        refine w_end rfl (hK _ ?_); clear hK K
        refine ⟨(), trivial, Wk.mk' ⟨rfl, rfl, rfl, ?_, rfl, trivial⟩ ⟨rfl, trivial⟩⟩
        show V1 (dW _) = V1 (dW _)
        rw [wv_wof, e2, show wv [1] = 1 from rfl, show r + r + 1 = 2 * r + 1 from by omega]
      · have hc : bt = 0 := by simp at hc; omega
        subst hc
        refine AWP_skip ?_
        refine ⟨(), trivial, Wk.mk' ⟨rfl, rfl, rfl, ?_, rfl, trivial⟩ ⟨rfl, trivial⟩⟩
        show V1 (dW _) = V1 (dW _)
        rw [e2, show r + r = 2 * r + 0 from by omega]
    rintro - -
    show AWP _ _ _ _ _ (mk 54 [(0, V1 (dW a)), (1, V1 (dW b)), (6, .val (.one (.own 11 1 0 a.length))), (7, V1 (dW (wof (2 * r + bt)))), (8, dI i)] [(11, some (.arr 1 (q.map cW)))] [])
    have l3 := hrl (2 * r + bt) (by omega)
    refine AWP_reg_seq tok fun K hK => ?_
    refine s_move rfl rfl rfl ?_
    refine s_move rfl rfl rfl ?_
    refine s_call rfl rfl (r1cmp_c (wof (2 * r + bt)) b (wof_ok _) hb (wof_top _) tb (by omega) (by omega)) rfl rfl rfl rfl ?_
    refine s_bin rfl rfl rfl ?_
    refine s_end (hK _ ?_); clear hK K
    refine a_cond rfl (fun hc => ?_) (fun hc => ?_)
    · have hc : wv b ≤ 2 * r + bt := by
        have h1 := of_decide_eq_true hc
        have := mt (ncmp_lt (m := wv (wof (2 * r + bt))) (n := wv b)).2 (by omega)
        rw [wv_wof] at this; omega
      have hd1 : (2 * r + bt) / wv b = 1 := Nat.div_eq_of_lt_le (by omega) (by omega)
      have hd2 : (2 * r + bt) % wv b = 2 * r + bt - wv b := by rw [Nat.mod_eq_sub_mod hc, Nat.mod_eq_of_lt (by omega)]
      rw [hd1] at s1
      rw [hd2] at s2
      have hbl : b.length ≤ (wof (2 * r + bt)).length := by
        have := wl_mono hc
        unfold wl at this
        rwa [← hbw] at this
      have hi32 : i / 32 < q.length := by omega
      refine AWP_reg_seq tok fun K hK => ?_
      refine s_move rfl rfl rfl ?_
      refine s_move rfl rfl rfl ?_
      refine s_call rfl rfl (r1sub_c (wof (2 * r + bt)) b (wof_ok _) hb (by omega) hbl (by rw [wv_wof]; exact hc)) rfl rfl rfl rfl ?_
      refine s_assign rfl rfl rfl ?_
      refine s_end (hK _ ?_); clear hK K
      refine AWP_reg tok fun K hK => ?_
      refine s_move rfl rfl rfl ?_
      refine s_move rfl rfl rfl ?_
      refine s_bin rfl (e_quoI (y := 32) (by omega) (by omega) rfl) rfl ?_
      refine s_move rfl rfl rfl ?_
      refine s_move rfl rfl rfl ?_
      refine s_bin rfl (e_quoI (y := 32) (by omega) (by omega) rfl) rfl ?_
      refine s_indexAddr rfl (x_o (i := i / 32) (j := i / 32) rfl rfl rfl rfl rfl (by omega) (by omega)) rfl ?_
      refine s_load rfl (l_wD rfl rfl rfl rfl hi32) rfl ?_
      refine s_move rfl rfl rfl ?_
      refine s_bin rfl (e_remI (y := 32) (by omega) (by omega) rfl) rfl ?_
      refine s_conv rfl (e_conv rfl rfl rfl (wrapL (by omega))) rfl ?_
      refine s_bin rfl (e_shlU (x := 1) (s := i % 32) (by omega) rfl) rfl ?_
      refine s_bin rfl (e_addU rfl) rfl ?_
      refine s_indexAddr rfl (x_o (i := i / 32) (j := i / 32) rfl rfl rfl rfl rfl (by omega) (by omega)) rfl ?_
      refine s_store rfl (st_w rfl rfl rfl hi32) rfl rfl rfl ?_
      refine s_end (hK _ ?_); clear hK K
      show AWP _ _ _ _ _ _
      refine AWP_reg tok fun K hK => ?_
      refine s_move rfl rfl rfl ?_
      refine s_bin rfl (e_sub rfl (by omega)) rfl ?_
      refine s_assign rfl rfl rfl ?_
      refine s_end (hK _ ?_); clear hK K
      refine ⟨(i, _), by simp only; omega, ⟨by simp only; omega, hbq.one s1.symm (by omega)⟩, Wk.mk' ⟨?_, rfl, rfl, rfl, rfl, trivial⟩ ⟨rfl, trivial⟩⟩
      show V1 (dW _) = V1 (dW _)
      rw [wv_wof, s2]
    · have hc : 2 * r + bt < wv b := by
        have h1 := of_decide_eq_false hc
        have := (ncmp_lt (m := wv (wof (2 * r + bt))) (n := wv b)).1 (by omega)
        rwa [wv_wof] at this
      have hd1 : (2 * r + bt) / wv b = 0 := Nat.div_eq_of_lt hc
      have hd2 : (2 * r + bt) % wv b = 2 * r + bt := Nat.mod_eq_of_lt hc
      rw [hd1, Nat.zero_add] at s1
      rw [hd2] at s2
      refine AWP_skip ?_
      show AWP _ _ _ _ _ _
      refine AWP_reg tok fun K hK => ?_
      refine s_move rfl rfl rfl ?_
      refine s_bin rfl (e_sub rfl (by omega)) rfl ?_
      refine s_assign rfl rfl rfl ?_
      refine s_end (hK _ ?_); clear hK K
      refine ⟨(i, q), by simp only; omega, ⟨by simp only; omega, hbq.zero s1.symm⟩, Wk.mk' ⟨?_, rfl, rfl, rfl, rfl, trivial⟩ ⟨rfl, trivial⟩⟩
      show V1 (dW _) = V1 (dW _)
      rw [s2]
  · have hm0 : m = 0 := by simp at hg; omega
    subst hm0
    have hv := hbq.val
    simp only [Nat.pow_zero, Nat.div_one, Nat.mul_one] at hv
    refine AWP_exit ?_
    show AWP _ _ _ _ _ _
    refine a_fz [6, 7] [11] 11 [(6, V1 (dW q)), (7, V1 (dW (wof (wv a / 2 ^ 0 % wv b))))] [] rfl ?_ trivial ?_
    · exact ⟨frz_w rfl (by omega), rfl, trivial⟩
    refine AWP_reg_seq tok fun K hK => ?_
    refine s_move rfl rfl rfl ?_
    refine s_call rfl rfl (r1trim_c q hbq.ok (by omega)) rfl rfl rfl rfl ?_
    refine s_move rfl rfl rfl ?_
    refine s_assign rfl rfl rfl ?_
    refine s_assign rfl rfl rfl ?_
    refine s_end (hK _ ?_); clear hK K
    refine AWP_ret ?_
    repeat (with_reducible refine tq_ret ?_)
    exact post_ret (fin_mk (by rfl) (by rfl) (by rw [hv, Nat.pow_zero, Nat.div_one]; rfl))
end Go.Proofs.YtcafppnjemgkiaaGreat
