/- Part of a proof that a Go function answers true for every input. No condition. -/
import Derived.Test.YtcafppnjemgkiaaC5
import Derived.Test.YtcafppnjemgkiaaRows
import Derived.ProofKit
/- Displacements are as long as the steps of their links. No condition. -/
namespace Go.Proofs.Ytcafppnjemgkiaa
attribute [local irreducible] lexA

theorem fewB_ok {g : GR} (h : fewB g = true) (hw : ∀ r ∈ g.nodes, r.W) : (∀ r ∈ g.nodes, r.OK 2) ∧ g.nodes.length ≤ 18 ∧ g.links.length ≤ 50 := by
  rw [fewB, Bool.and_eq_true, decide_eq_true_eq] at h
  obtain ⟨h1, h2, h3⟩ := h
  rw [List.take_of_length_le (by omega), List.all_eq_true] at h1
  refine ⟨fun r hr => ?_, h2, h3⟩
  have := h1 r hr
  rw [shR, decide_eq_true_eq] at this
  exact ⟨(hw r hr).1, (hw r hr).2, this.1, this.2⟩
theorem fewB_l {g : GR} (h : (!fewB g) = false) : g.links.length ≤ 9223372036854775806 := by
  rw [Bool.not_eq_false', fewB, Bool.and_eq_true, decide_eq_true_eq] at h
  omega
theorem r2Mul_r (a b : RW) (z : Rat) (ha : a.OK 16777216) (hb : b.OK 16777216) (h : a.v * b.v = z) : Con Try.prog 23 [AG a.cs, AG b.cs] { v := AG (qzW z).cs } := by
  subst h
  exact r2Mul_q a.v b.v _ _ _ _ _ _ _ _ ha.op ha.oq hb.op hb.oq ha.lp ha.lq hb.lp hb.lq rfl rfl
theorem r2Add_r (a b : RW) (z : Rat) (ha : a.OK 16777216) (hb : b.OK 16777216) (h : a.v + b.v = z) : Con Try.prog 22 [AG a.cs, AG b.cs] { v := AG (qzW z).cs } := by
  subst h
  exact r2Add_q a.v b.v _ _ _ _ _ _ _ _ ha.op ha.oq hb.op hb.oq ha.lp ha.lq hb.lp hb.lq rfl rfl
theorem u8_i64 {k : Nat} (h : k < 256) : IntKind.i64.wrap ((k : Nat) : Int) = (k : Int) := IntWalk.i64_in _ (by omega)

theorem lLengths_c (g : GR) (k : Nat) (hk : k < 256) (hw : ∀ r ∈ g.nodes, r.W) : Con Try.prog 5 [AG g.cs, V1 (.lit (.int .u8 k))] { v := dB true } := by
  refine con_intro (fn := Try.f5) tok Try.func5 (by kernel_rfl) rfl ?_
  intro w0 X
  rw [entry_mkE _ _ [(0, AG g.cs), (1, V1 (.lit (.int .u8 k)))] rfl rfl]
  refine AWP_reg_seq tok fun K hK => ?_
  refine s_box rfl rfl rfl rfl rfl rfl ?_
  refine s_assign rfl rfl rfl ?_
  refine s_end (hK _ ?_); clear hK K
  refine AWP_seq ?_
  refine a_join (α := Bool) (fun c => mk 78 [(1, V1 (.lit (.int .u8 k))), (2, .ptr 2 0), (4, dB false), (26, dB c)] [(2, some (.box g.cs))] []) (fun c => c = !(fewB g && (validB g && decide (g.links.length ≠ 0)))) ?_ ?_
  · refine AWP_regW fun K hK => ?_
    refine w_step tok rfl ?_
    refine s_call rfl rfl (awake_c) rfl rfl rfl rfl ?_
    refine s_end ?_
    refine w_step tok rfl ?_
    refine s_un rfl rfl rfl ?_
    refine s_end ?_
    refine w_step tok rfl ?_
    refine s_move rfl rfl rfl ?_
    refine s_end ?_
    refine w_split (fun h0 => ?_) (fun h0 => ?_)
    · refine w_skip rfl rfl ?_
      refine w_skip rfl rfl ?_
      refine w_skip rfl rfl ?_
      refine w_step tok rfl ?_
      refine s_pick rfl rfl rfl ?_
      refine s_end ?_
      refine w_step tok rfl ?_
      refine s_move rfl rfl rfl ?_
      refine s_end ?_
      refine w_skip rfl rfl ?_
      refine w_skip rfl rfl ?_
      refine w_skip rfl rfl ?_
      refine w_step tok rfl ?_
      refine s_pick rfl rfl rfl ?_
      refine s_end ?_
      refine w_step tok rfl ?_
      refine s_move rfl rfl rfl ?_
      refine s_end ?_
      refine w_skip rfl rfl ?_
      refine w_skip rfl rfl ?_
      refine w_skip rfl rfl ?_
      refine w_skip rfl rfl ?_
      refine w_step tok rfl ?_
      refine s_pick rfl rfl rfl ?_
      refine s_end ?_
      refine w_end rfl (hK _ ?_); clear hK K
      first|(exact absurd h0 (by decide))|exact ⟨_, (by simp only [Bool.not_eq_true', Bool.not_eq_false'] at h0; simp only [h0, Bool.false_and, Bool.true_and, Bool.not_false, Bool.not_true, Bool.and_true, e_ne]; try (rw [Bool.eq_iff_iff]; simp only [beq_iff_eq, decide_eq_true_eq, Bool.not_eq_true', decide_eq_false_iff_not]; omega)), Wk.mk' ⟨rfl, rfl, rfl, rfl, trivial⟩ ⟨rfl, trivial⟩⟩
    · refine w_step tok rfl ?_
      refine s_load rfl rfl rfl ?_
      refine s_end ?_
      refine w_step tok rfl ?_
      refine s_call rfl rfl (few_c g) rfl rfl rfl rfl ?_
      refine s_end ?_
      refine w_step tok rfl ?_
      refine s_un rfl rfl rfl ?_
      refine s_end ?_
      refine w_step tok rfl ?_
      refine s_pick rfl rfl rfl ?_
      refine s_end ?_
      refine w_step tok rfl ?_
      refine s_move rfl rfl rfl ?_
      refine s_end ?_
      refine w_split (fun h1 => ?_) (fun h1 => ?_)
      · refine w_skip rfl rfl ?_
        refine w_skip rfl rfl ?_
        refine w_skip rfl rfl ?_
        refine w_step tok rfl ?_
        refine s_pick rfl rfl rfl ?_
        refine s_end ?_
        refine w_step tok rfl ?_
        refine s_move rfl rfl rfl ?_
        refine s_end ?_
        refine w_skip rfl rfl ?_
        refine w_skip rfl rfl ?_
        refine w_skip rfl rfl ?_
        refine w_skip rfl rfl ?_
        refine w_step tok rfl ?_
        refine s_pick rfl rfl rfl ?_
        refine s_end ?_
        refine w_end rfl (hK _ ?_); clear hK K
        first|(exact absurd h0 (by decide))|exact ⟨_, (by simp only [Bool.not_eq_true', Bool.not_eq_false'] at h0 h1; simp only [h0, h1, Bool.false_and, Bool.true_and, Bool.not_false, Bool.not_true, Bool.and_true, e_ne]; try (rw [Bool.eq_iff_iff]; simp only [beq_iff_eq, decide_eq_true_eq, Bool.not_eq_true', decide_eq_false_iff_not]; omega)), Wk.mk' ⟨rfl, rfl, rfl, rfl, trivial⟩ ⟨rfl, trivial⟩⟩
      · refine w_step tok rfl ?_
        refine s_load rfl rfl rfl ?_
        refine s_end ?_
        refine w_step tok rfl ?_
        refine s_call rfl rfl (r28Valid_c g (fewB_l h1)) rfl rfl rfl rfl ?_
        refine s_end ?_
        refine w_step tok rfl ?_
        refine s_un rfl rfl rfl ?_
        refine s_end ?_
        refine w_step tok rfl ?_
        refine s_pick rfl rfl rfl ?_
        refine s_end ?_
        refine w_step tok rfl ?_
        refine s_move rfl rfl rfl ?_
        refine s_end ?_
        refine w_split (fun h2 => ?_) (fun h2 => ?_)
        · refine w_skip rfl rfl ?_
          refine w_skip rfl rfl ?_
          refine w_skip rfl rfl ?_
          refine w_skip rfl rfl ?_
          refine w_step tok rfl ?_
          refine s_pick rfl rfl rfl ?_
          refine s_end ?_
          refine w_end rfl (hK _ ?_); clear hK K
          first|(exact absurd h0 (by decide))|exact ⟨_, (by simp only [Bool.not_eq_true', Bool.not_eq_false'] at h0 h1 h2; simp only [h0, h1, h2, Bool.false_and, Bool.true_and, Bool.not_false, Bool.not_true, Bool.and_true, e_ne]; try (rw [Bool.eq_iff_iff]; simp only [beq_iff_eq, decide_eq_true_eq, Bool.not_eq_true', decide_eq_false_iff_not]; omega)), Wk.mk' ⟨rfl, rfl, rfl, rfl, trivial⟩ ⟨rfl, trivial⟩⟩
        · refine w_step tok rfl ?_
          refine s_fieldAddr rfl rfl rfl ?_
          refine s_end ?_
          refine w_step tok rfl ?_
          refine s_load rfl rfl rfl ?_
          refine s_end ?_
          refine w_step tok rfl ?_
          refine s_blt rfl (len_m LK.dc rfl rfl) rfl ?_
          refine s_end ?_
          refine w_step tok rfl ?_
          refine s_bin rfl rfl rfl ?_
          refine s_end ?_
          refine w_step tok rfl ?_
          refine s_pick rfl rfl rfl ?_
          refine s_end ?_
          refine w_end rfl (hK _ ?_); clear hK K
          first|(exact absurd h0 (by decide))|exact ⟨_, (by simp only [Bool.not_eq_true', Bool.not_eq_false'] at h0 h1 h2; simp only [h0, h1, h2, Bool.false_and, Bool.true_and, Bool.not_false, Bool.not_true, Bool.and_true, e_ne]; try (rw [Bool.eq_iff_iff]; simp only [beq_iff_eq, decide_eq_true_eq, Bool.not_eq_true', decide_eq_false_iff_not]; omega)), Wk.mk' ⟨rfl, rfl, rfl, rfl, trivial⟩ ⟨rfl, trivial⟩⟩
  rintro c rfl
  refine a_cond rfl (fun hc => ?_) (fun hc => ?_)
  · refine AWP_reg_seq tok fun K hK => ?_
    refine s_call rfl rfl (awake_c) rfl rfl rfl rfl ?_
    refine s_assign rfl rfl rfl ?_
    refine s_end (hK _ ?_); clear hK K
    refine AWP_ret ?_
    repeat (with_reducible refine tq_ret ?_)
    exact post_ret (fin_mk (by rfl) (by rfl) (by rfl))
  rw [Bool.not_eq_false', Bool.and_eq_true, Bool.and_eq_true, decide_eq_true_eq] at hc
  obtain ⟨h1, h2, h3⟩ := hc
  obtain ⟨ok, l1, l2⟩ := fewB_ok h1 hw
  have gv := validB_iff.1 h2
  obtain ⟨i, hi⟩ : ∃ i, k % g.links.length = i := ⟨_, rfl⟩
  have hil : i < g.links.length := by rw [← hi]; exact Nat.mod_lt _ (by omega)
  have lv := linkB_iff.1 (gv.lk _ (List.getElem_mem hil))
  have ea : alongV g (i : Int) = (alS (frN g g.links[i]) g.links[i], 0) := by
    rw [alongV, if_pos h2, dif_pos ⟨by omega, by omega⟩]; rfl
  have ca := gAlong_c g (i : Int) (fun r hr => (ok r hr).mono rfl) (by omega)
  rw [ea] at ca
  obtain ⟨l, hl⟩ : ∃ l, g.links[i] = l := ⟨_, rfl⟩
  rw [hl] at ca lv
  have oa : (alS (frN g l) l).OK 64 := alS_ok (k := 2) (ok _ (frN_mem lv)) rfl lv.ix lv.iy rfl
  obtain ⟨d, hd⟩ : ∃ d, alS (frN g l) l = d := ⟨_, rfl⟩
  rw [hd] at ca oa
  have hlen : d.x.v * d.x.v + d.y.v * d.y.v = ((l.x * l.x + l.y * l.y : Int) : Rat) := by
    rw [← hd]
    have := turn_len (frN g l).p (frN g l).q l.x l.y
    simp only [alS, szW, qzW_v, alX, alY, Rat.intCast_add, Rat.intCast_mul]
    exact this
  have lx := lv.x
  have ly := lv.y
  have bx : 0 ≤ l.x * l.x ∧ l.x * l.x ≤ 1048576 * 1048576 := sq_le lx
  have by' : 0 ≤ l.y * l.y ∧ l.y * l.y ≤ 1048576 * 1048576 := sq_le ly
  have qx : ql (d.x.v * d.x.v) ≤ 128 := ql_mul_le (oa.x.ql rfl) (oa.x.ql rfl)
  have qy : ql (d.y.v * d.y.v) ≤ 128 := ql_mul_le (oa.y.ql rfl) (oa.y.ql rfl)
  have c1 := r2Mul_r d.x d.x _ (oa.x.mono rfl) (oa.x.mono rfl) rfl
  have c2 := r2Mul_r d.y d.y _ (oa.y.mono rfl) (oa.y.mono rfl) rfl
  have c3 := r2Add_r (qzW (d.x.v * d.x.v)) (qzW (d.y.v * d.y.v)) ((l.x * l.x + l.y * l.y : Int) : Rat) ((qzW_ok qx).mono rfl) ((qzW_ok qy).mono rfl) (by rw [qzW_v, qzW_v]; exact hlen)
  have hz : I64 (l.x * l.x + l.y * l.y) := ⟨by omega, by omega⟩
  have c4 := r2OfI_c (l.x * l.x + l.y * l.y) hz
  refine AWP_skip ?_
  show AWP _ _ _ _ _ _
  refine a_draw tok mixed (A := [[], [], [], [], [], [], [4], [2, 4, 5], [0, 2, 3, 4, 5, 6], [0, 1, 2, 3, 4, 5, 6, 7], [], []]) (an := [{}, {}, {}, {}, {}, {}, {}, {}, {}, {}, {}, {}]) rfl (by kernel_rfl) rfl fun K hK => ?_
  refine s_fieldAddr rfl rfl rfl ?_
  refine s_load rfl rfl rfl ?_
  refine s_move rfl rfl rfl ?_
  refine s_conv rfl (e_conv rfl rfl rfl (u8_i64 hk)) rfl ?_
  refine s_fieldAddr rfl rfl rfl ?_
  refine s_load rfl rfl rfl ?_
  refine s_blt rfl (len_m LK.dc rfl rfl) rfl ?_
  refine s_bin rfl (e_remI (by omega) (by omega) hi) rfl ?_
  refine s_indexAddr rfl (x_m LK.dc rfl rfl rfl rfl hil rfl) rfl ?_
  refine s_load rfl rfl rfl ?_
  refine s_alloc rfl rfl rfl rfl rfl rfl ?_
  refine s_store rfl rfl rfl rfl rfl ?_
  refine s_end (hK _ ?_); clear hK K
  rw [hl]
  refine a_draw tok mixed (A := [[], [], [], [], [], [3], [1, 3, 4], [1, 2, 3, 4, 5], [0, 1, 2, 3, 4, 5, 6], [0, 1, 2, 3, 4, 5, 6, 7], [0, 1, 2, 3, 4, 5, 6, 7], [], [], []]) (an := [{}, {}, {}, {}, {}, {}, {}, {}, {}, {}, {}, { c := [46] }, {}, {}]) rfl (by kernel_rfl) rfl fun K hK => ?_
  refine s_load rfl rfl rfl ?_
  refine s_move rfl rfl rfl ?_
  refine s_conv rfl (e_conv rfl rfl rfl (u8_i64 hk)) rfl ?_
  refine s_fieldAddr rfl rfl rfl ?_
  refine s_load rfl rfl rfl ?_
  refine s_blt rfl (len_m LK.dc rfl rfl) rfl ?_
  refine s_bin rfl (e_remI (by omega) (by omega) hi) rfl ?_
  refine s_call rfl rfl (ca) rfl rfl rfl rfl ?_
  refine s_move rfl rfl rfl ?_
  refine s_extract rfl rfl rfl ?_
  refine s_extract rfl rfl rfl ?_
  refine s_alloc rfl rfl rfl rfl rfl rfl ?_
  refine s_store rfl rfl rfl rfl rfl ?_
  refine s_assign rfl rfl rfl ?_
  refine s_end (hK _ ?_); clear hK K
  refine a_draw tok mixed (A := [[], [], [], [], [0, 2], [], [], [], [], [0, 1, 2, 3, 5, 7], [0, 1, 2, 3, 5, 6, 7, 8], [], []]) (an := [{}, {}, {}, {}, {}, { c := [53] }, { c := [53] }, { c := [53] }, { c := [53] }, {}, {}, { c := [53, 58, 59] }, {}]) rfl (by kernel_rfl) rfl fun K hK => ?_
  refine s_fieldAddr rfl rfl rfl ?_
  refine s_load rfl rfl rfl ?_
  refine s_fieldAddr rfl rfl rfl ?_
  refine s_load rfl rfl rfl ?_
  refine s_call rfl rfl (c1) rfl rfl rfl rfl ?_
  refine s_fieldAddr rfl rfl rfl ?_
  refine s_load rfl rfl rfl ?_
  refine s_fieldAddr rfl rfl rfl ?_
  refine s_load rfl rfl rfl ?_
  refine s_call rfl rfl (c2) rfl rfl rfl rfl ?_
  refine s_call rfl rfl (c3) rfl rfl rfl rfl ?_
  refine s_alloc rfl rfl rfl rfl rfl rfl ?_
  refine s_store rfl rfl rfl rfl rfl ?_
  refine s_end (hK _ ?_); clear hK K
  refine a_draw tok mixed (A := [[], [], [0], [0, 1], [0, 1], [0, 1], [0, 1], [0, 1], [0, 1, 4, 6], [0, 1], [0, 1], [0, 1], [0, 1], [0, 1, 9, 11], [0, 1, 4, 5, 6, 7, 9, 10, 11, 12], [0, 1, 4, 5, 6, 7, 8, 9, 10, 11, 12, 13], [0, 1, 4, 5, 6, 7, 8, 9, 10, 11, 12, 13, 14], [0, 1, 3, 4, 5, 6, 7, 8, 9, 10, 11, 12, 13, 14, 15], []]) (an := [{}, {}, {}, {}, {}, {}, {}, {}, {}, {}, {}, {}, {}, {}, {}, {}, {}, {}, {}]) rfl (by kernel_rfl) rfl fun K hK => ?_
  refine s_move rfl rfl rfl ?_
  refine s_bin rfl rfl rfl ?_
  refine s_move rfl rfl rfl ?_
  refine s_load rfl rfl rfl ?_
  refine s_fieldAddr rfl rfl rfl ?_
  refine s_load rfl rfl rfl ?_
  refine s_fieldAddr rfl rfl rfl ?_
  refine s_load rfl rfl rfl ?_
  refine s_bin rfl (e_mul rfl (by omega)) rfl ?_
  refine s_fieldAddr rfl rfl rfl ?_
  refine s_load rfl rfl rfl ?_
  refine s_fieldAddr rfl rfl rfl ?_
  refine s_load rfl rfl rfl ?_
  refine s_bin rfl (e_mul rfl (by omega)) rfl ?_
  refine s_bin rfl (e_add rfl (by omega)) rfl ?_
  refine s_call rfl rfl (c4) rfl rfl rfl rfl ?_
  refine s_call rfl rfl (rat_same _ (RS_int _ hz)) rfl rfl rfl rfl ?_
  refine s_pick rfl rfl rfl ?_
  refine s_assign rfl rfl rfl ?_
  refine s_end (hK _ ?_); clear hK K
  refine AWP_ret ?_
  repeat (with_reducible refine tq_ret ?_)
  exact post_ret (fin_mk (by rfl) (by rfl) (by rfl))
end Go.Proofs.Ytcafppnjemgkiaa

/- For every input GraphLengths answers true, and its arguments read behind the call as before. No condition. -/
namespace Go.Proofs.Ytcafppnjemgkiaa
open Go.ChangeShapes Go.WideShapes Go.ChangeAt Go.RowKit
theorem graphLengths_own : ownKnob Try.prog.godebug = none := by kernel_rfl
theorem graphLengths_laid : laidOutB Try.prog = true := by kernel_rfl
set_option maxRecDepth 100000 in
theorem graphLengths_lifted (os : Os) (started : os.Started) (H : Type) (enc : TypeId × Value → H) :
    ReturnsInHanded {} Try.checked os 5 .any (Rows.graphLengthsSpec.pre6 enc Try.prog Try.f5 Rows.graphLengthsRow.domain false) (Rows.graphLengthsSpec.post enc Try.prog Try.f5 false true false false) := by
  refine returnsInHanded_of_change (C := Try.checked) graphLengths_own started (by kernel_rfl) Try.func5
    (ChangeSpec.witness6 (enc := enc) (C := Try.checked) false ⟨#[], #[.agg #[.slice none 0 0, .slice none 0 0], .int .u8 0], []⟩ 8 (by kernel_rfl) (by kernel_rfl) (by kernel_rfl) (by kernel_rfl)) ?_
  intro W base args ds gs before hval0 hW _ _
  have hval : ∀ (j : Nat) t v, Try.f5.params[j]? = some t → args[j]? = some v → Value.okWide Try.prog W .any base t v := hval0
  have hW' := hW
  obtain ⟨p, q, hA0, _⟩ := hW'
  have hA : DataW.TrodAll enc Try.prog W 0 (fun _ => true) true Try.f5.params.toList args.toList ds p := hA0
  rw [Try.params5] at hA hval
  obtain ⟨v0, vs0, d0, ds0, p0, q0, hargs, rfl, _, t0, r0⟩ := trodAll_cons hA
  obtain ⟨v1, vs1, d1, ds1, p1, q1, rfl, rfl, _, t1, r1⟩ := trodAll_cons r0
  obtain ⟨rfl, rfl, _⟩ := trodAll_nil r1
  obtain rfl : args = #[v0, v1] := by cases args; simp_all
  obtain ⟨x0, h0, s0⟩ := arg_G (hval 0 28 v0 rfl rfl) t0
  obtain ⟨x1, h1, s1⟩ := arg_u8 (hval 1 5 v1 rfl rfl) t1
  refine law_run (tb := 4) graphLengths_laid (by kernel_rfl) (by kernel_rfl) (by kernel_rfl) rfl ⟨rfl, rfl, rfl⟩ hW ⟨[AG x0.cs, V1 (.lit (.int .u8 x1))], lLengths_c x0 x1 h1 h0.1, rfl, fun i x hx => ?_⟩
  match i, hx with
  | 0, hx => exact ⟨v0, rfl, by cases hx; exact s0⟩
  | 1, hx => exact ⟨v1, rfl, by cases hx; exact s1⟩
  | i + 2, hx => cases hx

theorem graphLengths_holds : Rows.GraphLengthsSaid :=
  OpenClaim.holds_of_wide 5 Try.f5 rfl rfl rfl rfl rfl rfl rfl ⟨rfl, rfl, rfl, rfl, rfl⟩ rfl rfl rfl rfl rfl (by kernel_rfl) Try.func5 (by kernel_rfl)
    (of_decide_eq_true (by kernel_rfl)) (by unfold Func.isWrapper; first | (rw [if_pos (by decide +kernel)]; kernel_rfl) | (rw [if_neg (by decide +kernel)]; exact ⟨rfl, rfl⟩))
    (fun os started H enc _ => graphLengths_lifted os started H enc)
#print axioms graphLengths_holds
end Go.Proofs.Ytcafppnjemgkiaa
