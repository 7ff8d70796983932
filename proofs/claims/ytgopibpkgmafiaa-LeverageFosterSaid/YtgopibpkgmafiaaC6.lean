/- Part of a proof that a Go function answers true for every input. No condition. -/
import Derived.Test.YtgopibpkgmafiaaC5
set_option linter.unusedVariables false
set_option linter.unusedSimpArgs false
set_option linter.unusedSectionVars false
/- law32: small, two, awake; Resists. No condition. -/
namespace Go.Proofs.Ytgopibpkgmafiaa
attribute [local irreducible] lexA

def smallL (l : List RW) : Bool := decide (l.length ≤ 12 ∧ fwS (l.take 50) ≤ 60)
theorem r2Few_c (l : List RW) : Con Try.prog 42 [V1 (dRs l)] { v := dB (smallL l) } := by
  refine con_intro (fn := Try.f42) tok Try.func42 (by kernel_rfl) rfl ?_
  intro w0 X
  rw [entry_mkE _ _ [(0, V1 (dRs l))] rfl rfl];refine AWP_reg_seq tok fun K hK => ?_;refine asQ ?_;refine s_end (hK _ ?_); clear hK K;refine AWP_reg_seq tok fun K hK => ?_;refine asQ ?_;refine s_end (hK _ ?_); clear hK K;refine AWP_seq ?_;refine AWP_reg_seq tok fun K hK => ?_;refine asQ ?_;refine s_end (hK _ ?_); clear hK K;refine AWP_block (a_loop (α := Nat) (fun i => mk 41 [(0, V1 (dRs l)), (3, dI (fwS (l.take i) : Nat)), (4, dI i)] [] []) (fun i => i ≤ l.length ∧ i ≤ 50) (fun i => 50 - i) 0 ?_ ⟨Nat.zero_le _, Nat.zero_le _⟩ ?_)
  · exact Wk.mk' ⟨rfl, rfl, rfl, trivial⟩ trivial
  rintro i ⟨hi, h50⟩
  refine AWP_seq ?_;refine a_join (α := Bool) (fun c => mk 41 [(0, V1 (dRs l)), (3, dI (fwS (l.take i) : Nat)), (4, dI i), (12, dB c)] [] []) (fun c => c = decide (i < l.length ∧ i < 50)) ?_ ?_
  · refine AWP_regW fun K hK => ?_;refine w_step tok rfl ?_;refine mvQ ?_;refine s_end ?_;refine w_step tok rfl ?_;refine mvQ ?_;refine s_end ?_;refine w_step tok rfl ?_;refine s_blt rfl (len_m RW.dc rfl rfl) rfl ?_;refine s_end ?_;refine w_step tok rfl ?_;refine biQ ?_;refine s_end ?_;refine w_step tok rfl ?_;refine mvQ ?_;refine s_end ?_;refine w_split (fun h0 => ?_) (fun h0 => ?_)
    · refine w_step tok rfl ?_;refine mvQ ?_;refine s_end ?_;refine w_step tok rfl ?_;refine biQ ?_;refine s_end ?_;refine w_step tok rfl ?_;refine piQ ?_;refine s_end ?_;refine w_end rfl (hK _ ?_); clear hK K;exact ⟨_, (by simp only [decide_eq_true_eq, decide_eq_false_iff_not] at h0; rw [Bool.eq_iff_iff]; simp only [decide_eq_true_eq, reduceCtorEq, false_iff]; omega), Wk.mk' ⟨rfl, rfl, rfl, rfl, trivial⟩ trivial⟩
    · refine w_skip rfl rfl ?_;refine w_skip rfl rfl ?_;refine w_step tok rfl ?_;refine piQ ?_;refine s_end ?_;refine w_end rfl (hK _ ?_); clear hK K;exact ⟨_, (by simp only [decide_eq_true_eq, decide_eq_false_iff_not] at h0; rw [Bool.eq_iff_iff]; simp only [decide_eq_true_eq, reduceCtorEq, false_iff]; omega), Wk.mk' ⟨rfl, rfl, rfl, rfl, trivial⟩ trivial⟩
  rintro c rfl
  refine a_cond rfl (fun hg => ?_) (fun hg => ?_)
  · have hg : i < l.length ∧ i < 50 := by simpa using hg
    obtain ⟨hg, hg2⟩ := hg
    obtain ⟨r, hr⟩ : ∃ r, r = l[i] := ⟨_, rfl⟩
    have e1 : fwS (l.take (i + 1)) = fwS (l.take i) + (min r.wp.length 100 + min r.wq.length 100) := by
      rw [List.take_succ_eq_append_getElem hg, fwS_app, ← hr]; rfl
    have b1 := fwS_le (l.take i)
    rw [List.length_take_of_le (by omega)] at b1;refine AWP_skip ?_;show AWP _ _ _ _ _ _;refine AWP_seq ?_;refine AWP_block ?_;refine a_draw1 tok mixed (A := [[], [], [], [], [1, 2], [1, 2, 3], [1, 2, 3, 4], [1, 2, 3, 4, 5], [1, 2, 3, 4, 5, 6], [], [], [], [9, 10], [9, 10, 11], [9, 10, 11, 12], [9, 10, 11, 12, 13], [9, 10, 11, 12, 13, 14], [1, 2, 3, 4, 5, 6, 7, 9, 10, 11, 12, 13, 14, 15], [1, 2, 3, 4, 5, 6, 7, 8, 9, 10, 11, 12, 13, 14, 15, 16], []]) (an := [{}, {}, {}, {}, {}, {}, {}, {}, {}, {}, {}, {}, {}, {}, {}, {}, {}, {}, {}, {}]) rfl (by kernel_rfl) rfl fun K hK => ?_;refine mvQ ?_;refine mvQ ?_;refine mvQ ?_;refine s_indexAddr rfl (x_m RW.dc rfl rfl rfl rfl hg rfl) rfl ?_;refine faQ ?_;refine faQ ?_;refine ldQ ?_;refine s_blt rfl (len_w (ws := l[i].wp) rfl rfl rfl) rfl ?_;refine s_blt rfl (mm_min _ 100) rfl ?_;refine mvQ ?_;refine mvQ ?_;refine s_indexAddr rfl (x_m RW.dc rfl rfl rfl rfl hg rfl) rfl ?_;refine faQ ?_;refine faQ ?_;refine ldQ ?_;refine s_blt rfl (len_w (ws := l[i].wq) rfl rfl rfl) rfl ?_;refine s_blt rfl (mm_min _ 100) rfl ?_;refine s_bin rfl (e_add (c := ((min l[i].wp.length 100 + min l[i].wq.length 100 : Nat) : Int)) (by omega) (by omega)) rfl ?_;refine s_bin rfl (e_add (c := ((fwS (l.take i) + (min l[i].wp.length 100 + min l[i].wq.length 100) : Nat) : Int)) (by omega) (by omega)) rfl ?_;refine asQ ?_;refine s_end (hK _ ?_); clear hK K;rw [← hr, ← e1];show AWP _ _ _ _ _ _;refine AWP_reg tok fun K hK => ?_;refine mvQ ?_;refine s_bin rfl (e_add rfl (by omega)) rfl ?_;refine asQ ?_;refine s_end (hK _ ?_); clear hK K;exact ⟨i + 1, by omega, ⟨hg, hg2⟩, Wk.mk' ⟨rfl, rfl, rfl, trivial⟩ trivial⟩
  · have hg : ¬ (i < l.length ∧ i < 50) := by simpa using hg
    refine AWP_exit ?_;show AWP _ _ _ _ _ _
    have e : l.take 50 = l.take i := by
      by_cases h : i < 50
      · rw [List.take_of_length_le (by omega), List.take_of_length_le (by omega)]
      · have : i = 50 := by omega
        rw [this]
    rw [smallL, e];refine AWP_regW_seq fun K hK => ?_;refine w_step tok rfl ?_;refine mvQ ?_;refine s_end ?_;refine w_step tok rfl ?_;refine s_blt rfl (len_m RW.dc rfl rfl) rfl ?_;refine s_end ?_;refine w_step tok rfl ?_;refine biQ ?_;refine s_end ?_;refine w_step tok rfl ?_;refine mvQ ?_;refine s_end ?_;refine w_split (fun h0 => ?_) (fun h0 => ?_)
    · refine w_step tok rfl ?_;refine mvQ ?_;refine s_end ?_;refine w_step tok rfl ?_;refine biQ ?_;refine s_end ?_;refine w_step tok rfl ?_;refine piQ ?_;refine s_end ?_;refine w_step tok rfl ?_;refine asQ ?_;refine s_end ?_;refine w_end rfl (hK _ ?_); clear hK K;refine AWP_ret ?_
      repeat (with_reducible refine tq_ret ?_)
      exact post_ret (fin_mk (by rfl) (by rfl) (by exact dB_eq (by simp only [decide_eq_true_eq, decide_eq_false_iff_not] at h0; rw [Bool.eq_iff_iff]; simp only [decide_eq_true_eq, reduceCtorEq, iff_false, false_iff]; omega)))
    · refine w_skip rfl rfl ?_;refine w_skip rfl rfl ?_;refine w_step tok rfl ?_;refine piQ ?_;refine s_end ?_;refine w_step tok rfl ?_;refine asQ ?_;refine s_end ?_;refine w_end rfl (hK _ ?_); clear hK K;refine AWP_ret ?_
      repeat (with_reducible refine tq_ret ?_)
      exact post_ret (fin_mk (by rfl) (by rfl) (by exact dB_eq (by simp only [decide_eq_true_eq, decide_eq_false_iff_not] at h0; rw [Bool.eq_iff_iff]; simp only [decide_eq_true_eq, reduceCtorEq, iff_false, false_iff]; omega)))
theorem small_c (l : List RW) : Con Try.prog 14 [V1 (dRs l)] { v := dB (smallL l) } := by
  have c := r2Few_c l
  refine con_intro (fn := Try.f14) tok Try.func14 (by kernel_rfl) rfl ?_
  intro w0 X
  rw [entry_mkE _ _ [(0, V1 (dRs l))] rfl rfl];refine AWP_reg_seq tok fun K hK => ?_;refine asQ ?_;refine s_end (hK _ ?_); clear hK K;refine AWP_reg_seq tok fun K hK => ?_;refine mvQ ?_;refine s_call rfl rfl (c) rfl rfl rfl rfl ?_;refine asQ ?_;refine s_end (hK _ ?_); clear hK K;refine AWP_ret ?_
  repeat (with_reducible refine tq_ret ?_)
  exact post_ret (fin_mk (by rfl) (by rfl) (by rfl))

def gTwo : GR := ⟨[rw00, rw00], [⟨0, 1, 0, 0, 1⟩, ⟨1, 0, 0, 0, 2⟩]⟩
theorem two_c : Con Try.prog 30 [] { v := AG gTwo.cs } := by
  refine con_intro (fn := Try.f30) tok Try.func30 (by kernel_rfl) rfl ?_
  intro w0 X
  rw [entry_mkE _ _ [] rfl rfl];refine AWP_reg_seq tok fun K hK => ?_;refine s_alloc rfl rfl rfl rfl rfl rfl ?_;refine s_end (hK _ ?_); clear hK K;refine AWP_reg_seq tok fun K hK => ?_;refine s_makeSlice (sz := _) (es := _) (f := _) (v := _) rfl (mk_a (l := 2) (z := rw00.dc) rfl rfl rfl rfl rfl (Nat.le_of_ble_eq_true rfl) (by decide) rfl rfl (by decide)) rfl rfl ?_;refine s_build rfl rfl rfl ?_;refine s_build rfl rfl rfl ?_;refine s_buildSlice rfl rfl rfl rfl ?_;refine s_build rfl rfl rfl ?_;refine s_storeB rfl rfl rfl rfl rfl ?_;refine s_end (hK _ ?_); clear hK K;refine AWP_ret ?_
  repeat (with_reducible refine tq_ret ?_)
  exact post_ret (fin_mk (by rfl) (by rfl) (by rfl))
theorem gTwo_v : validB gTwo = true := by decide
theorem gTwo_res : resQ gTwo 0 1 = 1 / 3 := by
  have gv := validB_iff.1 gTwo_v
  refine (res_isR gv (i := 0) (j := 1) (by decide) (by decide) (by decide)).uniq (wls_l gv) (by decide) (by decide) ⟨fun v => if v = 0 then 1 / 3 else 0, fun v hv => ?_, by decide +kernel⟩
  have : v = 0 ∨ v = 1 := by
    have : gTwo.nodes.length = 2 := rfl
    omega
  rcases this with rfl | rfl <;> decide +kernel
theorem awake_c : Con Try.prog 9 [] { v := dB true } := by
  have cR := gResist_c gTwo 0 1
  have e1 : resistV gTwo 0 1 = (qzW (1 / 3), 0) := by
    rw [resistV, if_pos gTwo_v, if_pos (by decide)]
    show rstV gTwo 0 1 = _
    rw [rstV, if_pos (by decide), gTwo_res]
  rw [e1] at cR
  have cT := gTrees_c gTwo
  have e2 : treesV gTwo = (3, 0) := by decide
  rw [e2] at cT
  have c3 : Con Try.prog 31 [dI 1, dI 3] { v := AG (qzW (1 / 3)).cs } := by
    have c := r2Of_c 1 3 ⟨by decide, by decide⟩ ⟨by decide, by decide⟩
    have e : Rat.divInt 1 3 = 1 / 3 := by decide +kernel
    rw [e] at c;exact c
  have cB := rat_same (qzW (1 / 3)) ⟨by decide +kernel, by decide +kernel⟩
  have cI := bInt_c false false [3] [3] (by decide)
  refine con_intro (fn := Try.f9) tok Try.func9 (by kernel_rfl) rfl ?_
  intro w0 X
  rw [entry_mkE _ _ [] rfl rfl];refine AWP_reg_seq tok fun K hK => ?_;refine asQ ?_;refine s_end (hK _ ?_); clear hK K;refine AWP_reg_seq tok fun K hK => ?_;refine s_call rfl rfl (two_c) rfl rfl rfl rfl ?_;refine s_call rfl rfl (cR) rfl rfl rfl rfl ?_;refine mvQ ?_;refine s_extract rfl rfl rfl ?_;refine s_extract rfl rfl rfl ?_;refine s_alloc rfl rfl rfl rfl rfl rfl ?_;refine s_store rfl rfl rfl rfl rfl ?_;refine asQ ?_;refine s_end (hK _ ?_); clear hK K;refine AWP_reg_seq tok fun K hK => ?_;refine s_call rfl rfl (two_c) rfl rfl rfl rfl ?_;refine s_call rfl rfl (cT) rfl rfl rfl rfl ?_;refine mvQ ?_;refine s_extract rfl rfl rfl ?_;refine s_extract rfl rfl rfl ?_;refine s_alloc rfl rfl rfl rfl rfl rfl ?_;refine s_store rfl rfl rfl rfl rfl ?_;refine asQ ?_;refine s_end (hK _ ?_); clear hK K;refine a_draw tok mixed (A := [[], [], [0], [0, 1], [0, 1], [0, 1], [0, 1, 3, 4], [0, 1, 2, 3, 4], [0, 1, 2, 3, 4, 5, 6], [0, 1, 2, 3, 4, 5, 6], [0, 1, 2, 3, 4, 5, 6, 8], [0, 1, 2, 3, 4, 5, 6, 8, 9], [0, 1, 2, 3, 4, 5, 6, 7, 8, 9, 10], [0, 1, 2, 3, 4, 5, 6, 7, 8, 9, 10], [0, 1, 2, 3, 4, 5, 6, 7, 8, 9, 10], [0, 1, 2, 3, 4, 5, 6, 7, 8, 9, 10, 13], [0, 1, 2, 3, 4, 5, 6, 7, 8, 9, 10, 12, 13, 14], []]) (an := [{}, {}, {}, {}, {}, {}, {}, {}, {}, {}, {}, {}, {}, {}, {}, {}, {}, {}]) rfl (by kernel_rfl) rfl fun K hK => ?_;refine mvQ ?_;refine biQ ?_;refine mvQ ?_;refine ldQ ?_;refine s_call rfl rfl (c3) rfl rfl rfl rfl ?_;refine s_call rfl rfl (cB) rfl rfl rfl rfl ?_;refine piQ ?_;refine mvQ ?_;refine mvQ ?_;refine biQ ?_;refine piQ ?_;refine mvQ ?_;refine ldQ ?_;refine s_buildSlice rfl rfl rfl rfl ?_;refine s_build rfl rfl rfl ?_;refine s_callF rfl rfl (cI) ⟨rfl, fun _ _ h => by cases h⟩ rfl rfl rfl ?_;refine piQ ?_;refine asQ ?_;refine s_end (hK _ ?_); clear hK K;refine AWP_ret ?_
  repeat (with_reducible refine tq_ret ?_)
  exact post_ret (fin_mk (by rfl) (by rfl) (by rfl))

end Go.Proofs.Ytgopibpkgmafiaa

/- law32: Triangle, More. No condition. -/
namespace Go.Proofs.Ytgopibpkgmafiaa
attribute [local irreducible] lexA

theorem zcmp_le (x y : Int) : zcmp x y ≤ 0 ↔ x ≤ y := by unfold zcmp; (repeat' split) <;> omega
theorem qcmp_le (x y : Rat) : qcmp x y ≤ 0 ↔ x ≤ y := by
  unfold qcmp
  rw [zcmp_le, Rat.le_iff]
theorem trZ_zl8 {ls : List LK} (p : Nat → Nat) (left : Nat) (h : ∀ l ∈ ls, 0 ≤ l.w ∧ l.w ≤ 1048576) (hl : ls.length ≤ 11) : zl (trZ p left ls) ≤ 8 := by
  have b := trZ_bd ls p left h
  exact zl_pow (k := 21 * ls.length) (by omega) (by omega)
theorem res_few {g : GR} (gv : GV g) (h11 : g.links.length ≤ 11) {i j : Nat} (hi : i < g.nodes.length) (hj : j < g.nodes.length) (hl : lab g i = lab g j) : ql (resQ g i j) ≤ 8 := by
  rw [← refQ_eq gv hi hj hl]
  unfold refQ
  split
  · decide
  · have hw : ∀ l ∈ prE g i g.links, 0 ≤ l.w ∧ l.w ≤ 1048576 := fun l hl => by
      obtain ⟨x, hx, rfl⟩ := List.mem_map.1 hl
      have := (gLV gv x (List.mem_filter.1 hx).1).w
      show 0 ≤ x.w ∧ x.w ≤ 1048576
      omega
    have hle : (prE g i g.links).length ≤ 11 := by
      unfold prE; rw [List.length_map]
      exact Nat.le_trans (List.length_filter_le _ _) h11
    exact ql_divInt_le rfl (trZ_zl8 _ _ hw hle) (trZ_zl8 _ _ hw hle)
theorem fwN_ok {r : RW} {k : Nat} (h : r.OK k) : fwN r ≤ 2 * k := by
  have := h.lp
  have := h.lq
  unfold fwN; omega
theorem e_leI {T : Tab} {t : TypeId} {a b : Int} {c : Bool} (h : decide (a ≤ b) = c) : effBin T .leq t (dI a) (dI b) = .set (dB c) := by subst h; rfl
theorem e_neJ {T : Tab} {t : TypeId} {a b : Int} {c : Bool} (h : (a != b) = c) : effBin T .neq t (dI a) (dI b) = .set (dB c) := by subst h; rfl
end Go.Proofs.Ytgopibpkgmafiaa

/- Union-find: root, single, join. No condition. -/
namespace Go.Proofs.Ytgopibpkgmafiaa
attribute [local irreducible] lexA
open Go.RowKit

def itS (s : Nat → Nat) : Nat → Nat → Nat
  | 0, v => v
  | k + 1, v => itS s k (s v)
theorem itS_fix {s : Nat → Nat} {v : Nat} (h : s v = v) : ∀ k, itS s k v = v
  | 0 => rfl
  | k + 1 => by rw [itS, h]; exact itS_fix h k
/-- v's root is r. -/
def RT (n : Nat) (s : Nat → Nat) (v r : Nat) : Prop := (∀ x, x < n → s x < n) ∧ v < n ∧ s r = r ∧ ∃ k, itS s k v = r
theorem RT.lt {n : Nat} {s : Nat → Nat} {v r : Nat} (h : RT n s v r) : r < n := by
  obtain ⟨h1, h2, _, k, h4⟩ := h
  have : ∀ k v, v < n → itS s k v < n := by
    intro k
    induction k with
    | zero => intro v h; exact h
    | succ k ih => intro v h; exact ih _ (h1 v h)
  rw [← h4]; exact this k v h2
theorem root_c (n : Nat) (s : Nat → Nat) (v r : Nat) (h : RT n s v r) : Con Try.prog 61 [V1 (.sl (nmD n s)), dI v] { v := dI r } := by
  obtain ⟨h1, h2, h3, k, h4⟩ := h
  refine con_intro (fn := Try.f61) tok Try.func61 (by kernel_rfl) rfl ?_
  intro w0 X
  rw [entry_mkE _ _ [(0, V1 (.sl (nmD n s))), (1, dI v)] rfl rfl];refine AWP_reg_seq tok fun K hK => ?_;refine asQ ?_;refine s_end (hK _ ?_); clear hK K;refine AWP_seq ?_;refine AWP_block (a_loop (α := Nat × Nat) (fun p => mk 16 [(0, V1 (.sl (nmD n s))), (1, dI p.1)] [] []) (fun p => p.1 < n ∧ itS s p.2 p.1 = r) (fun p => p.2) (v, k) ?_ ⟨h2, h4⟩ ?_)
  · exact Wk.mk' ⟨rfl, rfl, trivial⟩ trivial
  rintro ⟨x, k⟩ ⟨hx, hk⟩
  simp only at hx hk ⊢
  refine AWP_seq ?_;refine AWP_reg_seq tok fun K hK => ?_;refine mvQ ?_;refine mvQ ?_;refine s_indexAddr rfl (x_n rfl rfl rfl rfl rfl hx) rfl ?_;refine ldQ ?_;refine mvQ ?_;refine s_bin rfl (e_neN _ _) rfl ?_;refine s_end (hK _ ?_); clear hK K;refine a_cond rfl (fun hc => ?_) (fun hc => ?_)
  · have hc := of_decide_eq_true hc
    refine AWP_skip ?_;show AWP _ _ _ _ _ _;refine AWP_block ?_;refine AWP_reg tok fun K hK => ?_;refine mvQ ?_;refine mvQ ?_;refine s_indexAddr rfl (x_n rfl rfl rfl rfl rfl hx) rfl ?_;refine ldQ ?_;refine asQ ?_;refine s_end (hK _ ?_); clear hK K
    rcases k with _ | k
    · have hk : x = r := hk
      rw [hk] at hc; exact absurd h3 hc
    · exact ⟨(s x, k), Nat.lt_succ_self k, ⟨h1 x hx, hk⟩, Wk.mk' ⟨rfl, rfl, trivial⟩ trivial⟩
  · have hc : s x = x := Classical.byContradiction (of_decide_eq_false hc)
    have e : r = x := by rw [← hk]; exact itS_fix hc k
    subst e
    refine AWP_exit ?_;show AWP _ _ _ _ _ _;refine AWP_reg_seq tok fun K hK => ?_;refine mvQ ?_;refine asQ ?_;refine s_end (hK _ ?_); clear hK K;refine AWP_ret ?_
    repeat (with_reducible refine tq_ret ?_)
    exact post_ret (fin_mk (by rfl) (by rfl) (by rfl))

def sgS (i v : Nat) : Nat := if v < i then v else 0
theorem single_c (n : Nat) (hn : n ≤ 1048576) : Con Try.prog 59 [dI n] { v := .val (.one (.own 0 1 0 n)), ob := some (1, nmD n id) } := by
  refine con_intro (fn := Try.f59) tok Try.func59 (by kernel_rfl) rfl ?_
  intro w0 X
  rw [entry_mkE _ _ [(0, dI n)] rfl rfl];refine AWP_reg_seq tok fun K hK => ?_;refine asQ ?_;refine s_end (hK _ ?_); clear hK K;refine AWP_reg_seq tok fun K hK => ?_;refine mvQ ?_;refine s_makeSlice (sz := _) (es := _) (f := _) (v := _) rfl (mk_a (l := n) rfl rfl rfl rfl rfl (Nat.le_of_ble_eq_true rfl) (by decide) rfl rfl (by omega)) rfl rfl ?_;refine asQ ?_;refine s_end (hK _ ?_); clear hK K;refine AWP_seq ?_;refine AWP_reg_seq tok fun K hK => ?_;refine mvQ ?_;refine s_blt rfl rfl rfl ?_;refine mvQ ?_;refine s_end (hK _ ?_); clear hK K;refine AWP_block (a_loop (α := Nat) (fun s => mk 18 [(3, .val (.one (.own 6 1 0 n))), (8, dI n), (9, dI s)] [(6, some (.arr 1 (nmD n (sgS s))))] []) (fun s => s ≤ n) (fun s => n - s) 0 ?_ (Nat.zero_le _) ?_)
  · exact Wk.mk' ⟨rfl, rfl, rfl, trivial⟩ ⟨congrArg (fun x => some (OO.arr 1 x)) ((show List.replicate n (cN 0) = nmD n (fun _ => 0) by simp [nmD, List.map_const']).trans (nmD_congr fun v _ => by unfold sgS; rw [if_neg (by omega)])), trivial⟩
  intro s hs
  refine AWP_reg_seq tok fun K hK => ?_;refine biQ ?_;refine s_end (hK _ ?_); clear hK K;refine AWP_seq ?_;refine a_cond rfl (fun hf => ?_) (fun hf => ?_)
  · have hf : s < n := by simp at hf; omega
    refine AWP_skip ?_;show AWP _ _ _ _ _ _;refine AWP_seq ?_;refine AWP_block ?_;refine AWP_reg_seq tok fun K hK => ?_;refine mvQ ?_;refine asQ ?_;refine s_end (hK _ ?_); clear hK K;refine AWP_reg tok fun K hK => ?_;refine mvQ ?_;refine mvQ ?_;refine mvQ ?_;refine s_indexAddr rfl (x_o (i := s) (j := s) rfl rfl rfl rfl rfl hf (Nat.zero_add _)) rfl ?_;refine s_store rfl (st_n s rfl rfl rfl hf) rfl rfl rfl ?_;refine s_end (hK _ ?_); clear hK K
    have e : nmD n (updN (sgS s) s s) = nmD n (sgS (s + 1)) := nmD_congr fun v _ => by
      unfold updN sgS
      by_cases h : v = s
      · rw [if_pos h, h, if_pos (by omega)]
      · rw [if_neg h]
        by_cases h2 : v < s
        · rw [if_pos h2, if_pos (by omega)]
        · rw [if_neg h2, if_neg (by omega)]
    rw [e];show AWP _ _ _ _ _ _;refine AWP_reg tok fun K hK => ?_;refine s_bin rfl (e_add (c := ((s + 1 : Nat) : Int)) (by omega) (by omega)) rfl ?_;refine mvQ ?_;refine s_end (hK _ ?_); clear hK K;exact ⟨s + 1, by omega, hf, Wk.mk' ⟨rfl, rfl, rfl, trivial⟩ ⟨rfl, trivial⟩⟩
  have hf : s = n := by simp at hf; omega
  subst hf
  refine AWP_exit ?_;show AWP _ _ _ _ _ _
  have e : nmD s (sgS s) = nmD s id := nmD_congr fun i hi => if_pos hi
  rw [e];refine AWP_reg_seq tok fun K hK => ?_;refine mvQ ?_;refine asQ ?_;refine s_end (hK _ ?_); clear hK K;refine AWP_ret ?_;exact post_ret (fin_own (by rfl) rfl)
end Go.Proofs.Ytgopibpkgmafiaa

/- join. No condition. -/
namespace Go.Proofs.Ytgopibpkgmafiaa
attribute [local irreducible] lexA
open Go.RowKit

theorem root_run {n : Nat} {s : Nat → Nat} {v r : Nat} (h : RT n s v r) {w1 : World} {b cap : Nat} {cs : Array Value} {E : TypeId} (hh : w1.heap[b]? = some (.cells cs E (0, 0))) (hcap : n ≤ cap) (hcs : ∀ i, i < n → cs[i]? = some (.int .i64 (s i : Nat))) :
    Calls Try.prog 61 #[.slice (some ⟨b, 0, none⟩) n cap, .int .i64 (v : Nat)] w1 fun e w' => e = .returned (.int .i64 (r : Nat)) ∧ Below w1.heap.size w1 w' := by
  have c := (root_c n s v r h).2 w1 (fun _ => False) (fun _ => 0) [.slice (some ⟨b, 0, none⟩) n cap, .int .i64 (v : Nat)] (fun _ h => h.elim) rfl (fun i x hx => by
    match i, hx with
    | 0, hx =>
      cases hx
      refine ⟨_, rfl, ?_⟩
      show RdC _ _ _ _
      refine RdC.sl (sz := 1) (fun i _ => .int .i64 (s i : Nat)) hh (fun h => h) (by rw [nmD_length]) hcap (fun i e he => ?_) (fun i j d hd => ?_) (fun i j d hd => ?_)
      · obtain ⟨q, _, rfl⟩ := List.mem_map.1 (List.mem_of_getElem? he); rfl
      · unfold at2 at hd
        by_cases hi : i < n
        · rw [nmD_get hi] at hd
          match j, hd with
          | 0, hd => simpa using hcs i hi
          | j + 1, hd => simp [cN] at hd
        · rw [List.getElem?_eq_none (by rw [nmD_length]; omega)] at hd; cases hd
      · unfold at2 at hd
        by_cases hi : i < n
        · rw [nmD_get hi] at hd
          match j, hd with
          | 0, hd => cases hd; exact RdC.lit rfl
          | j + 1, hd => simp [cN] at hd
        · rw [List.getElem?_eq_none (by rw [nmD_length]; omega)] at hd; cases hd
    | 1, hx => cases hx; exact ⟨_, rfl, RdC.lit rfl⟩)
  refine c.mono fun e w' ⟨v', he, hb, hr⟩ => ⟨?_, hb⟩;rw [he]
  obtain ⟨_, _, hr⟩ := hr
  have hr : RdC _ _ v' (.lit (.int .i64 (r : Nat))) := hr
  cases hr; rfl
theorem join_m {n : Nat} {s : Nat → Nat} {v u rv ru : Nat} (hv : RT n s v rv) (hu : RT n s u ru) : JoinC Try.prog 60 n s v u rv ru := by
  refine ⟨⟨_, Try.func60, rfl, rfl⟩, fun w b cap cs E hh hcap hcz hcs => ?_⟩
  have hrv := hv.lt
  obtain ⟨fr, r1, r2, r3⟩ := (root_c n s v rv hv).1
  refine calls_of_wp Try.func60 rfl ?_
  obtain ⟨A, hA⟩ : ∃ A : Value, A = .slice (some ⟨b, 0, none⟩) n cap := ⟨_, rfl⟩
  obtain ⟨B, hB⟩ : ∃ B : Value, B = .int .i64 (v : Nat) := ⟨_, rfl⟩
  obtain ⟨C, hC⟩ : ∃ C : Value, C = .int .i64 (u : Nat) := ⟨_, rfl⟩
  rw [← hA, ← hB, ← hC]
  have e0 : (#[A, B, C] ++ Array.replicate (Try.f60.ntmps - (#[A, B, C] : Array Value).size) undef : Array Value) = #[A, B, C, undef, undef, undef, undef, undef, undef, undef, undef, undef, undef, undef, undef, undef, undef, undef, undef, undef] := by
    apply Array.ext'
    rw [Array.toList_append, Array.toList_replicate]; rfl
  rw [e0]
  have ka : KA 20 { tmps := #[A, B, C, undef, undef, undef, undef, undef, undef, undef, undef, undef, undef, undef, undef, undef, undef, undef, undef, undef], defers := [] } [(0, A), (1, B), (2, C)] := by
    refine ⟨rfl, rfl, fun k x hk => ?_⟩
    match k, hk with
    | 0, hk => cases hk; rfl
    | 1, hk => cases hk; rfl
    | 2, hk => cases hk; rfl
    | k + 3, hk => simp [List.lookup] at hk
  generalize ({ tmps := #[A, B, C, undef, undef, undef, undef, undef, undef, undef, undef, undef, undef, undef, undef, undef, undef, undef, undef, undef], defers := [] } : Act) = a0 at ka ⊢;refine wp_seq (wp_region ?_)
  show wpOps _ _ _ [0] _ _
  refine k_const rfl ka rfl fun a1 ka => ?_
  show Code.wp _ _ _ _ _
  refine wp_seq (wp_region ?_)
  show wpOps _ _ _ [0, 1, 2, 3, 4, 5, 6, 7] _ _
  refine k_move rfl ka rfl rfl fun a2 ka => ?_;refine k_move rfl ka rfl rfl fun a3 ka => ?_;refine k_call2 rfl ka rfl rfl rfl r1 r2 r3 ?_;rw [hA, hB];refine (root_run hv hh hcap hcs).mono fun e w1 ⟨he, hb1⟩ => ⟨_, he, fun a4 ka => ?_⟩;rw [← hA, ← hB] at ka
  have hh1 : w1.heap[b]? = some (.cells cs E (0, 0)) := (hb1.block b (lt_of_heap hh)).trans hh
  refine k_move rfl ka rfl rfl fun a5 ka => ?_;refine k_move rfl ka rfl rfl fun a6 ka => ?_;refine k_call2 rfl ka rfl rfl rfl r1 r2 r3 ?_;rw [hA, hC];refine (root_run hu hh1 hcap hcs).mono fun e w2 ⟨he, hb2⟩ => ⟨_, he, fun a7 ka => ?_⟩;rw [← hA, ← hC] at ka
  have hh2 : w2.heap[b]? = some (.cells cs E (0, 0)) := (hb2.block b (lt_of_heap hh1)).trans hh1
  refine k_assign rfl ka rfl rfl fun a8 ka => ?_;refine k_assign rfl ka rfl rfl fun a9 ka => ?_
  show Code.wp _ _ _ _ _
  refine wp_seq (wp_region ?_)
  show wpOps _ _ _ [0, 1, 2, 3, 4] _ _
  refine k_move rfl ka rfl rfl fun a10 ka => ?_;refine k_move rfl ka rfl rfl fun a11 ka => ?_;refine k_move rfl ka rfl rfl fun a12 ka => ?_
  have hz : rv < cs.size := (Array.getElem?_eq_some_iff.1 (hcs rv hrv)).1
  have ei : (Instr.indexAt 89 A (.int .i64 (rv : Nat))).run Try.prog w2 = .ok (.pointer (some ⟨b, rv, none⟩)) w2 := by
    obtain ⟨x, h1, h2⟩ := effIndexAddr_sound (P := Try.prog) (T := tab) (w := w2) (X := fun _ => False) (μ := fun _ => b) tok (t := 89) (vx := A) (vi := .int .i64 (rv : Nat)) (x := .val (.one (.own 0 1 0 n))) (i := dI rv) (v := .pe 0 1 rv 0) ⟨cap, cs, E, (0, 0), by rw [hA, Nat.zero_mul], hcap, hh2, by rw [Nat.zero_add, Nat.mul_one]; exact hcz⟩ (RdC.lit rfl) (x_o (i := rv) (j := rv) rfl rfl rfl rfl rfl hrv (Nat.zero_add _))
    rw [h1]
    have h2 : x = .pointer (some ⟨b, rv * 1 + 0, none⟩) := h2
    rw [h2, Nat.mul_one, Nat.add_zero]
  refine k_idx rfl ka rfl rfl rfl ei fun a13 ka => ?_;refine k_store (w' := setRow w2 b (cs.setIfInBounds rv (.int .i64 (ru : Nat)))) rfl ka rfl rfl ?_ ?_
  · obtain ⟨ti, ht, hs⟩ : ∃ ti, tab.ty 3 = some ti ∧ ti.size = 1 := ⟨_, rfl, rfl⟩
    have := run_storeAt (P := Try.prog) (X := fun _ => False) (μ := fun _ => 0) (tok.ty _ _ ht) (off := rv) hh2 (v := .int .i64 (ru : Nat)) (x := .one (.d (lI (ru : Nat)))) (RdC.lit rfl) hs.symm (by rw [hs]; exact hz)
    exact this
  show Code.wp _ _ _ _ _
  refine wp_seq (wp_region ?_)
  show wpOps _ _ _ [0, 1, 2, 3] _ _
  refine k_move rfl ka rfl rfl fun a14 ka => ?_;refine k_move rfl ka rfl rfl fun a15 ka => ?_
  obtain ⟨x, h1, h2⟩ := effBin_sound (P := Try.prog) (T := tab) (w := setRow w2 b (cs.setIfInBounds rv (.int .i64 (ru : Nat)))) (X := fun _ => False) (μ := fun _ => b) tok (op := .neq) (t := 3) (ox := .tmp 17) (oy := .tmp 18) (x := dI rv) (y := dI ru) (v := dB (decide (rv ≠ ru))) (RdC.lit (v := .int .i64 (rv : Nat)) rfl) (RdC.lit (v := .int .i64 (ru : Nat)) rfl) (e_neN rv ru)
  have h2 : x = .bool (decide (rv ≠ ru)) := by
    have h2 : RdC _ _ x (.lit (.bool (decide (rv ≠ ru)))) := h2
    cases h2; rfl
  rw [h2] at h1;refine k_bin rfl ka rfl rfl rfl (fun a' q1 q2 => by simp only [execOp]; rw [q1, q2]) h1 fun a16 ka => ?_;refine k_assign rfl ka rfl rfl fun a17 ka => ?_
  show Code.wp _ _ _ _ _
  refine wp_ret ?_;refine ⟨ka.2.1, .bool (decide (rv ≠ ru)), ?_, rfl, w2, hb1.trans (hb2.mono hb1.size), hh2.trans hh.symm, rfl⟩
  have e6 := ka.2.2 6 _ rfl
  have e7 : results Try.f60 a17.tmps = pure (a17.eval (.tmp 6)) := by
    unfold results
    show _ = pure (a17.tmps.getD 6 undef)
    rw [Array.getD_eq_getD_getElem?];simp only [Try.f60]
    simp
  rw [e7, e6]; rfl
end Go.Proofs.Ytgopibpkgmafiaa

/- Union-find against connectedness; Forest. No condition. -/
namespace Go.Proofs.Ytgopibpkgmafiaa
attribute [local irreducible] lexA
open Go.RowKit

/-- The roots behind a join. -/
def jR (ρ : Nat → Nat) (f t x : Nat) : Nat := if ρ x = ρ f then ρ t else ρ x
def rhoL : List LK → Nat → Nat := fun ls => ls.foldl (fun ρ l => jR ρ l.f.toNat l.t.toNat) id
theorem rhoL_snoc (ls : List LK) (l : LK) : rhoL (ls ++ [l]) = jR (rhoL ls) l.f.toNat l.t.toNat := by unfold rhoL; rw [List.foldl_append]; rfl
/-- All roots are as told. -/
def RTs (n : Nat) (s ρ : Nat → Nat) : Prop := ∀ v, v < n → RT n s v (ρ v)
theorem RTs_id (n : Nat) : RTs n id id := fun v hv => ⟨fun x h => h, hv, rfl, 0, rfl⟩
theorem RTs_join {n : Nat} {s ρ s' : Nat → Nat} {f t : Nat} (h : RTs n s ρ) (hf : f < n) (ht : t < n) (hs' : ∀ i, s' i = if i = ρ f then ρ t else s i) : RTs n s' (jR ρ f t) := by
  have rf := h f hf
  have rt := h t ht
  have cl : ∀ x, x < n → s' x < n := fun x hx => by
    rw [hs']; split
    · exact rt.lt
    · exact rf.1 x hx
  have key : ∀ k x, x < n → ∀ r, itS s k x = r → s r = r → ∃ k', itS s' k' x = (if r = ρ f then ρ t else r) ∧ s' (if r = ρ f then ρ t else r) = (if r = ρ f then ρ t else r) := by
    intro k
    have hroot : ∀ r, s r = r → s' (if r = ρ f then ρ t else r) = (if r = ρ f then ρ t else r) := fun r hr => by
      by_cases e : r = ρ f
      · rw [if_pos e, hs']
        by_cases e2 : ρ t = ρ f
        · rw [if_pos e2]
        · rw [if_neg e2]; exact rt.2.2.1
      · rw [if_neg e, hs', if_neg e]; exact hr
    induction k with
    | zero =>
      intro x hx r hk hr
      have hk : x = r := hk
      subst hk
      by_cases e : x = ρ f
      · refine ⟨1, ?_, hroot x hr⟩
        show s' x = _
        rw [hs', if_pos e, if_pos e]
      · refine ⟨0, ?_, hroot x hr⟩
        show x = _
        rw [if_neg e]
    | succ k ih =>
      intro x hx r hk hr
      by_cases e : x = ρ f
      · have hsx : s x = x := by rw [e]; exact rf.2.2.1
        have : r = x := by rw [← hk, itS, hsx]; exact itS_fix hsx k
        subst this
        refine ⟨1, ?_, hroot r hr⟩
        show s' r = _
        rw [hs', if_pos e, if_pos e]
      · obtain ⟨k', h1, h2⟩ := ih (s x) (rf.1 x hx) r hk hr
        refine ⟨k' + 1, ?_, h2⟩
        show itS s' k' (s' x) = _
        rw [hs', if_neg e]; exact h1
  intro v hv
  obtain ⟨_, _, h3, k, h4⟩ := h v hv
  obtain ⟨k', h5, h6⟩ := key k v hv (ρ v) h4 h3
  exact ⟨cl, hv, h6, k', h5⟩
theorem rho_cnn {n : Nat} : ∀ (d : Nat) (ls : List LK), ls.length = d → (∀ l ∈ ls, l.f.toNat < n ∧ l.t.toNat < n) → ∀ u v, u < n → v < n → (rhoL ls u = rhoL ls v ↔ Cnn (prs ls) u v)
  | 0, ls, h, _ => fun u v _ _ => by
    have : ls = [] := List.length_eq_zero_iff.1 h
    subst this
    exact ⟨fun e => (show u = v from e) ▸ .refl _, Cnn.nil⟩
  | d + 1, ls, h, hl => fun u v hu hv => by
    obtain ⟨ys, l, rfl⟩ : ∃ ys l, ls = ys ++ [l] := by
      have hne : ls ≠ [] := fun e => by rw [e] at h; cases h
      exact ⟨ls.dropLast, ls.getLast hne, (List.dropLast_concat_getLast hne).symm⟩
    have hl' : ∀ x ∈ ys, x.f.toNat < n ∧ x.t.toNat < n := fun x hx => hl x (List.mem_append_left _ hx)
    obtain ⟨hf, ht⟩ := hl l (by simp)
    have ih := rho_cnn d ys (by simpa using h) hl'
    have ep : prs (ys ++ [l]) = prs ys ++ [(l.f.toNat, l.t.toNat)] := by unfold prs; rw [List.map_append]; rfl
    rw [rhoL_snoc, ep, Cnn.snoc, ← ih u v hu hv, ← ih u _ hu hf, ← ih _ v ht hv, ← ih u _ hu ht, ← ih _ v hf hv]
    unfold jR
    generalize rhoL ys u = a;generalize rhoL ys v = b;generalize rhoL ys l.f.toNat = p;generalize rhoL ys l.t.toNat = q
    by_cases h1 : a = p
    · rw [if_pos h1]
      by_cases h2 : b = p
      · rw [if_pos h2]; omega
      · rw [if_neg h2]; omega
    · rw [if_neg h1]
      by_cases h2 : b = p
      · rw [if_pos h2]; omega
      · rw [if_neg h2]; omega
/-- Forest: the links that join two trees. -/
def foB (g : GR) (j : Nat) : Bool := match g.links[j]? with | some l => decide (rhoL (g.links.take j) l.f.toNat ≠ rhoL (g.links.take j) l.t.toNat) | none => false
def foL (g : GR) (k : Nat) : List Nat := (List.range k).filter (foB g)
theorem foL_succ (g : GR) (k : Nat) : foL g (k + 1) = if foB g k = true then foL g k ++ [k] else foL g k := by
  unfold foL
  rw [List.range_succ, List.filter_append]
  by_cases h : foB g k = true
  · rw [if_pos h]; simp [h]
  · rw [if_neg h]; simp [h]
theorem e_lssT {T : Tab} {t : TypeId} (a b : Nat) : effBin T .lss t (dI a) (dI b) = .set (dB (decide (a < b))) := by
  show setLit (.bool (decide ((a : Int) < (b : Int)))) = _
  have : decide ((a : Int) < (b : Int)) = decide (a < b) := by rw [Bool.eq_iff_iff]; simp only [decide_eq_true_eq]; omega
  rw [this]; rfl
end Go.Proofs.Ytgopibpkgmafiaa

/- Forest. No condition. -/
namespace Go.Proofs.Ytgopibpkgmafiaa
attribute [local irreducible] lexA
open Go.RowKit

end Go.Proofs.Ytgopibpkgmafiaa

/- Bridges. No condition. -/
namespace Go.Proofs.Ytgopibpkgmafiaa
attribute [local irreducible] lexA
open Go.RowKit

def brB (g : GR) (i : Nat) : Bool := match g.links[i]? with | some l => decide (rhoL (g.links.eraseIdx i) l.f.toNat ≠ rhoL (g.links.eraseIdx i) l.t.toNat) | none => false
def brL (g : GR) (k : Nat) : List Nat := (List.range k).filter (brB g)
def bridgeV (g : GR) : List Nat × Int := if validB g = true then (brL g g.links.length, 0) else ([], 1)
theorem brL_succ (g : GR) (k : Nat) : brL g (k + 1) = if brB g k = true then brL g k ++ [k] else brL g k := by
  unfold brL
  rw [List.range_succ, List.filter_append]
  by_cases h : brB g k = true
  · rw [if_pos h]; simp [h]
  · rw [if_neg h]; simp [h]
theorem brL_len (g : GR) (k : Nat) : (brL g k).length ≤ k := Nat.le_trans (List.length_filter_le _ _) (by simp)

theorem gBridges_c (g : GR) : Con Try.prog 27 [AG g.cs] { v := .tup [.one (.d (dNs (bridgeV g).1)), .one (.d (lI (bridgeV g).2))] } := by
  refine con_intro (fn := Try.f27) tok Try.func27 (by kernel_rfl) rfl ?_
  intro w0 X
  rw [entry_mkE _ _ [(0, AG g.cs)] rfl rfl];refine AWP_reg_seq tok fun K hK => ?_;refine s_box rfl rfl rfl rfl rfl rfl ?_;refine asQ ?_;refine asQ ?_;refine s_end (hK _ ?_); clear hK K;refine AWP_seq ?_;refine AWP_reg_seq tok fun K hK => ?_;refine ldQ ?_;refine s_call rfl rfl (gValid_c g) rfl rfl rfl rfl ?_;refine s_un rfl rfl rfl ?_;refine s_end (hK _ ?_); clear hK K;refine a_cond rfl (fun hc => ?_) (fun hc => ?_)
  · rw [Bool.not_eq_true'] at hc
    have e : bridgeV g = ([], 1) := by rw [bridgeV, if_neg (by rw [hc]; simp)]
    rw [e];refine AWP_reg_seq tok fun K hK => ?_;refine asQ ?_;refine asQ ?_;refine s_end (hK _ ?_); clear hK K;refine AWP_ret ?_
    repeat (with_reducible refine tq_ret ?_)
    exact post_ret (fin_mk (by rfl) (by rfl) (by rfl))
  rw [Bool.not_eq_false'] at hc
  have gv := validB_iff.1 hc
  have n16 := gv.n2
  have l48 := gv.l
  rw [bridgeV, if_pos hc];refine AWP_skip ?_;show AWP _ _ _ _ _ _;refine AWP_reg_seq tok fun K hK => ?_;refine asQ ?_;refine s_end (hK _ ?_); clear hK K;refine AWP_seq ?_;refine AWP_reg_seq tok fun K hK => ?_;refine faQ ?_;refine ldQ ?_;refine s_blt rfl (len_m LK.dc rfl rfl) rfl ?_;refine mvQ ?_;refine s_end (hK _ ?_); clear hK K;refine AWP_block (a_loop (α := Nat) (fun i => mk 58 [(1, .ptr 1 0), (4, ownN 200 1 (brL g i).length), (14, V1 (dLs g.links)), (15, dI g.links.length), (16, dI i)] [(1, some (.box g.cs)), (200, arrN 1 ((brL g i).map cN) (brL g i).length)] []) (fun i => i ≤ g.links.length) (fun i => g.links.length - i) 0 ?_ (Nat.zero_le _) ?_)
  · exact Wk.mk' ⟨rfl, rfl, rfl, rfl, rfl, trivial⟩ ⟨rfl, rfl, trivial⟩
  intro i hi
  refine AWP_reg_seq tok fun K hK => ?_;refine biQ ?_;refine s_end (hK _ ?_); clear hK K;refine AWP_seq ?_;refine a_cond rfl (fun hg => ?_) (fun hg => ?_)
  · have hg : i < g.links.length := by simp at hg; omega
    obtain ⟨l, el⟩ : ∃ l, l = g.links[i] := ⟨_, rfl⟩
    have hml : l ∈ g.links := el ▸ List.getElem_mem hg
    have hget : g.links[i]? = some l := by rw [List.getElem?_eq_getElem hg, el]
    obtain ⟨x, y, hxn, hyn, hx, hy, _⟩ := (gLV gv l hml).lt
    have n1 := brL_succ g i
    have eb : brB g i = decide (rhoL (g.links.eraseIdx i) l.f.toNat ≠ rhoL (g.links.eraseIdx i) l.t.toNat) := by unfold brB; rw [hget]
    have zl' : (brL g i).length ≤ 48 := Nat.le_trans (brL_len g i) (by omega)
    obtain ⟨lf, lt, lx, ly, lw⟩ := l
    simp only at hx hy
    subst hx hy
    simp only [Int.toNat_natCast] at eb;refine AWP_skip ?_;show AWP _ _ _ _ _ _;refine AWP_seq ?_;refine AWP_block ?_;generalize brL g i = L at n1 zl' ⊢
    have z1 : (L.map cN).length = L.length := List.length_map _
    obtain ⟨es, hes⟩ : ∃ es, es = L.map cN := ⟨_, rfl⟩
    obtain ⟨b, hb⟩ : ∃ b, b = L.length := ⟨_, rfl⟩
    rw [← hes] at z1 ⊢;rw [← hb] at z1 zl' ⊢
    rcases b with _ | b
    · refine AWP_reg_seq tok fun K hK => ?_;refine mvQ ?_;refine s_indexAddr rfl (x_m LK.dc rfl rfl rfl rfl hg rfl) rfl ?_;refine ldQ ?_;refine s_alloc rfl rfl rfl rfl rfl rfl ?_;refine asQ ?_;refine s_store rfl rfl rfl rfl rfl ?_;refine s_end (hK _ ?_); clear hK K;rw [← el];refine AWP_reg_seq tok fun K hK => ?_;refine faQ ?_;refine ldQ ?_;refine s_blt rfl (len_m RW.dc rfl rfl) rfl ?_;refine s_callN rfl rfl (single_c g.nodes.length (by omega)) (Or.inl rfl) rfl rfl rfl rfl ?_;refine asQ ?_;refine s_end (hK _ ?_); clear hK K;refine AWP_seq ?_;refine AWP_reg_seq tok fun K hK => ?_;refine faQ ?_;refine ldQ ?_;refine s_blt rfl (len_m LK.dc rfl rfl) rfl ?_;refine mvQ ?_;refine s_end (hK _ ?_); clear hK K;refine AWP_block (a_loop (α := Nat × (Nat → Nat)) (fun p => mk 58 [(1, .ptr 1 0), (4, ownN 200 1 (0)), (5, dI i), (6, .ptr 6 0), (7, .val (.one (.own 24 1 0 g.nodes.length))), (14, V1 (dLs g.links)), (15, dI g.links.length), (16, dI i), (26, V1 (dLs g.links)), (27, dI g.links.length), (28, dI p.1)] [(1, some (.box g.cs)), (6, some (.box (LK.mk x y lx ly lw).cs)), (24, some (.arr 1 (nmD g.nodes.length p.2))), (200, arrN 1 es (0))] []) (fun p => p.1 ≤ g.links.length ∧ RTs g.nodes.length p.2 (rhoL (woL i g.links p.1))) (fun p => g.links.length - p.1) (0, id) ?_ ⟨Nat.zero_le _, by unfold woL; simp only [List.take_zero, List.eraseIdx_nil]; exact RTs_id _⟩ ?_)
      · exact Wk.mk' ⟨rfl, rfl, rfl, rfl, rfl, rfl, rfl, rfl, rfl, rfl, rfl, trivial⟩ ⟨rfl, rfl, rfl, rfl, trivial⟩
      rintro ⟨j, s⟩ ⟨hj, hs⟩
      simp only at hj hs ⊢
      refine AWP_reg_seq tok fun K hK => ?_;refine biQ ?_;refine s_end (hK _ ?_); clear hK K;refine AWP_seq ?_;refine a_cond rfl (fun hk => ?_) (fun hk => ?_)
      · have hk : j < g.links.length := by simp at hk; omega
        obtain ⟨m, em⟩ : ∃ m, m = g.links[j] := ⟨_, rfl⟩
        have hmm : m ∈ g.links := em ▸ List.getElem_mem hk
        obtain ⟨p, q, hpn, hqn, hp, hq, _⟩ := (gLV gv m hmm).lt
        have w1 := woL_succ (k := i) hk
        rw [← em] at w1
        obtain ⟨mf, mt, mx, my, mw⟩ := m
        simp only at hp hq
        subst hp hq
        refine AWP_skip ?_;show AWP _ _ _ _ _ _;refine AWP_seq ?_;refine AWP_block ?_;refine AWP_reg_seq tok fun K hK => ?_;refine mvQ ?_;refine s_indexAddr rfl (x_m LK.dc rfl rfl rfl rfl hk rfl) rfl ?_;refine ldQ ?_;refine s_alloc rfl rfl rfl rfl rfl rfl ?_;refine asQ ?_;refine s_store rfl rfl rfl rfl rfl ?_;refine s_end (hK _ ?_); clear hK K;rw [← em];refine AWP_reg_seq tok fun K hK => ?_;refine mvQ ?_;refine mvQ ?_;refine s_bin rfl (e_neN _ _) rfl ?_;refine s_end (hK _ ?_); clear hK K;refine a_cond rfl (fun hd => ?_) (fun hd => ?_)
        · have hd := of_decide_eq_true hd
          rw [if_neg hd] at w1
          have er : rhoL (woL i g.links (j + 1)) = jR (rhoL (woL i g.links j)) p q := by rw [w1, rhoL_snoc]; rfl
          generalize rhoL (woL i g.links j) = ρ at hs er
          have hrp := hs p hpn
          have hrq := hs q hqn
          have hs2 := RTs_join (s' := fun z => if z = ρ p then ρ q else s z) hs hpn hqn (fun _ => rfl)
          rw [← er] at hs2;refine AWP_regW fun K hK => ?_;refine w_step tok rfl ?_;refine mvQ ?_;refine s_end ?_;refine w_step tok rfl ?_;refine faQ ?_;refine s_end ?_;refine w_step tok rfl ?_;refine ldQ ?_;refine s_end ?_;refine w_step tok rfl ?_;refine faQ ?_;refine s_end ?_;refine w_step tok rfl ?_;refine ldQ ?_;refine s_end ?_;refine w_join (m := g.nodes.length) (s' := fun z => if z = ρ p then ρ q else s z) (join_m hrp hrq) rfl rfl rfl rfl rfl hrp.lt (fun _ _ => rfl) ?_;refine w_end rfl (hK _ ?_); clear hK K;show AWP _ _ _ _ _ _;refine AWP_reg tok fun K hK => ?_;refine s_bin rfl (e_add (c := ((j + 1 : Nat) : Int)) (by omega) (by omega)) rfl ?_;refine mvQ ?_;refine s_end (hK _ ?_); clear hK K;exact ⟨(j + 1, fun z => if z = ρ p then ρ q else s z), (by show g.links.length - (j + 1) < g.links.length - j; omega), ⟨hk, hs2⟩, Wk.mk' ⟨rfl, rfl, rfl, rfl, rfl, rfl, rfl, rfl, rfl, rfl, rfl, trivial⟩ ⟨rfl, rfl, rfl, rfl, trivial⟩⟩
        · have hd : j = i := Classical.byContradiction (of_decide_eq_false hd)
          rw [if_pos hd] at w1;refine AWP_skip ?_;show AWP _ _ _ _ _ _;refine AWP_reg tok fun K hK => ?_;refine s_bin rfl (e_add (c := ((j + 1 : Nat) : Int)) (by omega) (by omega)) rfl ?_;refine mvQ ?_;refine s_end (hK _ ?_); clear hK K;exact ⟨(j + 1, s), (by show g.links.length - (j + 1) < g.links.length - j; omega), ⟨hk, by simp only; rw [w1]; exact hs⟩, Wk.mk' ⟨rfl, rfl, rfl, rfl, rfl, rfl, rfl, rfl, rfl, rfl, rfl, trivial⟩ ⟨rfl, rfl, rfl, rfl, trivial⟩⟩
      have hk : j = g.links.length := by simp at hk; omega
      subst hk
      have ew : woL i g.links g.links.length = g.links.eraseIdx i := by unfold woL; rw [List.take_length]
      rw [ew] at hs;generalize rhoL (g.links.eraseIdx i) = ρ at hs eb
      have cx := root_c g.nodes.length s x (ρ x) (hs x hxn)
      have cy := root_c g.nodes.length s y (ρ y) (hs y hyn)
      refine AWP_exit ?_;show AWP _ _ _ _ _ _;refine a_fz [1, 4, 5, 6, 7, 14, 15, 16] [1, 6, 24, 200] 24 [(1, .ptr 1 0), (4, ownN 200 1 (0)), (5, dI i), (6, .ptr 6 0), (7, V1 (.sl (nmD g.nodes.length s))), (14, V1 (dLs g.links)), (15, dI g.links.length), (16, dI i)] [(1, some (.box g.cs)), (6, some (.box (LK.mk x y lx ly lw).cs)), (200, arrN 1 es (0))] rfl ?_ ⟨rfl, rfl, rfl, trivial⟩ ?_
      · exact ⟨rfl, rfl, rfl, rfl, frz_own rfl (by rw [nmD_length]), rfl, rfl, rfl, trivial⟩
      refine a_draw tok mixed (A := [[], [], [], [1], [], [], [], [0, 1, 2, 5], [0, 1, 2, 4, 5, 6]]) (an := [{}, {}, {}, {}, { c := [46] }, { c := [46] }, { c := [46] }, {}, {}]) rfl (by kernel_rfl) rfl fun K hK => ?_;refine mvQ ?_;refine faQ ?_;refine ldQ ?_;refine s_call rfl rfl (cx) rfl rfl rfl rfl ?_;refine mvQ ?_;refine faQ ?_;refine ldQ ?_;refine s_call rfl rfl (cy) rfl rfl rfl rfl ?_;refine s_bin rfl (e_neN _ _) rfl ?_;refine s_end (hK _ ?_); clear hK K;refine a_cond rfl (fun hd => ?_) (fun hd => ?_)
      · rw [← eb] at hd;rw [if_pos hd] at n1
        have n2 : es ++ [cN i] = (brL g (i + 1)).map cN := by rw [n1, hes, List.map_append]; rfl
        have k2 : (brL g (i + 1)).length = (0) + 1 := by rw [n1, List.length_append, ← hb]; rfl
        refine AWP_reg tok fun K hK => ?_;refine mvQ ?_;refine mvQ ?_;refine s_buildSlice rfl rfl rfl rfl ?_;refine s_append rfl (ap_nil rfl rfl rfl rfl rfl (by decide) (Nat.le_of_ble_eq_true rfl) rfl (by simp) rfl (by simp) (by simp)) rfl rfl rfl ?_;refine asQ ?_;refine s_end (hK _ ?_); clear hK K;show AWP _ _ _ _ _ _;refine AWP_reg tok fun K hK => ?_;refine s_bin rfl (e_add (c := ((i + 1 : Nat) : Int)) (by omega) (by omega)) rfl ?_;refine mvQ ?_;refine s_end (hK _ ?_); clear hK K;refine ⟨i + 1, by omega, hg, ?_⟩;rw [k2];refine Wk.rn [1, 4, 14, 15, 16] [1, 55] 55 200 rfl rfl rfl ⟨rfl, ?_, rfl, rfl, rfl, trivial⟩ ⟨rfl, ?_, trivial⟩
        · first
            | rfl
            | (show SV.val (.one (.own 200 1 0 _)) = _
               rw [List.length_append, z1]; rfl)
        · first
            | (rw [← n2, List.length_eq_zero_iff.1 z1]; rfl)
            | (rw [← n2]; rfl)
      · rw [← eb] at hd;rw [if_neg (by rw [hd]; simp)] at n1;refine AWP_skip ?_;show AWP _ _ _ _ _ _;refine AWP_reg tok fun K hK => ?_;refine s_bin rfl (e_add (c := ((i + 1 : Nat) : Int)) (by omega) (by omega)) rfl ?_;refine mvQ ?_;refine s_end (hK _ ?_); clear hK K;refine ⟨i + 1, by omega, hg, ?_⟩;rw [n1, ← hes, ← hb];exact Wk.mk' ⟨rfl, rfl, rfl, rfl, rfl, trivial⟩ ⟨rfl, rfl, trivial⟩
    · refine AWP_reg_seq tok fun K hK => ?_;refine mvQ ?_;refine s_indexAddr rfl (x_m LK.dc rfl rfl rfl rfl hg rfl) rfl ?_;refine ldQ ?_;refine s_alloc rfl rfl rfl rfl rfl rfl ?_;refine asQ ?_;refine s_store rfl rfl rfl rfl rfl ?_;refine s_end (hK _ ?_); clear hK K;rw [← el];refine AWP_reg_seq tok fun K hK => ?_;refine faQ ?_;refine ldQ ?_;refine s_blt rfl (len_m RW.dc rfl rfl) rfl ?_;refine s_callN rfl rfl (single_c g.nodes.length (by omega)) (Or.inl rfl) rfl rfl rfl rfl ?_;refine asQ ?_;refine s_end (hK _ ?_); clear hK K;refine AWP_seq ?_;refine AWP_reg_seq tok fun K hK => ?_;refine faQ ?_;refine ldQ ?_;refine s_blt rfl (len_m LK.dc rfl rfl) rfl ?_;refine mvQ ?_;refine s_end (hK _ ?_); clear hK K;refine AWP_block (a_loop (α := Nat × (Nat → Nat)) (fun p => mk 58 [(1, .ptr 1 0), (4, ownN 200 1 (b + 1)), (5, dI i), (6, .ptr 6 0), (7, .val (.one (.own 24 1 0 g.nodes.length))), (14, V1 (dLs g.links)), (15, dI g.links.length), (16, dI i), (26, V1 (dLs g.links)), (27, dI g.links.length), (28, dI p.1)] [(1, some (.box g.cs)), (6, some (.box (LK.mk x y lx ly lw).cs)), (24, some (.arr 1 (nmD g.nodes.length p.2))), (200, arrN 1 es (b + 1))] []) (fun p => p.1 ≤ g.links.length ∧ RTs g.nodes.length p.2 (rhoL (woL i g.links p.1))) (fun p => g.links.length - p.1) (0, id) ?_ ⟨Nat.zero_le _, by unfold woL; simp only [List.take_zero, List.eraseIdx_nil]; exact RTs_id _⟩ ?_)
      · exact Wk.mk' ⟨rfl, rfl, rfl, rfl, rfl, rfl, rfl, rfl, rfl, rfl, rfl, trivial⟩ ⟨rfl, rfl, rfl, rfl, trivial⟩
      rintro ⟨j, s⟩ ⟨hj, hs⟩
      simp only at hj hs ⊢
      refine AWP_reg_seq tok fun K hK => ?_;refine biQ ?_;refine s_end (hK _ ?_); clear hK K;refine AWP_seq ?_;refine a_cond rfl (fun hk => ?_) (fun hk => ?_)
      · have hk : j < g.links.length := by simp at hk; omega
        obtain ⟨m, em⟩ : ∃ m, m = g.links[j] := ⟨_, rfl⟩
        have hmm : m ∈ g.links := em ▸ List.getElem_mem hk
        obtain ⟨p, q, hpn, hqn, hp, hq, _⟩ := (gLV gv m hmm).lt
        have w1 := woL_succ (k := i) hk
        rw [← em] at w1
        obtain ⟨mf, mt, mx, my, mw⟩ := m
        simp only at hp hq
        subst hp hq
        refine AWP_skip ?_;show AWP _ _ _ _ _ _;refine AWP_seq ?_;refine AWP_block ?_;refine AWP_reg_seq tok fun K hK => ?_;refine mvQ ?_;refine s_indexAddr rfl (x_m LK.dc rfl rfl rfl rfl hk rfl) rfl ?_;refine ldQ ?_;refine s_alloc rfl rfl rfl rfl rfl rfl ?_;refine asQ ?_;refine s_store rfl rfl rfl rfl rfl ?_;refine s_end (hK _ ?_); clear hK K;rw [← em];refine AWP_reg_seq tok fun K hK => ?_;refine mvQ ?_;refine mvQ ?_;refine s_bin rfl (e_neN _ _) rfl ?_;refine s_end (hK _ ?_); clear hK K;refine a_cond rfl (fun hd => ?_) (fun hd => ?_)
        · have hd := of_decide_eq_true hd
          rw [if_neg hd] at w1
          have er : rhoL (woL i g.links (j + 1)) = jR (rhoL (woL i g.links j)) p q := by rw [w1, rhoL_snoc]; rfl
          generalize rhoL (woL i g.links j) = ρ at hs er
          have hrp := hs p hpn
          have hrq := hs q hqn
          have hs2 := RTs_join (s' := fun z => if z = ρ p then ρ q else s z) hs hpn hqn (fun _ => rfl)
          rw [← er] at hs2;refine AWP_regW fun K hK => ?_;refine w_step tok rfl ?_;refine mvQ ?_;refine s_end ?_;refine w_step tok rfl ?_;refine faQ ?_;refine s_end ?_;refine w_step tok rfl ?_;refine ldQ ?_;refine s_end ?_;refine w_step tok rfl ?_;refine faQ ?_;refine s_end ?_;refine w_step tok rfl ?_;refine ldQ ?_;refine s_end ?_;refine w_join (m := g.nodes.length) (s' := fun z => if z = ρ p then ρ q else s z) (join_m hrp hrq) rfl rfl rfl rfl rfl hrp.lt (fun _ _ => rfl) ?_;refine w_end rfl (hK _ ?_); clear hK K;show AWP _ _ _ _ _ _;refine AWP_reg tok fun K hK => ?_;refine s_bin rfl (e_add (c := ((j + 1 : Nat) : Int)) (by omega) (by omega)) rfl ?_;refine mvQ ?_;refine s_end (hK _ ?_); clear hK K;exact ⟨(j + 1, fun z => if z = ρ p then ρ q else s z), (by show g.links.length - (j + 1) < g.links.length - j; omega), ⟨hk, hs2⟩, Wk.mk' ⟨rfl, rfl, rfl, rfl, rfl, rfl, rfl, rfl, rfl, rfl, rfl, trivial⟩ ⟨rfl, rfl, rfl, rfl, trivial⟩⟩
        · have hd : j = i := Classical.byContradiction (of_decide_eq_false hd)
          rw [if_pos hd] at w1;refine AWP_skip ?_;show AWP _ _ _ _ _ _;refine AWP_reg tok fun K hK => ?_;refine s_bin rfl (e_add (c := ((j + 1 : Nat) : Int)) (by omega) (by omega)) rfl ?_;refine mvQ ?_;refine s_end (hK _ ?_); clear hK K;exact ⟨(j + 1, s), (by show g.links.length - (j + 1) < g.links.length - j; omega), ⟨hk, by simp only; rw [w1]; exact hs⟩, Wk.mk' ⟨rfl, rfl, rfl, rfl, rfl, rfl, rfl, rfl, rfl, rfl, rfl, trivial⟩ ⟨rfl, rfl, rfl, rfl, trivial⟩⟩
      have hk : j = g.links.length := by simp at hk; omega
      subst hk
      have ew : woL i g.links g.links.length = g.links.eraseIdx i := by unfold woL; rw [List.take_length]
      rw [ew] at hs;generalize rhoL (g.links.eraseIdx i) = ρ at hs eb
      have cx := root_c g.nodes.length s x (ρ x) (hs x hxn)
      have cy := root_c g.nodes.length s y (ρ y) (hs y hyn)
      refine AWP_exit ?_;show AWP _ _ _ _ _ _;refine a_fz [1, 4, 5, 6, 7, 14, 15, 16] [1, 6, 24, 200] 24 [(1, .ptr 1 0), (4, ownN 200 1 (b + 1)), (5, dI i), (6, .ptr 6 0), (7, V1 (.sl (nmD g.nodes.length s))), (14, V1 (dLs g.links)), (15, dI g.links.length), (16, dI i)] [(1, some (.box g.cs)), (6, some (.box (LK.mk x y lx ly lw).cs)), (200, arrN 1 es (b + 1))] rfl ?_ ⟨rfl, rfl, rfl, trivial⟩ ?_
      · exact ⟨rfl, rfl, rfl, rfl, frz_own rfl (by rw [nmD_length]), rfl, rfl, rfl, trivial⟩
      refine a_draw tok mixed (A := [[], [], [], [1], [], [], [], [0, 1, 2, 5], [0, 1, 2, 4, 5, 6]]) (an := [{}, {}, {}, {}, { c := [46] }, { c := [46] }, { c := [46] }, {}, {}]) rfl (by kernel_rfl) rfl fun K hK => ?_;refine mvQ ?_;refine faQ ?_;refine ldQ ?_;refine s_call rfl rfl (cx) rfl rfl rfl rfl ?_;refine mvQ ?_;refine faQ ?_;refine ldQ ?_;refine s_call rfl rfl (cy) rfl rfl rfl rfl ?_;refine s_bin rfl (e_neN _ _) rfl ?_;refine s_end (hK _ ?_); clear hK K;refine a_cond rfl (fun hd => ?_) (fun hd => ?_)
      · rw [← eb] at hd;rw [if_pos hd] at n1
        have n2 : es ++ [cN i] = (brL g (i + 1)).map cN := by rw [n1, hes, List.map_append]; rfl
        have k2 : (brL g (i + 1)).length = (b + 1) + 1 := by rw [n1, List.length_append, ← hb]; rfl
        refine AWP_reg tok fun K hK => ?_;refine mvQ ?_;refine mvQ ?_;refine s_buildSlice rfl rfl rfl rfl ?_;refine s_append rfl (ap_o rfl rfl rfl rfl rfl rfl (by decide) (Nat.le_of_ble_eq_true rfl) rfl (by simp) rfl rfl z1.symm (by simp <;> omega)) rfl rfl rfl ?_;refine asQ ?_;refine s_end (hK _ ?_); clear hK K;show AWP _ _ _ _ _ _;refine AWP_reg tok fun K hK => ?_;refine s_bin rfl (e_add (c := ((i + 1 : Nat) : Int)) (by omega) (by omega)) rfl ?_;refine mvQ ?_;refine s_end (hK _ ?_); clear hK K;refine ⟨i + 1, by omega, hg, ?_⟩;rw [k2];refine Wk.rn [1, 4, 14, 15, 16] [1, 55] 55 200 rfl rfl rfl ⟨rfl, ?_, rfl, rfl, rfl, trivial⟩ ⟨rfl, ?_, trivial⟩
        · first
            | rfl
            | (show SV.val (.one (.own 200 1 0 _)) = _
               rw [List.length_append, z1]; rfl)
        · first
            | (rw [← n2, List.length_eq_zero_iff.1 z1]; rfl)
            | (rw [← n2]; rfl)
      · rw [← eb] at hd;rw [if_neg (by rw [hd]; simp)] at n1;refine AWP_skip ?_;show AWP _ _ _ _ _ _;refine AWP_reg tok fun K hK => ?_;refine s_bin rfl (e_add (c := ((i + 1 : Nat) : Int)) (by omega) (by omega)) rfl ?_;refine mvQ ?_;refine s_end (hK _ ?_); clear hK K;refine ⟨i + 1, by omega, hg, ?_⟩;rw [n1, ← hes, ← hb];exact Wk.mk' ⟨rfl, rfl, rfl, rfl, rfl, trivial⟩ ⟨rfl, rfl, trivial⟩
  have hg : i = g.links.length := by simp at hg; omega
  subst hg
  refine AWP_exit ?_;show AWP _ _ _ _ _ _;generalize brL g g.links.length = L
  rcases L with _ | ⟨l, L⟩
  · refine AWP_reg_seq tok fun K hK => ?_;refine mvQ ?_;refine asQ ?_;refine asQ ?_;refine s_end (hK _ ?_); clear hK K;refine AWP_ret ?_
    repeat (with_reducible refine tq_ret ?_)
    exact post_ret (fin_mk (by rfl) (by rfl) (by rfl))
  · refine a_fz [4] [200] 200 [(4, V1 (dNs (l :: L)))] [] rfl ?_ trivial ?_
    · exact ⟨frz_own rfl (by simp), trivial⟩
    refine AWP_reg_seq tok fun K hK => ?_;refine mvQ ?_;refine asQ ?_;refine asQ ?_;refine s_end (hK _ ?_); clear hK K;refine AWP_ret ?_
    repeat (with_reducible refine tq_ret ?_)
    exact post_ret (fin_mk (by rfl) (by rfl) (by rfl))
end Go.Proofs.Ytgopibpkgmafiaa

/- Forests: how many links, which, what they join. No condition. -/
namespace Go.Proofs.Ytgopibpkgmafiaa
attribute [local irreducible] lexA

theorem lt_of_GV {g : GR} (gv : GV g) : ∀ l ∈ g.links, l.f.toNat < g.nodes.length ∧ l.t.toNat < g.nodes.length := fun l hl => by
  have lv := gLV gv l hl
  have h1 := lv.f
  have h2 := lv.t
  omega
theorem rho_idem {n : Nat} : ∀ (d : Nat) (ls : List LK), ls.length = d → (∀ l ∈ ls, l.f.toNat < n ∧ l.t.toNat < n) → ∀ x, x < n → rhoL ls x < n ∧ rhoL ls (rhoL ls x) = rhoL ls x
  | 0, ls, h, _ => fun x hx => by
    have : ls = [] := List.length_eq_zero_iff.1 h
    subst this
    exact ⟨hx, rfl⟩
  | d + 1, ls, h, hl => fun x hx => by
    obtain ⟨ys, l, rfl⟩ : ∃ ys l, ls = ys ++ [l] := by
      have hne : ls ≠ [] := fun e => by rw [e] at h; cases h
      exact ⟨ls.dropLast, ls.getLast hne, (List.dropLast_concat_getLast hne).symm⟩
    have hl' : ∀ x ∈ ys, x.f.toNat < n ∧ x.t.toNat < n := fun x hx => hl x (List.mem_append_left _ hx)
    obtain ⟨hf, ht⟩ := hl l (by simp)
    have ih := rho_idem d ys (by simpa using h) hl'
    rw [rhoL_snoc]
    have i1 := ih x hx
    have i2 := ih _ ht
    unfold jR
    by_cases e : rhoL ys x = rhoL ys l.f.toNat
    · rw [if_pos e];refine ⟨i2.1, ?_⟩;rw [i2.2]; split <;> rfl
    · rw [if_neg e];refine ⟨i1.1, ?_⟩;rw [i1.2, if_neg e]
theorem rt_join {n : Nat} {ρ : Nat → Nat} {f t : Nat} (hi : ∀ x, x < n → ρ x < n ∧ ρ (ρ x) = ρ x) (hf : f < n) (ht : t < n) : rtN n ρ = rtN n (jR ρ f t) + (if ρ f ≠ ρ t then 1 else 0) := by
  by_cases e : ρ f = ρ t
  · rw [if_neg (by simp [e])]
    have : jR ρ f t = ρ := by
      funext x; unfold jR
      by_cases h : ρ x = ρ f
      · rw [if_pos h, h, e]
      · rw [if_neg h]
    rw [this]; rfl
  · rw [if_pos e]
    have h1 := hi f hf
    have h2 := hi t ht
    refine kN_less (a := ρ f) ?_ ?_ h1.1 fun v hv hne => ?_
    · rw [beq_iff_eq]; exact h1.2
    · unfold jR; rw [if_pos h1.2]; exact beq_eq_false_iff_ne.2 (fun h => e h.symm)
    · rw [Bool.eq_iff_iff, beq_iff_eq, beq_iff_eq]
      unfold jR
      by_cases h : ρ v = ρ f
      · rw [if_pos h]
        constructor
        · intro h'; exact absurd (h'.symm.trans h) hne
        · intro h'
          rw [← h', h2.2] at h;exact absurd h.symm e
      · rw [if_neg h]
theorem foL_count {g : GR} (gv : GV g) : ∀ k, k ≤ g.links.length → (foL g k).length + rtN g.nodes.length (rhoL (g.links.take k)) = g.nodes.length
  | 0, _ => by
    show 0 + rtN g.nodes.length id = _
    unfold rtN kN
    have : (List.range g.nodes.length).filter (fun v => id v == v) = List.range g.nodes.length := List.filter_eq_self.2 fun v _ => by simp
    rw [this, List.length_range, Nat.zero_add]
  | k + 1, hk => by
    have ih := foL_count gv k (by omega)
    have hk' : k < g.links.length := by omega
    have hm := lt_of_GV gv _ (List.getElem_mem hk')
    have hi := rho_idem (n := g.nodes.length) _ (g.links.take k) rfl fun l hl => lt_of_GV gv l (List.mem_of_mem_take hl)
    rw [foL_succ, List.take_succ_eq_append_getElem hk', rhoL_snoc]
    have e := rt_join hi hm.1 hm.2
    have eb : foB g k = decide (rhoL (g.links.take k) g.links[k].f.toNat ≠ rhoL (g.links.take k) g.links[k].t.toNat) := by unfold foB; rw [List.getElem?_eq_getElem hk']
    by_cases h : rhoL (g.links.take k) g.links[k].f.toNat ≠ rhoL (g.links.take k) g.links[k].t.toNat
    · rw [if_pos (eb.trans (decide_eq_true h)), List.length_append, List.length_singleton];rw [if_pos h] at e; omega
    · rw [if_neg (by rw [eb, decide_eq_false h]; simp)];rw [if_neg h] at e; omega
/-- Components by connectedness. -/
theorem cmp_rt {g : GR} (gv : GV g) {ρ : Nat → Nat} (hi : ∀ x, x < g.nodes.length → ρ x < g.nodes.length ∧ ρ (ρ x) = ρ x) (hk : ∀ u v, u < g.nodes.length → v < g.nodes.length → (ρ u = ρ v ↔ Cnn (prs g.links) u v)) : cmpN g = rtN g.nodes.length ρ := by
  have h : RG (partsR g) := (partsL_ok _ _).1
  rw [cmpN_num gv, num_rt];refine roots_eq (fun v hv => ⟨Nat.lt_of_le_of_lt (fd_le h v) hv, fd_idem h v⟩) hi fun u v hu hv => ?_;rw [hk u v hu hv, ← lab_cnn gv hu hv, lab_iff' gv hu hv]; rfl
theorem forest_count {g : GR} (gv : GV g) : (foL g g.links.length).length + cmpN g = g.nodes.length := by
  have h := foL_count gv g.links.length (Nat.le_refl _)
  rw [List.take_length] at h;rw [cmp_rt gv (rho_idem _ g.links rfl (lt_of_GV gv)) (rho_cnn _ g.links rfl (lt_of_GV gv))]; exact h
end Go.Proofs.Ytgopibpkgmafiaa

/- law32: Forest. No condition. -/
namespace Go.Proofs.Ytgopibpkgmafiaa
attribute [local irreducible] lexA

theorem at_filter {P : Nat → Bool} {L : List Nat} {i : Nat} (hi : i < L.length) : (((L.take i).filter P).length < (L.filter P).length ∧ (L.filter P).getD ((L.take i).filter P).length 0 = L[i]) ↔ P L[i] = true := by
  have e : L.filter P = (L.take i).filter P ++ (L.drop i).filter P := by rw [← List.filter_append, List.take_append_drop]
  have ed : L.drop i = L[i] :: L.drop (i + 1) := List.drop_eq_getElem_cons hi
  constructor
  · rintro ⟨h1, h2⟩
    rw [List.getD_eq_getElem?_getD, List.getElem?_eq_getElem h1] at h2
    have h2 : (L.filter P)[((L.take i).filter P).length] = L[i] := h2
    rw [← h2];exact (List.mem_filter.1 (List.getElem_mem h1)).2
  · intro h
    have e2 : L.filter P = (L.take i).filter P ++ L[i] :: (L.drop (i + 1)).filter P := by
      rw [e, ed, List.filter_cons_of_pos h]
    refine ⟨by rw [e2, List.length_append, List.length_cons]; omega, ?_⟩;rw [e2, List.getD_eq_getElem?_getD, List.getElem?_append_right (Nat.le_refl _), Nat.sub_self]; rfl
theorem gd_at {l : List Nat} {i : Nat} (h : i < l.length) : l.getD i 0 = l[i] := by rw [List.getD_eq_getElem?_getD, List.getElem?_eq_getElem h]; rfl
theorem e_gtrJ {T : Tab} {t : TypeId} {a b : Int} {c : Bool} (h : decide (a > b) = c) : effBin T .gtr t (dI a) (dI b) = .set (dB c) := by subst h; rfl
def ptB (g : GR) (fo : List Nat) (i : Nat) : Nat := ((fo.take i).filter (brB g)).length
theorem ptB_succ {g : GR} {fo : List Nat} {i : Nat} (hi : i < fo.length) : ptB g fo (i + 1) = if brB g fo[i] = true then ptB g fo i + 1 else ptB g fo i := by
  unfold ptB
  rw [List.take_succ_eq_append_getElem hi, List.filter_append]
  by_cases h : brB g fo[i] = true
  · rw [if_pos h]; simp [h]
  · rw [if_neg h]; simp [h]

end Go.Proofs.Ytgopibpkgmafiaa

/- A common denominator of all resistances. No condition. -/
namespace Go.Proofs.Ytgopibpkgmafiaa
attribute [local irreducible] lexA

/-- Whether v is a root. -/
def isRt (g : GR) (v : Nat) : Bool := rootN g v == v
theorem prS_root {g : GR} (gv : GV g) {i : Nat} (hi : i < g.nodes.length) : prS g (rootN g i) = prS g i := by
  have h : RG (partsR g) := (partsL_ok _ _).1
  have hr : rootN g i < g.nodes.length := Nat.lt_of_le_of_lt (fd_le h i) hi
  have : lab g (rootN g i) = lab g i := (lab_iff' gv hr hi).2 (fd_idem h i)
  funext v; unfold prS; rw [this]
theorem prE_root {g : GR} (gv : GV g) {i : Nat} (hi : i < g.nodes.length) (ls : List LK) : prE g (rootN g i) ls = prE g i ls := by
  unfold prE prK prN; rw [prS_root gv hi]
/-- The trees of the component of v. -/
def cmT (g : GR) (v : Nat) : Int := trZ id (kN g.nodes.length (prS g v) - 1) (prE g v g.links)
def cmD (g : GR) (v : Nat) : Int := if cmT g v = 0 then 1 else cmT g v
def cmP (g : GR) : Nat → Int
  | 0 => 1
  | k + 1 => if isRt g k = true then cmP g k * cmD g k else cmP g k
theorem cmD_dvd {g : GR} {v : Nat} (hv : isRt g v = true) : ∀ {k : Nat}, v < k → cmD g v ∣ cmP g k
  | 0, h => by omega
  | k + 1, h => by
    simp only [cmP]
    by_cases e : v = k
    · subst e; rw [if_pos hv]; exact Int.dvd_mul_left _ _
    · have ih := cmD_dvd hv (k := k) (by omega)
      split
      · exact Int.dvd_trans ih (Int.dvd_mul_right _ _)
      · exact ih
/-- How many links the components of the roots below k have. -/
def cmC (g : GR) (ls : List LK) : Nat → Nat
  | 0 => 0
  | k + 1 => if isRt g k = true then cmC g ls k + (prE g k ls).length else cmC g ls k
theorem prE_len_cons (g : GR) (v : Nat) (x : LK) (xs : List LK) : (prE g v (x :: xs)).length = (if prS g v x.f.toNat = true then 1 else 0) + (prE g v xs).length := by
  unfold prE
  by_cases h : prS g v x.f.toNat = true
  · rw [if_pos h]; simp [h]; omega
  · rw [if_neg h]; simp [h]
theorem cmC_cons {g : GR} (gv : GV g) {x : LK} (xs : List LK) (hx : x.f.toNat < g.nodes.length) : ∀ k, k ≤ g.nodes.length → cmC g (x :: xs) k = cmC g xs k + (if rootN g x.f.toNat < k then 1 else 0)
  | 0, _ => by rw [if_neg (by omega)]; rfl
  | k + 1, hk => by
    have ih := cmC_cons gv xs hx k (by omega)
    have h : RG (partsR g) := (partsL_ok _ _).1
    have hkk : k < g.nodes.length := by omega
    simp only [cmC]
    by_cases e : isRt g k = true
    · rw [if_pos e, if_pos e, ih, prE_len_cons]
      have e' : rootN g k = k := by unfold isRt at e; rwa [beq_iff_eq] at e
      have hs : prS g k x.f.toNat = true ↔ rootN g x.f.toNat = k := by
        show decide (lab g x.f.toNat = lab g k) = true ↔ _
        rw [decide_eq_true_eq, lab_iff' gv hx hkk, e']
      by_cases q : rootN g x.f.toNat = k
      · rw [if_pos (hs.2 q), if_neg (by omega), if_pos (by omega)]; omega
      · rw [if_neg (fun h => q (hs.1 h))]
        by_cases q2 : rootN g x.f.toNat < k
        · rw [if_pos q2, if_pos (by omega)]; omega
        · rw [if_neg q2, if_neg (by omega)]; omega
    · rw [if_neg e, if_neg e, ih]
      have q : rootN g x.f.toNat ≠ k := fun q => e (by
        unfold isRt; rw [beq_iff_eq, ← q]; exact fd_idem h _)
      by_cases q2 : rootN g x.f.toNat < k
      · rw [if_pos q2, if_pos (by omega)]
      · rw [if_neg q2, if_neg (by omega)]
theorem cmC_all {g : GR} (gv : GV g) : ∀ (ls : List LK), (∀ l ∈ ls, l.f.toNat < g.nodes.length) → cmC g ls g.nodes.length = ls.length
  | [], _ => by
    have : ∀ k, cmC g [] k = 0 := by
      intro k
      induction k with
      | zero => rfl
      | succ k ih => simp only [cmC, ih]; split <;> rfl
    exact this _
  | x :: xs, h => by
    have h' : RG (partsR g) := (partsL_ok _ _).1
    have hx := h x List.mem_cons_self
    rw [cmC_cons gv xs hx _ (Nat.le_refl _), cmC_all gv xs (fun l hl => h l (List.mem_cons_of_mem _ hl)), if_pos (show rootN g x.f.toNat < g.nodes.length from Nat.lt_of_le_of_lt (fd_le h' _) hx)]; rfl
theorem cmP_bd {g : GR} (gv : GV g) : ∀ k, k ≤ g.nodes.length → 0 < cmP g k ∧ cmP g k ≤ ((2 ^ (21 * cmC g g.links k) : Nat) : Int)
  | 0, _ => by simp [cmP, cmC]
  | k + 1, hk => by
    have ih := cmP_bd gv k (by omega)
    simp only [cmP, cmC]
    by_cases e : isRt g k = true
    · rw [if_pos e, if_pos e]
      have hw : ∀ l ∈ prE g k g.links, 0 ≤ l.w ∧ l.w ≤ 1048576 := fun l hl => by
        obtain ⟨x, hx, rfl⟩ := List.mem_map.1 hl
        have := (gLV gv x (List.mem_filter.1 hx).1).w
        show 0 ≤ x.w ∧ x.w ≤ 1048576
        omega
      have b : 0 < cmD g k ∧ cmD g k ≤ ((2 ^ (21 * (prE g k g.links).length) : Nat) : Int) := by
        have b : 0 ≤ cmT g k ∧ cmT g k ≤ ((2 ^ (21 * (prE g k g.links).length) : Nat) : Int) := trZ_bd _ _ _ hw
        have p : 0 < 2 ^ (21 * (prE g k g.links).length) := Nat.two_pow_pos _
        unfold cmD; split <;> omega
      refine ⟨Int.mul_pos ih.1 b.1, ?_⟩;rw [Nat.mul_add, Nat.pow_add, Int.natCast_mul]
      have a1 : cmP g k * cmD g k ≤ ((2 ^ (21 * cmC g g.links k) : Nat) : Int) * cmD g k := Int.mul_le_mul_of_nonneg_right ih.2 (Int.le_of_lt b.1)
      have a2 : ((2 ^ (21 * cmC g g.links k) : Nat) : Int) * cmD g k ≤ ((2 ^ (21 * cmC g g.links k) : Nat) : Int) * ((2 ^ (21 * (prE g k g.links).length) : Nat) : Int) := Int.mul_le_mul_of_nonneg_left b.2 (Int.natCast_nonneg _)
      omega
    · rw [if_neg e, if_neg e]; exact ih
end Go.Proofs.Ytgopibpkgmafiaa

/- Leverages over the common denominator. No condition. -/
namespace Go.Proofs.Ytgopibpkgmafiaa
attribute [local irreducible] lexA

theorem wls_erase' : ∀ (k : Nat) (ls : List LK), wls (ls.eraseIdx k) = (wls ls).eraseIdx k
  | _, [] => rfl
  | 0, _ :: _ => rfl
  | k + 1, x :: xs => by
    show wlk x :: wls (xs.eraseIdx k) = wlk x :: (wls xs).eraseIdx k
    rw [wls_erase' k xs]
theorem cmD_root {g : GR} (gv : GV g) {i : Nat} (hi : i < g.nodes.length) : cmD g (rootN g i) = cmD g i := by
  unfold cmD cmT; rw [prS_root gv hi, prE_root gv hi]
theorem lev_at {g : GR} (gv : GV g) {k : Nat} {l : LK} (hl : g.links[k]? = some l) : 0 < levQ g l ∧ levQ g l ≤ 1 ∧ (levQ g l = 1 ↔ brB g k = true) := by
  have hml := List.mem_of_getElem? hl
  have hk : k < g.links.length := (List.getElem?_eq_some_iff.1 hl).1
  have hk' : k < (wls g.links).length := by unfold wls; rw [List.length_map]; exact hk
  have he : (wls g.links)[k] = wlk l := by
    have := (List.getElem?_eq_some_iff.1 hl).2
    simp only [wls, List.getElem_map, this]
  have lv := gLV gv l hml
  have hm := lt_of_GV gv l hml
  have hne : l.f.toNat ≠ l.t.toNat := by
    have h1 := lv.f
    have h2 := lv.t
    have := lv.ne
    omega
  have hlb : lab g l.f.toNat = lab g l.t.toNat := lab_link gv (List.mem_map.2 ⟨l, hml, rfl⟩)
  have hr := res_isR gv hm.1 hm.2 hlb
  have hw : (0 : Rat) < ((l.w : Int) : Rat) := wls_w gv (wlk l) (List.mem_map.2 ⟨l, hml, rfl⟩)
  have L := IsR.lev_le (k := k) (r := resQ g l.f.toNat l.t.toNat) (wls_w gv) (wls_l gv) hk' (by rw [he]; exact hr) (by rw [he]; exact hne)
  rw [he] at L
  have hp := hr.pos (wls_w gv) (wls_l gv) hm.1 hm.2 hne
  refine ⟨Rat.mul_pos hw hp, L.1, ?_⟩
  have L2 := L.2
  have ee : ((wls g.links).eraseIdx k).map (fun x => (x.f, x.t)) = prs (g.links.eraseIdx k) := by rw [← wls_erase', wls_prs]
  rw [ee] at L2
  unfold brB
  rw [hl]
  show levQ g l = 1 ↔ decide _ = true
  rw [decide_eq_true_eq]
  have c := rho_cnn (n := g.nodes.length) _ (g.links.eraseIdx k) rfl (fun l hl => lt_of_GV gv l ((List.eraseIdx_sublist g.links k).subset hl)) _ _ hm.1 hm.2
  exact L2.trans (not_congr c.symm)
end Go.Proofs.Ytgopibpkgmafiaa

/- Foster: leverages add up to nodes minus components; the words of the partial sums. No condition. -/
namespace Go.Proofs.Ytgopibpkgmafiaa
attribute [local irreducible] lexA

def fsL (q : LK → Rat) : List LK → Rat
  | [] => 0
  | x :: xs => q x + fsL q xs
theorem fsL_append (q : LK → Rat) : ∀ a b : List LK, fsL q (a ++ b) = fsL q a + fsL q b
  | [], b => by show fsL q b = 0 + fsL q b; grind
  | x :: xs, b => by
    have := fsL_append q xs b
    show q x + fsL q (xs ++ b) = q x + fsL q xs + fsL q b
    rw [this]; grind
/-- The sum of the first k leverages. -/
def fsS (g : GR) (k : Nat) : Rat := fsL (levQ g) (g.links.take k)
theorem fsS_succ {g : GR} {k : Nat} {l : LK} (hl : g.links[k]? = some l) : fsS g (k + 1) = fsS g k + levQ g l := by
  obtain ⟨hk, e⟩ := List.getElem?_eq_some_iff.1 hl
  unfold fsS
  rw [List.take_succ_eq_append_getElem hk, fsL_append, e]
  show _ + (levQ g l + 0) = _
  grind
theorem sumL_wls {g : GR} {r : WL → Rat} : ∀ {ls : List LK}, (∀ l ∈ ls, r (wlk l) = resQ g l.f.toNat l.t.toNat) → sumL r (wls ls) = fsL (levQ g) ls
  | [], _ => rfl
  | x :: xs, h => by
    have ih := sumL_wls (g := g) (r := r) (ls := xs) fun l hl => h l (List.mem_cons_of_mem _ hl)
    have h1 := h x List.mem_cons_self
    show sumL r (wls xs) + (wlk x).w * r (wlk x) = levQ g x + fsL (levQ g) xs
    rw [ih, h1]
    show _ + ((x.w : Int) : Rat) * _ = ((x.w : Int) : Rat) * _ + _
    grind
theorem sm_roots (ρ : Nat → Nat) : ∀ n : Nat, sm n (fun v => 1 - dl (ρ v) v) = (n : Rat) - (rtN n ρ : Rat)
  | 0 => by show (0 : Rat) = ((0 : Nat) : Rat) - ((0 : Nat) : Rat); grind
  | n + 1 => by
    have ih := sm_roots ρ n
    unfold rtN at ih ⊢
    rw [sm_succ, ih, kN_succ]
    unfold dl
    by_cases e : n = ρ n
    · rw [if_pos e, if_pos (by rw [beq_iff_eq]; exact e.symm)]
      push_cast; grind
    · rw [if_neg e, if_neg (by rw [beq_iff_eq]; exact fun h => e h.symm)]
      push_cast; grind
theorem fs_all {g : GR} (gv : GV g) : fsS g g.links.length = (g.nodes.length : Rat) - (cmpN g : Rat) := by
  have h : RG (partsR g) := (partsL_ok _ _).1
  have hp : ∀ v, ∃ u, v < g.nodes.length → UF g.nodes.length (wls g.links) v (rootN g v) u := fun v => by
    by_cases hv : v < g.nodes.length
    · have hr : rootN g v < g.nodes.length := Nat.lt_of_le_of_lt (fd_le h v) hv
      obtain ⟨u, hu, _⟩ := res_isR gv hv hr ((lab_iff' gv hv hr).2 (fd_idem h v).symm)
      exact ⟨u, fun _ => hu⟩
    · exact ⟨fun _ => 0, fun h => absurd h hv⟩
  obtain ⟨G, hG⟩ : ∃ G : Nat → Nat → Rat, ∀ v, v < g.nodes.length → UF g.nodes.length (wls g.links) v (rootN g v) (G v) :=
    ⟨fun v => (hp v).choose, fun v hv => (hp v).choose_spec hv⟩
  have hll := wls_l gv
  obtain ⟨f1, f2⟩ := foster (rt := rootN g) hll (fun x hx => (lab_iff' gv (hll x hx).1 (hll x hx).2).1 (lab_link gv hx)) hG
  rw [sumL_wls (g := g)] at f2
  · rw [show fsS g g.links.length = fsL (levQ g) g.links by unfold fsS; rw [List.take_length], f2, sm_roots, cmpN_num gv, num_rt]; rfl
  · intro l hl
    have hx : wlk l ∈ wls g.links := List.mem_map.2 ⟨l, hl, rfl⟩
    have hm := lt_of_GV gv l hl
    exact IsR.uniq hll hm.1 hm.2 (f1 _ hx) (res_isR gv hm.1 hm.2 (lab_link gv hx))
theorem lev_int {g : GR} (gv : GV g) {l : LK} (hml : l ∈ g.links) : ∃ z : Int, levQ g l * ((cmP g g.nodes.length : Int) : Rat) = (z : Rat) := by
  have lv := gLV gv l hml
  have hm := lt_of_GV gv l hml
  have hne : l.f.toNat ≠ l.t.toNat := by
    have h1 := lv.f
    have h2 := lv.t
    have := lv.ne
    omega
  have h : RG (partsR g) := (partsL_ok _ _).1
  have hlb : lab g l.f.toNat = lab g l.t.toNat := lab_link gv (List.mem_map.2 ⟨l, hml, rfl⟩)
  have hr := res_isR gv hm.1 hm.2 hlb
  have si : prS g l.f.toNat l.f.toNat = true := decide_eq_true rfl
  have sj : prS g l.f.toNat l.t.toNat = true := decide_eq_true hlb.symm
  have q := res_quot (n := g.nodes.length) (S := prS g l.f.toNat) (ls := wls g.links) (wls_w gv) (prS_link gv _) hm.1 hm.2 hne si sj (fun v hv hs => by
    rw [wls_prs]
    exact (lab_cnn gv hv hm.2).1 ((of_decide_eq_true hs).trans hlb)) hr
  rw [← wls_prE, ← trZ_tr0, ← trZ_tr0] at q
  obtain ⟨q1, q2⟩ := q
  have q1 : ((cmT g l.f.toNat : Int) : Rat) ≠ 0 := q1
  have q2 : resQ g l.f.toNat l.t.toNat * ((cmT g l.f.toNat : Int) : Rat) = ((trZ (mg id (kN l.f.toNat (prS g l.f.toNat)) (kN l.t.toNat (prS g l.f.toNat))) (kN g.nodes.length (prS g l.f.toNat) - 2) (prE g l.f.toNat g.links) : Int) : Rat) := q2
  have hr' : rootN g l.f.toNat < g.nodes.length := Nat.lt_of_le_of_lt (fd_le h _) hm.1
  have d := cmD_dvd (g := g) (v := rootN g l.f.toNat) (by unfold isRt; rw [beq_iff_eq]; exact fd_idem h _) hr'
  rw [cmD_root gv hm.1] at d
  obtain ⟨c, hc⟩ := d
  have e1 : cmD g l.f.toNat = cmT g l.f.toNat := by
    unfold cmD; rw [if_neg (fun e => q1 (by rw [e]; rfl))]
  rw [hc, e1];generalize trZ _ _ _ = A at q2;refine ⟨l.w * A * c, ?_⟩
  unfold levQ
  simp only [Rat.intCast_mul];rw [← q2]; grind
theorem fs_int {g : GR} (gv : GV g) : ∀ k, k ≤ g.links.length → (∃ z : Int, fsS g k * ((cmP g g.nodes.length : Int) : Rat) = (z : Rat)) ∧ 0 ≤ fsS g k ∧ fsS g k ≤ (k : Rat)
  | 0, _ => by
    have e : fsS g 0 = 0 := rfl
    rw [e];exact ⟨⟨0, by grind⟩, by grind, by show (0 : Rat) ≤ ((0 : Nat) : Rat); exact Rat.le_refl⟩
  | k + 1, hk => by
    obtain ⟨⟨z, hz⟩, h0, h1⟩ := fs_int gv k (by omega)
    have hl : g.links[k]? = some (g.links[k]'(by omega)) := List.getElem?_eq_getElem _
    obtain ⟨y, hy⟩ := lev_int gv (List.mem_of_getElem? hl)
    obtain ⟨l1, l2, _⟩ := lev_at gv hl
    rw [fsS_succ hl];refine ⟨⟨z + y, by rw [Rat.intCast_add, ← hz, ← hy]; grind⟩, by grind, ?_⟩
    push_cast; grind
theorem fs_ql {g : GR} (gv : GV g) (h11 : g.links.length ≤ 11) {k : Nat} (hk : k ≤ g.links.length) : ql (fsS g k) ≤ 8 := by
  obtain ⟨⟨z, hz⟩, h0, h1⟩ := fs_int gv k hk
  have b := cmP_bd gv g.nodes.length (Nat.le_refl _)
  rw [cmC_all gv g.links fun l hl => (lt_of_GV gv l hl).1] at b
  have hp : (2 : Nat) ^ (21 * g.links.length) ≤ 2 ^ 231 := Nat.pow_le_pow_right (by decide) (by omega)
  obtain ⟨b1, b2⟩ := b
  have b2 : cmP g g.nodes.length ≤ ((2 ^ 231 : Nat) : Int) := by omega
  generalize cmP g g.nodes.length = P at hz b1 b2
  have p0 : (0 : Rat) < (P : Rat) := by have := Rat.intCast_lt_intCast.2 b1; exact this
  have z0 : 0 ≤ z := by
    have : (0 : Rat) ≤ (z : Rat) := by rw [← hz]; exact Rat.mul_nonneg h0 (Rat.le_of_lt p0)
    exact Rat.intCast_le_intCast.1 this
  have k16 : (k : Rat) ≤ ((16 : Int) : Rat) := by
    have : ((k : Int) : Rat) ≤ ((16 : Int) : Rat) := Rat.intCast_le_intCast.2 (by omega)
    exact this
  have z1 : z ≤ 16 * P := by
    have : (z : Rat) ≤ ((16 * P : Int) : Rat) := by
      rw [← hz, Rat.intCast_mul];exact Rat.mul_le_mul_of_nonneg_right (Rat.le_trans h1 k16) (Rat.le_of_lt p0)
    exact Rat.intCast_le_intCast.1 this
  have e : (2 : Nat) ^ 235 = 16 * 2 ^ 231 := by decide
  refine ql_ratio (k := 235) (N := (z : Rat)) (D := (P : Rat)) ⟨z, rfl, ?_⟩ ⟨P, rfl, ?_⟩ (by grind) hz (by decide)
  · rw [e]; generalize (2 : Nat) ^ 231 = Q at b2 ⊢; omega
  · rw [e]; generalize (2 : Nat) ^ 231 = Q at b2 ⊢; omega
end Go.Proofs.Ytgopibpkgmafiaa

/- law32: Foster. No condition. -/
namespace Go.Proofs.Ytgopibpkgmafiaa
attribute [local irreducible] lexA

theorem qcmp_zero' (x y : Rat) : qcmp x y = 0 ↔ x = y := by
  have a := qcmp_le x y
  have b := qcmp_le y x
  have e : qcmp y x = - qcmp x y := by
    unfold qcmp zcmp; (repeat' split) <;> omega
  rw [e] at b
  constructor
  · intro h
    exact Rat.le_antisymm (a.1 (by omega)) (b.1 (by omega))
  · intro h
    have h1 := a.2 (by rw [h]; exact Rat.le_refl)
    have h2 := b.2 (by rw [h]; exact Rat.le_refl)
    omega
theorem ql_w20' {w : Int} (h : 1 ≤ w ∧ w ≤ 1048576) : ql (w : Rat) ≤ 1 := by
  rw [ql_int]
  have : zl w ≤ 1 := zl_pow (k := 20) (by have e : (2 : Nat) ^ 20 = 1048576 := by decide
                                          rw [e]; omega) (by decide)
  omega
theorem e_neB {T : Tab} {t : TypeId} {b : Bool} (h : isBoolT T t = true) : effBin T .neq t (dB b) (dB b) = .set (dB false) := by
  show (match binA .neq (.bool b) (.bool b) with
    | some v => setLit v
    | none => if isBoolT T t then setLit (.bool (!(b == b))) else .stuck) = _
  show (if isBoolT T t then setLit (.bool (!(b == b))) else Eff.stuck) = _
  rw [if_pos h, beq_self_eq_true]; rfl

set_option maxHeartbeats 1000000 in
theorem lFoster_c (g : GR) : Con Try.prog 8 [AG g.cs] { v := dB true } := by
  refine con_intro (fn := Try.f8) tok Try.func8 (by kernel_rfl) rfl ?_
  intro w0 X
  rw [entry_mkE _ _ [(0, AG g.cs)] rfl rfl];refine AWP_reg_seq tok fun K hK => ?_;refine s_box rfl rfl rfl rfl rfl rfl ?_;refine asQ ?_;refine s_end (hK _ ?_); clear hK K;refine AWP_seq ?_;refine a_join (α := Bool) (fun c => mk 123 [(1, .ptr 1 0), (18, dB c)] [(1, some (.box g.cs))] []) (fun c => c = !fewL g) ?_ ?_
  · refine AWP_regW fun K hK => ?_;refine w_step tok rfl ?_;refine s_call rfl rfl (awake_c) rfl rfl rfl rfl ?_;refine s_end ?_;refine w_step tok rfl ?_;refine s_un rfl rfl rfl ?_;refine s_end ?_;refine w_step tok rfl ?_;refine mvQ ?_;refine s_end ?_;refine w_split (fun h0 => ?_) (fun h0 => ?_)
    · refine w_skip rfl rfl ?_;refine w_skip rfl rfl ?_;refine w_skip rfl rfl ?_;refine w_step tok rfl ?_;refine piQ ?_;refine s_end ?_;refine w_end rfl (hK _ ?_); clear hK K
      first|(exact absurd h0 (by decide))|exact ⟨_, (by simp only [Bool.not_eq_true', Bool.not_eq_false'] at h0; simp only [h0, Bool.not_false, Bool.not_true]), Wk.mk' ⟨rfl, rfl, trivial⟩ ⟨rfl, trivial⟩⟩
    · refine w_step tok rfl ?_;refine ldQ ?_;refine s_end ?_;refine w_step tok rfl ?_;refine s_call rfl rfl (rFew_c g) rfl rfl rfl rfl ?_;refine s_end ?_;refine w_step tok rfl ?_;refine s_un rfl rfl rfl ?_;refine s_end ?_;refine w_step tok rfl ?_;refine piQ ?_;refine s_end ?_;refine w_end rfl (hK _ ?_); clear hK K
      first|(exact absurd h0 (by decide))|exact ⟨_, (by simp only [Bool.not_eq_true', Bool.not_eq_false'] at h0; simp only [h0, Bool.not_false, Bool.not_true]), Wk.mk' ⟨rfl, rfl, trivial⟩ ⟨rfl, trivial⟩⟩
  rintro c rfl
  refine a_cond rfl (fun hc => ?_) (fun hc => ?_)
  · refine AWP_reg_seq tok fun K hK => ?_;refine s_call rfl rfl (awake_c) rfl rfl rfl rfl ?_;refine asQ ?_;refine s_end (hK _ ?_); clear hK K;refine AWP_ret ?_
    repeat (with_reducible refine tq_ret ?_)
    exact post_ret (fin_mk (by rfl) (by rfl) (by rfl))
  rw [Bool.not_eq_false'] at hc
  have h11 : g.links.length ≤ 11 := (of_decide_eq_true hc).2.1
  have cA := gAll_c g
  have cB := gBridges_c g
  have cV := r28Valid_c g (by omega)
  refine AWP_skip ?_;show AWP _ _ _ _ _ _
  by_cases hv : validB g = true
  · have gv := validB_iff.1 hv
    have n16 := gv.n2
    have e1 : allV g = (g.links.map fun l => qzW (levQ g l), 0) := by rw [allV, if_pos hv]
    have e2 : bridgeV g = (brL g g.links.length, 0) := by rw [bridgeV, if_pos hv]
    rw [e1] at cA;rw [e2] at cB
    have cC := rComps_c g gv
    have hsum := fs_all gv
    have hq : ∀ k, k ≤ g.links.length → ql (fsS g k) ≤ 8 := fun k hk => fs_ql gv h11 hk
    have hlev : ∀ i, i < g.links.length → ∃ x : Rat, (g.links.map fun l => qzW (levQ g l))[i]? = some (qzW x) ∧ fsS g (i + 1) = fsS g i + x ∧ 0 < x ∧ x ≤ 1 ∧ (x = 1 ↔ brB g i = true) ∧ ql x ≤ 9 := fun i hi => by
      have hl : g.links[i]? = some (g.links[i]'hi) := List.getElem?_eq_getElem _
      obtain ⟨l1, l2, l3⟩ := lev_at gv hl
      have hml := List.mem_of_getElem? hl
      have hm := lt_of_GV gv _ hml
      have hlb : lab g (g.links[i]'hi).f.toNat = lab g (g.links[i]'hi).t.toNat := lab_link gv (List.mem_map.2 ⟨_, hml, rfl⟩)
      exact ⟨levQ g g.links[i], by rw [List.getElem?_map, hl]; rfl, fsS_succ hl, l1, l2, l3, Nat.le_trans (ql_mul_le (ql_w20' (gLV gv _ hml).w) (res_few gv h11 hm.1 hm.2 hlb)) (by decide)⟩
    have hz : (g.links.map fun l => qzW (levQ g l)).length = g.links.length := List.length_map _
    have hbf : brL g g.links.length = (List.range g.links.length).filter (brB g) := rfl
    have hnum : ((cmpN g : Nat) : Int) ≤ 16 := by
      have := forest_count gv; omega
    generalize hLV : (g.links.map fun l => qzW (levQ g l)) = LV at cA hlev hz;generalize brL g g.links.length = br at cB hbf;generalize cmpN g = cm at hsum hnum cC
    have hbr : br.length ≤ g.links.length := by rw [hbf]; exact Nat.le_trans (List.length_filter_le _ _) (by rw [List.length_range]; exact Nat.le_refl _)
    have co := qOfI_c 1 ⟨by decide, by decide⟩
    have cz := qOfI_c 0 ⟨by decide, by decide⟩
    have o1 : (qzW ((1 : Int) : Rat)).OK 2 := qzW_ok (ql_i64 ⟨by decide, by decide⟩)
    refine AWP_reg_seq tok fun K hK => ?_;refine ldQ ?_;refine s_call rfl rfl (cA) rfl rfl rfl rfl ?_;refine mvQ ?_;refine s_extract rfl rfl rfl ?_;refine s_extract rfl rfl rfl ?_;refine asQ ?_;refine asQ ?_;refine s_end (hK _ ?_); clear hK K;refine AWP_reg_seq tok fun K hK => ?_;refine ldQ ?_;refine s_call rfl rfl (cB) rfl rfl rfl rfl ?_;refine mvQ ?_;refine s_extract rfl rfl rfl ?_;refine s_extract rfl rfl rfl ?_;refine asQ ?_;refine asQ ?_;refine s_end (hK _ ?_); clear hK K;refine AWP_seq ?_;refine AWP_reg_seq tok fun K hK => ?_;refine mvQ ?_;refine biQ ?_;refine mvQ ?_;refine mvQ ?_;refine biQ ?_;refine piQ ?_;refine s_end (hK _ ?_); clear hK K;refine a_cond rfl (fun h => by cases h) (fun _ => ?_);refine AWP_skip ?_;show AWP _ _ _ _ _ _;refine AWP_seq ?_;refine AWP_reg_seq tok fun K hK => ?_;refine mvQ ?_;refine s_blt rfl (len_m RW.dc rfl rfl) rfl ?_;refine faQ ?_;refine ldQ ?_;refine s_blt rfl (len_m LK.dc rfl rfl) rfl ?_;refine s_bin rfl (e_neJ (c := false) (by rw [hz]; simp)) rfl ?_;refine s_end (hK _ ?_); clear hK K;refine a_cond rfl (fun h => by cases h) (fun _ => ?_);refine AWP_skip ?_;show AWP _ _ _ _ _ _;refine AWP_reg_seq tok fun K hK => ?_;refine s_call rfl rfl (co) rfl rfl rfl rfl ?_;refine s_alloc rfl rfl rfl rfl rfl rfl ?_;refine s_store rfl rfl rfl rfl rfl ?_;refine s_end (hK _ ?_); clear hK K;refine AWP_reg_seq tok fun K hK => ?_;refine s_call rfl rfl (cz) rfl rfl rfl rfl ?_;refine s_alloc rfl rfl rfl rfl rfl rfl ?_;refine s_store rfl rfl rfl rfl rfl ?_;refine s_end (hK _ ?_); clear hK K;refine AWP_reg_seq tok fun K hK => ?_;refine asQ ?_;refine s_end (hK _ ?_); clear hK K;refine AWP_seq ?_;refine AWP_reg_seq tok fun K hK => ?_;refine asQ ?_;refine s_end (hK _ ?_); clear hK K;refine AWP_block (a_loop (α := Nat) (fun i => mk 123 [(1, .ptr 1 0), (3, V1 (dRs LV)), (5, V1 (dNs br)), (7, .ptr 7 0), (8, .ptr 8 0), (9, dI (ptB g (List.range g.links.length) i : Nat)), (10, dI i)] [(1, some (.box g.cs)), (7, some (.box (qzW ((1 : Int) : Rat)).cs)), (8, some (.box (qzW (fsS g i)).cs))] []) (fun i => i ≤ g.links.length) (fun i => g.links.length - i) 0 ?_ (Nat.zero_le _) ?_)
    · exact Wk.mk' ⟨rfl, rfl, rfl, rfl, rfl, rfl, rfl, trivial⟩ ⟨rfl, rfl, rfl, trivial⟩
    intro i hi
    refine AWP_seq ?_;refine AWP_reg_seq tok fun K hK => ?_;refine mvQ ?_;refine mvQ ?_;refine s_blt rfl (len_m RW.dc rfl rfl) rfl ?_;refine biQ ?_;refine s_end (hK _ ?_); clear hK K;refine a_cond rfl (fun hg => ?_) (fun hg => ?_)
    · have hg : i < g.links.length := by simp at hg; omega
      have hgL : i < LV.length := by omega
      obtain ⟨x, x1, x2, x3, x4, x5, x6⟩ := hlev i hg
      have eL : LV[i] = qzW x := by rw [List.getElem?_eq_getElem hgL] at x1; exact Option.some.inj x1
      have hqi := hq i hi
      generalize fsS g i = s at hqi x2 ⊢
      have ox : (qzW x).OK 9 := qzW_ok x6
      have os : (qzW s).OK 8 := qzW_ok hqi
      have cS := small_c [qzW x, qzW s]
      have eS : smallL [qzW x, qzW s] = true := decide_eq_true ⟨by simp, by
        have a1 := fwN_ok ox
        have a2 := fwN_ok os
        simp only [List.take_succ_cons, List.take_nil, fwS]; omega⟩
      rw [eS] at cS
      have cG := qSign_t (qzW x) (ox.mono rfl)
      rw [qzW_v] at cG
      have cK := qCmp_t (qzW x) (qzW ((1 : Int) : Rat)) (ox.mono rfl) (o1.mono rfl)
      rw [qzW_v, qzW_v] at cK
      have cD := qAdd_t (qzW s) (qzW x) (s + x) (os.mono rfl) (ox.mono rfl) (by rw [qzW_v, qzW_v])
      have hG : decide (x.num.sign ≤ 0) = false := by
        have := (qSign_pos (q := x)).2 x3
        rw [this]; rfl
      have hKc : decide (qcmp x ((1 : Int) : Rat) > 0) = false := decide_eq_false (by
        have := (qcmp_le x ((1 : Int) : Rat)).2 x4
        omega)
      have hE : (qcmp x ((1 : Int) : Rat) == 0) = brB g i := by
        rw [Bool.eq_iff_iff, beq_iff_eq, qcmp_zero', ← x5]; exact Iff.rfl
      generalize qcmp x ((1 : Int) : Rat) = kk at cK hKc hE;generalize x.num.sign = sg at cG hG;rw [← eL] at cS cG cK cD;refine AWP_skip ?_;show AWP _ _ _ _ _ _;refine AWP_seq ?_;refine AWP_block ?_;refine AWP_seq ?_;refine a_draw tok mixed (A := [[], [], [], [0, 1], [], [0, 1, 2], [0, 1, 2, 3, 4], [0, 1, 2, 3, 4, 5], [0, 1, 2, 3, 4, 5], [0, 1, 2, 3, 4, 5, 6, 7], [0, 1, 2, 3, 4, 5, 6, 7], [0, 1, 2, 3, 4, 5, 6, 7], [0, 1, 2, 3, 4, 5, 6, 7, 9, 10], [0, 1, 2, 3, 4, 5, 6, 7, 9, 10, 11], [0, 1, 2, 3, 4, 5, 6, 7, 9, 10, 11, 12], [0, 1, 2, 3, 4, 5, 6, 7, 9, 10, 11, 12, 13], [0, 1, 2, 3, 4, 5, 6, 7, 8, 9, 10, 11, 12, 14], [0, 1, 2, 3, 4, 5, 6, 7, 8, 9, 10, 11, 12, 13, 14, 15], [0, 1, 2, 3, 4, 5, 6, 7, 8, 9, 10, 11, 12, 13, 14, 15], [0, 1, 2, 3, 4, 5, 6, 7, 8, 9, 10, 11, 12, 13, 14, 15], [0, 1, 2, 3, 4, 5, 6, 7, 8, 9, 10, 11, 12, 13, 14, 15, 17, 18], [0, 1, 2, 3, 4, 5, 6, 7, 8, 9, 10, 11, 12, 13, 14, 15], [0, 1, 2, 3, 4, 5, 6, 7, 8, 9, 10, 11, 12, 13, 14, 15, 17, 18, 19], [0, 1, 2, 3, 4, 5, 6, 7, 8, 9, 10, 11, 12, 13, 14, 15, 17, 18, 19, 20, 21], [0, 1, 2, 3, 4, 5, 6, 7, 8, 9, 10, 11, 12, 13, 14, 15, 17, 18, 19, 20, 21, 22]]) (an := [{}, {}, {}, {}, {}, {}, {}, {}, {}, {}, {}, {}, {}, {}, {}, {}, {}, {}, {}, {}, {}, {}, {}, {}, {}]) rfl (by kernel_rfl) rfl fun K hK => ?_;refine mvQ ?_;refine mvQ ?_;refine s_indexAddr rfl (x_m RW.dc rfl rfl rfl rfl hgL rfl) rfl ?_;refine ldQ ?_;refine ldQ ?_;refine s_buildSlice rfl rfl rfl rfl ?_;refine s_callF rfl rfl (cS) ⟨rfl, fun _ _ h => by cases h⟩ rfl rfl rfl ?_;refine s_un rfl rfl rfl ?_;refine mvQ ?_;refine mvQ ?_;refine mvQ ?_;refine s_indexAddr rfl (x_m RW.dc rfl rfl rfl rfl hgL rfl) rfl ?_;refine ldQ ?_;refine s_call rfl rfl (cG) rfl rfl rfl rfl ?_;refine s_bin rfl (e_leI hG) rfl ?_;refine piQ ?_;refine mvQ ?_;refine mvQ ?_;refine mvQ ?_;refine s_indexAddr rfl (x_m RW.dc rfl rfl rfl rfl hgL rfl) rfl ?_;refine ldQ ?_;refine ldQ ?_;refine s_call rfl rfl (cK) rfl rfl rfl rfl ?_;refine s_bin rfl (e_gtrJ hKc) rfl ?_;refine piQ ?_;refine s_end (hK _ ?_); clear hK K;refine a_cond rfl (fun h => by cases h) (fun _ => ?_);refine AWP_skip ?_;show AWP _ _ _ _ _ _
      have hgR : i < (List.range g.links.length).length := by rw [List.length_range]; exact hg
      have eR : (List.range g.links.length)[i] = i := List.getElem_range _
      have K : (ptB g (List.range g.links.length) i < br.length ∧ br.getD (ptB g (List.range g.links.length) i) 0 = i) ↔ brB g i = true := by
        have := at_filter (P := brB g) hgR
        rw [eR] at this;rw [hbf]; exact this
      have Pt : ∀ h : ptB g (List.range g.links.length) i < br.length, decide (br[ptB g (List.range g.links.length) i] = i) = brB g i := fun h => by
        rw [gd_at h] at K;rw [Bool.eq_iff_iff, decide_eq_true_eq, ← K];exact ⟨fun e => ⟨h, e⟩, fun e => e.2⟩
      have Pf : ¬ ptB g (List.range g.links.length) i < br.length → false = brB g i := fun h => by
        rw [Bool.eq_iff_iff, ← K]
        simp [h]
      have ps := ptB_succ (g := g) hgR
      rw [eR] at ps
      have pl : ptB g (List.range g.links.length) i ≤ i := by
        unfold ptB; exact Nat.le_trans (List.length_filter_le _ _) (List.length_take_le _ _)
      refine a_join (α := Bool) (fun c => mk 123 [(1, .ptr 1 0), (3, V1 (dRs LV)), (5, V1 (dNs br)), (7, .ptr 7 0), (8, .ptr 8 0), (9, dI (ptB g (List.range g.links.length) i : Nat)), (10, dI i), (11, dB c)] [(1, some (.box g.cs)), (7, some (.box (qzW ((1 : Int) : Rat)).cs)), (8, some (.box (qzW s).cs))] []) (fun c => c = brB g i) ?_ ?_
      · refine AWP_regW fun K hK => ?_;refine w_step tok rfl ?_;refine mvQ ?_;refine s_end ?_;refine w_step tok rfl ?_;refine mvQ ?_;refine s_end ?_;refine w_step tok rfl ?_;refine s_blt rfl (len_m cN rfl rfl) rfl ?_;refine s_end ?_;refine w_step tok rfl ?_;refine s_bin rfl (e_lssT _ _) rfl ?_;refine s_end ?_;refine w_step tok rfl ?_;refine mvQ ?_;refine s_end ?_;refine w_split (fun h0 => ?_) (fun h0 => ?_)
        · refine w_step tok rfl ?_;refine mvQ ?_;refine s_end ?_;refine w_step tok rfl ?_;refine mvQ ?_;refine s_end ?_;refine w_step tok rfl ?_;refine s_indexAddr rfl (x_m cN rfl rfl rfl rfl (of_decide_eq_true h0) rfl) rfl ?_;refine s_end ?_;refine w_step tok rfl ?_;refine ldQ ?_;refine s_end ?_;refine w_step tok rfl ?_;refine mvQ ?_;refine s_end ?_;refine w_step tok rfl ?_;refine s_bin rfl (e_eqN _ _) rfl ?_;refine s_end ?_;refine w_step tok rfl ?_;refine piQ ?_;refine s_end ?_;refine w_step tok rfl ?_;refine asQ ?_;refine s_end ?_;refine w_end rfl (hK _ ?_); clear hK K;exact ⟨_, (by first|exact Pt (of_decide_eq_true h0)|exact Pf (of_decide_eq_false h0)), Wk.mk' ⟨rfl, rfl, rfl, rfl, rfl, rfl, rfl, rfl, trivial⟩ ⟨rfl, rfl, rfl, trivial⟩⟩
        · refine w_skip rfl rfl ?_;refine w_skip rfl rfl ?_;refine w_skip rfl rfl ?_;refine w_skip rfl rfl ?_;refine w_skip rfl rfl ?_;refine w_skip rfl rfl ?_;refine w_step tok rfl ?_;refine piQ ?_;refine s_end ?_;refine w_step tok rfl ?_;refine asQ ?_;refine s_end ?_;refine w_end rfl (hK _ ?_); clear hK K;exact ⟨_, (by first|exact Pt (of_decide_eq_true h0)|exact Pf (of_decide_eq_false h0)), Wk.mk' ⟨rfl, rfl, rfl, rfl, rfl, rfl, rfl, rfl, trivial⟩ ⟨rfl, rfl, rfl, trivial⟩⟩
      rintro c rfl
      show AWP _ _ _ _ _ _;refine a_join (α := Unit) (fun _ => mk 123 [(1, .ptr 1 0), (3, V1 (dRs LV)), (5, V1 (dNs br)), (7, .ptr 7 0), (8, .ptr 8 0), (9, dI (ptB g (List.range g.links.length) (i + 1) : Nat)), (10, dI i), (11, dB (brB g i))] [(1, some (.box g.cs)), (7, some (.box (qzW ((1 : Int) : Rat)).cs)), (8, some (.box (qzW s).cs))] []) (fun _ => True) ?_ ?_
      · refine AWP_seq ?_;refine AWP_reg tok fun K hK => ?_;refine mvQ ?_;refine s_end (hK _ ?_); clear hK K;refine a_cond rfl (fun hd => ?_) (fun hd => ?_)
        · rw [if_pos hd] at ps;refine AWP_reg tok fun K hK => ?_;refine mvQ ?_;refine s_bin rfl (e_add (c := ((ptB g (List.range g.links.length) (i + 1) : Nat) : Int)) (by omega) (by omega)) rfl ?_;refine asQ ?_;refine s_end (hK _ ?_); clear hK K;exact ⟨(), trivial, Wk.mk' ⟨rfl, rfl, rfl, rfl, rfl, rfl, rfl, rfl, trivial⟩ ⟨rfl, rfl, rfl, trivial⟩⟩
        · rw [if_neg (by rw [hd]; simp)] at ps;rw [ps];refine AWP_skip ?_;exact ⟨(), trivial, Wk.mk' ⟨rfl, rfl, rfl, rfl, rfl, rfl, rfl, rfl, trivial⟩ ⟨rfl, rfl, rfl, trivial⟩⟩
      rintro - -
      show AWP _ _ _ _ _ _;refine AWP_seq ?_;refine a_draw tok mixed (A := [[], [], [], [], [1, 2], [], [1, 2, 3], [1, 2, 3, 4, 5], [1, 2, 3, 4, 5, 6]]) (an := [{}, {}, {}, {}, {}, {}, {}, {}, {}]) rfl (by kernel_rfl) rfl fun K hK => ?_;refine mvQ ?_;refine mvQ ?_;refine mvQ ?_;refine s_indexAddr rfl (x_m RW.dc rfl rfl rfl rfl hgL rfl) rfl ?_;refine ldQ ?_;refine ldQ ?_;refine s_call rfl rfl (cK) rfl rfl rfl rfl ?_;refine biQ ?_;refine s_bin rfl (by rw [hE]; exact e_neB rfl) rfl ?_;refine s_end (hK _ ?_); clear hK K;refine a_cond rfl (fun h => by cases h) (fun _ => ?_);refine AWP_skip ?_;show AWP _ _ _ _ _ _;refine a_draw1 tok mixed (A := [[], [], [], [], [1, 2], [1, 2, 3], []]) (an := [{}, {}, {}, {}, {}, {}, {}]) rfl (by kernel_rfl) rfl fun K hK => ?_;refine ldQ ?_;refine mvQ ?_;refine mvQ ?_;refine s_indexAddr rfl (x_m RW.dc rfl rfl rfl rfl hgL rfl) rfl ?_;refine ldQ ?_;refine s_call rfl rfl (cD) rfl rfl rfl rfl ?_;refine s_store rfl rfl rfl rfl rfl ?_;refine s_end (hK _ ?_); clear hK K;show AWP _ _ _ _ _ _;refine AWP_reg tok fun K hK => ?_;refine mvQ ?_;refine s_bin rfl (e_add (c := ((i + 1 : Nat) : Int)) (by omega) (by omega)) rfl ?_;refine asQ ?_;refine s_end (hK _ ?_); clear hK K;refine ⟨i + 1, by omega, hg, ?_⟩;rw [x2];exact Wk.mk' ⟨rfl, rfl, rfl, rfl, rfl, rfl, rfl, trivial⟩ ⟨rfl, rfl, rfl, trivial⟩
    have hg : i = g.links.length := by simp at hg; omega
    subst hg
    have ep : ptB g (List.range g.links.length) g.links.length = br.length := by
      unfold ptB
      rw [List.take_of_length_le (by rw [List.length_range]; exact Nat.le_refl _), hbf]
    rw [ep, hsum]
    have en : ((g.nodes.length : Nat) : Rat) - ((cm : Nat) : Rat) = (((g.nodes.length : Int) - (cm : Int) : Int) : Rat) := by
      rw [Rat.intCast_sub]; rfl
    rw [en]
    have i64 : I64 ((g.nodes.length : Int) - (cm : Int)) := ⟨by omega, by omega⟩
    have cO := qOfI_c ((g.nodes.length : Int) - (cm : Int)) i64
    have oo : (qzW (((g.nodes.length : Int) - (cm : Int) : Int) : Rat)).OK 2 := qzW_ok (ql_i64 i64)
    have cR := rat_same (qzW (((g.nodes.length : Int) - (cm : Int) : Int) : Rat)) ⟨Nat.le_trans oo.lp (by decide), Nat.le_trans oo.lq (by decide)⟩
    refine AWP_exit ?_;show AWP _ _ _ _ _ _;refine a_draw tok mixed (A := [[], [], [], [1], [0, 1, 2], [0, 1, 2, 3], [0, 1, 2, 3], [0, 1, 2, 3], [0, 1, 2, 3, 6], [0, 1, 2, 3], [0, 1, 2, 3], [0, 1, 2, 3, 6, 7, 9], [0, 1, 2, 3, 6, 7, 8, 9], [0, 1, 2, 3, 6, 7, 8, 9, 10, 11], [0, 1, 2, 3, 5, 6, 7, 8, 9, 10, 11, 12], []]) (an := [{}, {}, {}, {}, {}, {}, {}, {}, {}, {}, {}, {}, {}, {}, {}, {}]) rfl (by kernel_rfl) rfl fun K hK => ?_;refine mvQ ?_;refine mvQ ?_;refine s_blt rfl (len_m cN rfl rfl) rfl ?_;refine s_bin rfl (e_eqI rfl) rfl ?_;refine mvQ ?_;refine ldQ ?_;refine faQ ?_;refine ldQ ?_;refine s_blt rfl (len_m RW.dc rfl rfl) rfl ?_;refine ldQ ?_;refine s_call rfl rfl (cC) rfl rfl rfl rfl ?_;refine s_bin rfl (e_sub rfl (by omega)) rfl ?_;refine s_call rfl rfl (cO) rfl rfl rfl rfl ?_;refine s_call rfl rfl (cR) rfl rfl rfl rfl ?_;refine piQ ?_;refine asQ ?_;refine s_end (hK _ ?_); clear hK K;refine AWP_ret ?_
    repeat (with_reducible refine tq_ret ?_)
    exact post_ret (fin_mk (by rfl) (by rfl) (by rfl))
  · have hv : validB g = false := by simpa using hv
    have e1 : allV g = ([], 1) := by rw [allV, if_neg (by rw [hv]; simp)]
    have e2 : bridgeV g = ([], 1) := by rw [bridgeV, if_neg (by rw [hv]; simp)]
    rw [e1] at cA;rw [e2] at cB;rw [hv] at cV;refine AWP_reg_seq tok fun K hK => ?_;refine ldQ ?_;refine s_call rfl rfl (cA) rfl rfl rfl rfl ?_;refine mvQ ?_;refine s_extract rfl rfl rfl ?_;refine s_extract rfl rfl rfl ?_;refine asQ ?_;refine asQ ?_;refine s_end (hK _ ?_); clear hK K;refine AWP_reg_seq tok fun K hK => ?_;refine ldQ ?_;refine s_call rfl rfl (cB) rfl rfl rfl rfl ?_;refine mvQ ?_;refine s_extract rfl rfl rfl ?_;refine s_extract rfl rfl rfl ?_;refine asQ ?_;refine asQ ?_;refine s_end (hK _ ?_); clear hK K;refine AWP_seq ?_;refine a_join (α := Unit) (fun c => mk 123 [(1, .ptr 1 0), (35, dB true)] [(1, some (.box g.cs))] []) (fun c => True) ?_ ?_
    · refine AWP_regW fun K hK => ?_;refine w_step tok rfl ?_;refine mvQ ?_;refine s_end ?_;refine w_step tok rfl ?_;refine biQ ?_;refine s_end ?_;refine w_step tok rfl ?_;refine mvQ ?_;refine s_end ?_;refine w_split (fun h0 => ?_) (fun h0 => ?_)
      · refine w_skip rfl rfl ?_;refine w_skip rfl rfl ?_;refine w_step tok rfl ?_;refine piQ ?_;refine s_end ?_;refine w_end rfl (hK _ ?_); clear hK K
        first|(exact absurd h0 (by decide))|exact ⟨(), trivial, Wk.mk' ⟨rfl, rfl, trivial⟩ ⟨rfl, trivial⟩⟩
      · refine w_step tok rfl ?_;refine mvQ ?_;refine s_end ?_;refine w_step tok rfl ?_;refine biQ ?_;refine s_end ?_;refine w_step tok rfl ?_;refine piQ ?_;refine s_end ?_;refine w_end rfl (hK _ ?_); clear hK K
        first|(exact absurd h0 (by decide))|exact ⟨(), trivial, Wk.mk' ⟨rfl, rfl, trivial⟩ ⟨rfl, trivial⟩⟩
    rintro - -
    refine a_cond rfl (fun _ => ?_) (fun h => by cases h);refine AWP_reg_seq tok fun K hK => ?_;refine ldQ ?_;refine s_call rfl rfl (cV) rfl rfl rfl rfl ?_;refine s_un rfl rfl rfl ?_;refine asQ ?_;refine s_end (hK _ ?_); clear hK K;refine AWP_ret ?_
    repeat (with_reducible refine tq_ret ?_)
    exact post_ret (fin_mk (by rfl) (by rfl) (by rfl))
end Go.Proofs.Ytgopibpkgmafiaa
