/- Part of a proof that a Go function answers true for every input. No condition. -/
import Derived.Test.YtcafppnjemgkiaaGreatC4
set_option linter.unusedVariables false
set_option linter.unusedSimpArgs false
set_option linter.unusedSectionVars false
/- Chains. No condition. -/
namespace Go.Proofs.YtcafppnjemgkiaaGreat
attribute [local irreducible] lexA

/-- One rotation after the other. -/
def thW (a b : RW) : RW := pzW (thP a.p a.q b.p b.q) (thQ a.p a.q b.p b.q)
/-- The i-th node of a chain. -/
def cn (ts : List RW) : Nat → RW
  | 0 => rot0
  | i + 1 => thW (cn ts i) (ts.getD i rot0)
def PT.at (st : List PT) (i : Nat) : PT := st.getD i ⟨0, 0⟩
/-- The i-th link. -/
def lkN (st : List PT) (w : Int) (i : Nat) : LK := ⟨i, (i : Int) + 1, (PT.at st i).x, (PT.at st i).y, w⟩
def g00 : GR := ⟨[], []⟩
def chG (ts : List RW) (st : List PT) (w : Int) : GR := ⟨(List.range (st.length + 1)).map (cn ts), (List.range st.length).map (lkN st w)⟩
def chA (ts : List RW) (st : List PT) : Bool := decide (ts.length = st.length ∧ ts.length ≤ 15)
def chB (st : List PT) (w : Int) : Bool := stepB 0 0 w && st.all (fun p => stepB p.x p.y w)
/-- What Chain answers. -/
def chV (ts : List RW) (st : List PT) (w : Int) : GR × Int :=
  if chA ts st then if chB st w then (chG ts st w, 0) else (g00, 2) else (g00, 1)

theorem thW_ok {a b : RW} {k l m : Nat} (ha : a.OK k) (hb : b.OK l) (hk : 1 ≤ k) (hl : 1 ≤ l) (hm : k + l + 1 ≤ m) : (thW a b).OK m := by
  have h := zl_th a.p a.q b.p b.q (zl_zv ha.op ha.lp) (zl_zv ha.oq ha.lq) (zl_zv hb.op hb.lp) (zl_zv hb.oq hb.lq) hk hl
  exact pzW_ok (Nat.le_trans h.1 hm) (Nat.le_trans h.2 hm)
theorem rot0_ok {k : Nat} (hk : 1 ≤ k) : rot0.OK k := by
  have h0 : zl 0 ≤ 1 := by decide
  have h1 : zl 1 ≤ 1 := by decide
  exact pzW_ok (Nat.le_trans h0 hk) (Nat.le_trans h1 hk)
theorem getD_ok {ts : List RW} {k : Nat} (h : ∀ r ∈ ts, r.OK k) (hk : 1 ≤ k) (i : Nat) : (ts.getD i rot0).OK k := by
  rw [List.getD_eq_getElem?_getD]
  rcases Nat.lt_or_ge i ts.length with hi | hi
  · rw [List.getElem?_eq_getElem hi]; exact h _ (List.getElem_mem hi)
  · rw [List.getElem?_eq_none hi]; exact rot0_ok hk
theorem cn_ok {ts : List RW} {k : Nat} (h : ∀ r ∈ ts, r.OK k) (hk : 1 ≤ k) (i : Nat) : (cn ts i).OK (1 + i * (k + 1)) := by
  induction i with
  | zero => exact rot0_ok (by omega)
  | succ i ih => exact thW_ok ih (getD_ok h hk i) (by omega) hk (by rw [Nat.succ_mul]; omega)
theorem tThen_r (a b : RW) (ha : a.OK 67108864) (hb : b.OK 67108864) : Con Tryz.prog 57 [AG a.cs, AG b.cs] { v := AG (thW a b).cs } :=
  tThen_c _ _ _ _ _ _ _ _ ha.op ha.oq hb.op hb.oq ha.lp ha.lq hb.lp hb.lq
theorem tNorm_00 : Con Tryz.prog 56 [AG rw00.cs] { v := AG rot0.cs } :=
  tNorm_q false false [] [] 0 1 wOK.nil wOK.nil (by simp) (by simp) rfl rfl
theorem range_map_get {α : Type} (f : Nat → α) {n i : Nat} (h : i < ((List.range n).map f).length) : ((List.range n).map f)[i] = f i := by simp
theorem dRs_get {f : Nat → RW} {n i : Nat} (h : i < n) : (((List.range n).map f).map RW.dc)[i]? = some (f i).dc := by simp [h]

theorem gChain_c (ts : List RW) (st : List PT) (w : Int) (ok : ∀ r ∈ ts, r.OK 4096) (hs : st.length ≤ 1048576) :
    Con Tryz.prog 28 [V1 (dRs ts), V1 (dPs st), dI w] { v := .tup [.agg (chV ts st w).1.cs, .one (.d (lI (chV ts st w).2))] } := by
  refine con_intro (fn := Tryz.f28) tok Tryz.func28 (by kernel_rfl) rfl ?_
  intro w0 X
  rw [entry_mkE _ _ [(0, V1 (dRs ts)), (1, V1 (dPs st)), (2, dI w)] rfl rfl]
  refine AWP_reg_seq tok fun K hK => ?_
  refine s_alloc rfl rfl rfl rfl rfl rfl ?_
  refine s_assign rfl rfl rfl ?_
  refine s_end (hK _ ?_); clear hK K
  refine AWP_seq ?_
  refine a_join (α := Bool) (fun c => mk 76 [(0, V1 (dRs ts)), (1, V1 (dPs st)), (2, dI w), (6, .ptr 6 0), (20, dB c)] [(6, some (.box [.nil, .nil]))] []) (fun c => c = !chA ts st) ?_ ?_
  · refine AWP_regW fun K hK => ?_
    refine w_step tok rfl ?_
    refine s_move rfl rfl rfl ?_
    refine s_end ?_
    refine w_step tok rfl ?_
    refine s_blt rfl (len_m RW.dc rfl rfl) rfl ?_
    refine s_end ?_
    refine w_step tok rfl ?_
    refine s_move rfl rfl rfl ?_
    refine s_end ?_
    refine w_step tok rfl ?_
    refine s_blt rfl (len_m PT.dc rfl rfl) rfl ?_
    refine s_end ?_
    refine w_step tok rfl ?_
    refine s_bin rfl rfl rfl ?_
    refine s_end ?_
    refine w_step tok rfl ?_
    refine s_move rfl rfl rfl ?_
    refine s_end ?_
    refine w_split (fun h0 => ?_) (fun h0 => ?_)
    · refine w_skip rfl rfl ?_
      refine w_skip rfl rfl ?_
      refine w_skip rfl rfl ?_
      refine w_step tok rfl ?_
      refine s_pick rfl rfl rfl ?_
      refine s_end ?_
      refine w_end rfl (hK _ ?_); clear hK K
      exact ⟨_, (by simp only [e_ne, decide_eq_true_eq, decide_eq_false_iff_not] at h0; rw [Bool.eq_iff_iff]; simp only [chA, Bool.not_eq_true', decide_eq_false_iff_not, decide_eq_true_eq, true_iff]; omega), Wk.mk' ⟨rfl, rfl, rfl, rfl, rfl, trivial⟩ ⟨rfl, trivial⟩⟩
    · refine w_step tok rfl ?_
      refine s_move rfl rfl rfl ?_
      refine s_end ?_
      refine w_step tok rfl ?_
      refine s_blt rfl (len_m RW.dc rfl rfl) rfl ?_
      refine s_end ?_
      refine w_step tok rfl ?_
      refine s_bin rfl rfl rfl ?_
      refine s_end ?_
      refine w_step tok rfl ?_
      refine s_pick rfl rfl rfl ?_
      refine s_end ?_
      refine w_end rfl (hK _ ?_); clear hK K
      exact ⟨_, (by simp only [e_ne, decide_eq_true_eq, decide_eq_false_iff_not] at h0; rw [Bool.eq_iff_iff]; simp only [chA, Bool.not_eq_true', decide_eq_false_iff_not, decide_eq_true_eq, true_iff]; omega), Wk.mk' ⟨rfl, rfl, rfl, rfl, rfl, trivial⟩ ⟨rfl, trivial⟩⟩
  rintro c rfl
  refine a_cond rfl (fun hc => ?_) (fun hc => ?_)
  · rw [Bool.not_eq_true'] at hc
    have e : chV ts st w = (g00, 1) := by rw [chV, if_neg (by rw [hc]; simp)]
    rw [e]
    refine AWP_reg_seq tok fun K hK => ?_
    refine s_build rfl rfl rfl ?_
    refine s_store rfl rfl rfl rfl rfl ?_
    refine s_assign rfl rfl rfl ?_
    refine s_end (hK _ ?_); clear hK K
    refine AWP_ret ?_
    repeat (with_reducible refine tq_ret ?_)
    exact post_ret (fin_mk (by rfl) (by rfl) (by rfl))
  rw [Bool.not_eq_false'] at hc
  have hl : ts.length = st.length ∧ ts.length ≤ 15 := of_decide_eq_true hc
  refine AWP_skip ?_
  show AWP _ _ _ _ _ _
  refine AWP_reg_seq tok fun K hK => ?_
  refine s_build rfl rfl rfl ?_
  refine s_call rfl rfl (tNorm_00) rfl rfl rfl rfl ?_
  refine s_buildSlice rfl rfl rfl rfl ?_
  refine s_build rfl rfl rfl ?_
  refine s_alloc rfl rfl rfl rfl rfl rfl ?_
  refine s_storeB rfl rfl rfl rfl rfl ?_
  refine s_end (hK _ ?_); clear hK K
  refine AWP_seq ?_
  refine AWP_reg_seq tok fun K hK => ?_
  refine s_move rfl rfl rfl ?_
  refine s_call rfl rfl (step_c _ _ _) rfl rfl rfl rfl ?_
  refine s_un rfl rfl rfl ?_
  refine s_end (hK _ ?_); clear hK K
  refine a_cond rfl (fun hd => ?_) (fun hd => ?_)
  · rw [Bool.not_eq_true'] at hd
    have e : chV ts st w = (g00, 2) := by rw [chV, if_pos hc, if_neg (by rw [chB, hd]; simp)]
    rw [e]
    refine AWP_reg_seq tok fun K hK => ?_
    refine s_build rfl rfl rfl ?_
    refine s_store rfl rfl rfl rfl rfl ?_
    refine s_assign rfl rfl rfl ?_
    refine s_end (hK _ ?_); clear hK K
    refine AWP_ret ?_
    repeat (with_reducible refine tq_ret ?_)
    exact post_ret (fin_mk (by rfl) (by rfl) (by rfl))
  rw [Bool.not_eq_false'] at hd
  refine AWP_skip ?_
  show AWP _ _ _ _ _ _
  refine AWP_seq ?_
  refine AWP_reg_seq tok fun K hK => ?_
  refine s_move rfl rfl rfl ?_
  refine s_blt rfl (len_m PT.dc rfl rfl) rfl ?_
  refine s_move rfl rfl rfl ?_
  refine s_end (hK _ ?_); clear hK K
  refine AWP_block (a_loop (α := Nat) (fun i => mk 76 [(0, V1 (dRs ts)), (2, dI w), (6, .ptr 6 0), (8, .ptr 8 0), (30, V1 (dPs st)), (31, dI st.length), (32, dI i)] [(6, some (.box [.nil, .nil])), (8, some (.box [.own 24 4 0 (i + 1), ownC 60 5 i])), (24, some (.arr 4 (((List.range (i + 1)).map (cn ts)).map RW.dc))), (60, arrN 5 (((List.range i).map (lkN st w)).map LK.dc) i)] [8]) (fun i => i ≤ st.length ∧ (st.take i).all (fun p => stepB p.x p.y w) = true) (fun i => st.length - i) 0 ?_ ⟨Nat.zero_le _, rfl⟩ ?_)
  · exact Wk.mk' ⟨rfl, rfl, rfl, rfl, rfl, rfl, rfl, trivial⟩ ⟨rfl, rfl, rfl, rfl, trivial⟩
  rintro i ⟨hi, ha⟩
  refine AWP_reg_seq tok fun K hK => ?_
  refine s_bin rfl rfl rfl ?_
  refine s_end (hK _ ?_); clear hK K
  refine AWP_seq ?_
  refine a_cond rfl (fun hg => ?_) (fun hg => ?_)
  · have hg : i < st.length := by simp at hg; omega
    have hg' : i < ts.length := by omega
    have oi : (cn ts i).OK 67108864 := by
      have h := cn_ok ok (by omega) i
      exact h.mono (Nat.ble_eq_true_of_le (by omega))
    have eP : PT.at st i = st[i] := by rw [PT.at, List.getD_eq_getElem?_getD, List.getElem?_eq_getElem hg]; rfl
    have eT : cn ts (i + 1) = thW (cn ts i) ts[i] := by rw [cn, List.getD_eq_getElem?_getD, List.getElem?_eq_getElem hg']; rfl
    have eL : lkN st w i = ⟨i, (i : Int) + 1, st[i].x, st[i].y, w⟩ := by rw [lkN, eP]
    have n1 : ((List.range (i + 1)).map (cn ts)).map RW.dc ++ [(cn ts (i + 1)).dc] = ((List.range (i + 1 + 1)).map (cn ts)).map RW.dc := by
      rw [List.range_succ (n := i + 1), List.map_append, List.map_append]; rfl
    have n2 : ((List.range i).map (lkN st w)).map LK.dc ++ [(lkN st w i).dc] = ((List.range (i + 1)).map (lkN st w)).map LK.dc := by
      rw [List.range_succ, List.map_append, List.map_append]; rfl
    have g1 : (((List.range (i + 1)).map (cn ts)).map RW.dc)[i]? = some (cn ts i).dc := dRs_get (Nat.lt_succ_self i)
    have z1 : (((List.range (i + 1)).map (cn ts)).map RW.dc).length = i + 1 := by simp
    have z2 : (((List.range i).map (lkN st w)).map LK.dc).length = i := by simp
    rw [eT] at n1
    rw [eL] at n2
    have ct := tThen_r (cn ts i) ts[i] oi ((ok _ (List.getElem_mem hg')).mono rfl)
    generalize ((List.range (i + 1)).map (cn ts)).map RW.dc = ns at n1 g1 z1 ⊢
    generalize ((List.range i).map (lkN st w)).map LK.dc = es at n2 z2 ⊢
    generalize cn ts i = ci at ct g1 n1
    have hp : st[i] ∈ st := List.getElem_mem hg
    obtain ⟨p, ep⟩ : ∃ p, p = st[i] := ⟨_, rfl⟩
    refine AWP_skip ?_
    show AWP _ _ _ _ _ _
    refine AWP_seq ?_
    refine AWP_block ?_
    rcases i with _ | i
    · refine AWP_reg_seq tok fun K hK => ?_
      refine s_move rfl rfl rfl ?_
      refine s_indexAddr rfl (x_m PT.dc rfl rfl rfl rfl hg rfl) rfl ?_
      refine s_load rfl rfl rfl ?_
      refine s_alloc rfl rfl rfl rfl rfl rfl ?_
      refine s_assign rfl rfl rfl ?_
      refine s_store rfl rfl rfl rfl rfl ?_
      refine s_end (hK _ ?_); clear hK K
      rw [← ep]
      rw [← ep] at hp n2
      refine AWP_seq ?_
      refine AWP_reg_seq tok fun K hK => ?_
      refine s_fieldAddr rfl rfl rfl ?_
      refine s_load rfl rfl rfl ?_
      refine s_fieldAddr rfl rfl rfl ?_
      refine s_load rfl rfl rfl ?_
      refine s_move rfl rfl rfl ?_
      refine s_call rfl rfl (step_c _ _ _) rfl rfl rfl rfl ?_
      refine s_un rfl rfl rfl ?_
      refine s_end (hK _ ?_); clear hK K
      refine a_cond rfl (fun hf => ?_) (fun hf => ?_)
      · rw [Bool.not_eq_true'] at hf
        have e : chV ts st w = (g00, 2) := by rw [chV, if_pos hc, if_neg (by rw [chB, hd, Bool.true_and, List.all_eq_true]; intro h; rw [h p hp] at hf; cases hf)]
        rw [e]
        refine AWP_reg_seq tok fun K hK => ?_
        refine s_build rfl rfl rfl ?_
        refine s_store rfl rfl rfl rfl rfl ?_
        refine s_assign rfl rfl rfl ?_
        refine s_end (hK _ ?_); clear hK K
        refine AWP_ret ?_
        repeat (with_reducible refine tq_ret ?_)
        exact post_ret (fin_mk (by rfl) (by rfl) (by rfl))
      rw [Bool.not_eq_false'] at hf
      refine AWP_skip ?_
      show AWP _ _ _ _ _ _
      refine a_draw tok mixed (A := [[], [], [], [], [], [2], [2, 3, 4], [], [], [], [7, 8], [2, 3, 4, 5, 7, 8, 9], [2, 3, 4, 5, 6, 7, 8, 9, 10], [0, 2, 3, 4, 5, 6, 7, 8, 9, 10], [], []]) (an := [{}, {}, {}, {}, {}, {}, {}, {}, {}, {}, {}, {}, {}, {}, {}, {}]) rfl (by kernel_rfl) rfl fun K hK => ?_
      refine s_fieldAddr rfl rfl rfl ?_
      refine s_load rfl rfl rfl ?_
      refine s_fieldAddr rfl rfl rfl ?_
      refine s_load rfl rfl rfl ?_
      refine s_move rfl rfl rfl ?_
      refine s_indexAddr rfl (x_o (i := 0) rfl rfl rfl rfl rfl (by omega) (Nat.zero_add _)) rfl ?_
      refine s_load rfl (l_o rfl rfl g1 rfl rfl) rfl ?_
      refine s_move rfl rfl rfl ?_
      refine s_move rfl rfl rfl ?_
      refine s_indexAddr rfl (x_m RW.dc rfl rfl rfl rfl hg' rfl) rfl ?_
      refine s_load rfl rfl rfl ?_
      refine s_call rfl rfl (ct) rfl rfl rfl rfl ?_
      refine s_buildSlice rfl rfl rfl rfl ?_
      refine s_append rfl (ap_o rfl rfl rfl rfl rfl rfl (by decide) (Nat.le_of_ble_eq_true rfl) rfl (by simp) rfl rfl z1.symm (by simp <;> omega)) rfl rfl ?_
      refine s_fieldAddr rfl rfl rfl ?_
      refine s_storeB rfl rfl rfl rfl rfl ?_
      refine s_end (hK _ ?_); clear hK K
      refine a_rnB [0, 2, 6, 8, 30, 31, 32, 9, 10] [6, 8, 58, 60, 10] 58 24 [(0, V1 (dRs ts)), (2, dI w), (6, .ptr 6 0), (8, .ptr 8 0), (30, V1 (dPs st)), (31, dI st.length), (32, dI (0 : Nat)), (9, dI (0 : Nat)), (10, .ptr 10 0)] [(6, some (.box [.nil, .nil])), (8, some (.box [.own 24 4 0 (0 + 1 + 1), ownC 60 5 (0)])), (24, some (.arr 4 (((List.range (0 + 1 + 1)).map (cn ts)).map RW.dc))), (60, arrN 5 es (0)), (10, some (.box [.d (lI p.x), .d (lI p.y)]))] [8] rfl rfl rfl ?_ ?_ rfl ?_
      · exact ⟨rfl, rfl, rfl, rfl, rfl, rfl, rfl, rfl, rfl, trivial⟩
      · refine ⟨rfl, ?_, ?_, rfl, rfl, trivial⟩
        · show some (OO.box [.own 24 4 0 _, _]) = _
          rw [List.length_append, z1]; rfl
        · rw [← n1]; rfl
      refine AWP_reg tok fun K hK => ?_
      refine s_fieldAddr rfl rfl rfl ?_
      refine s_load rfl rfl rfl ?_
      refine s_move rfl rfl rfl ?_
      refine s_move rfl rfl rfl ?_
      refine s_bin rfl (e_add (c := ((0 : Nat) : Int) + 1) rfl (by omega)) rfl ?_
      refine s_fieldAddr rfl rfl rfl ?_
      refine s_load rfl rfl rfl ?_
      refine s_fieldAddr rfl rfl rfl ?_
      refine s_load rfl rfl rfl ?_
      refine s_move rfl rfl rfl ?_
      refine s_build rfl rfl rfl ?_
      refine s_buildSlice rfl rfl rfl rfl ?_
      refine s_append rfl (ap_nil rfl rfl rfl rfl rfl (by decide) (Nat.le_of_ble_eq_true rfl) rfl (by simp) rfl (by simp) (by simp)) rfl rfl ?_
      refine s_fieldAddr rfl rfl rfl ?_
      refine s_storeB rfl rfl rfl rfl rfl ?_
      refine s_end (hK _ ?_); clear hK K
      show AWP _ _ _ _ _ _
      refine AWP_reg tok fun K hK => ?_
      refine s_bin rfl (e_add (c := ((0 + 1 : Nat) : Int)) (by omega) (by omega)) rfl ?_
      refine s_move rfl rfl rfl ?_
      refine s_end (hK _ ?_); clear hK K
      refine ⟨0 + 1, by omega, ⟨hg, ?_⟩, Wk.rnB [0, 2, 6, 8, 30, 31, 32] [6, 8, 24, 72] 72 60 rfl rfl rfl ⟨rfl, rfl, rfl, rfl, rfl, rfl, rfl, trivial⟩ ⟨rfl, ?_, rfl, ?_, trivial⟩ rfl⟩
      · rw [List.take_succ_eq_append_getElem hg, List.all_append, ha, ← ep]; simp [hf]
      · first
          | rfl
          | (show some (OO.box [_, .own 60 5 0 _]) = _
             rw [List.length_append, z2]; rfl)
      · first
          | (rw [← n2, List.length_eq_zero_iff.1 z2]; rfl)
          | (rw [← n2]; rfl)
    · refine AWP_reg_seq tok fun K hK => ?_
      refine s_move rfl rfl rfl ?_
      refine s_indexAddr rfl (x_m PT.dc rfl rfl rfl rfl hg rfl) rfl ?_
      refine s_load rfl rfl rfl ?_
      refine s_alloc rfl rfl rfl rfl rfl rfl ?_
      refine s_assign rfl rfl rfl ?_
      refine s_store rfl rfl rfl rfl rfl ?_
      refine s_end (hK _ ?_); clear hK K
      rw [← ep]
      rw [← ep] at hp n2
      refine AWP_seq ?_
      refine AWP_reg_seq tok fun K hK => ?_
      refine s_fieldAddr rfl rfl rfl ?_
      refine s_load rfl rfl rfl ?_
      refine s_fieldAddr rfl rfl rfl ?_
      refine s_load rfl rfl rfl ?_
      refine s_move rfl rfl rfl ?_
      refine s_call rfl rfl (step_c _ _ _) rfl rfl rfl rfl ?_
      refine s_un rfl rfl rfl ?_
      refine s_end (hK _ ?_); clear hK K
      refine a_cond rfl (fun hf => ?_) (fun hf => ?_)
      · rw [Bool.not_eq_true'] at hf
        have e : chV ts st w = (g00, 2) := by rw [chV, if_pos hc, if_neg (by rw [chB, hd, Bool.true_and, List.all_eq_true]; intro h; rw [h p hp] at hf; cases hf)]
        rw [e]
        refine AWP_reg_seq tok fun K hK => ?_
        refine s_build rfl rfl rfl ?_
        refine s_store rfl rfl rfl rfl rfl ?_
        refine s_assign rfl rfl rfl ?_
        refine s_end (hK _ ?_); clear hK K
        refine AWP_ret ?_
        repeat (with_reducible refine tq_ret ?_)
        exact post_ret (fin_mk (by rfl) (by rfl) (by rfl))
      rw [Bool.not_eq_false'] at hf
      refine AWP_skip ?_
      show AWP _ _ _ _ _ _
      refine a_draw tok mixed (A := [[], [], [], [], [], [2], [2, 3, 4], [], [], [], [7, 8], [2, 3, 4, 5, 7, 8, 9], [2, 3, 4, 5, 6, 7, 8, 9, 10], [0, 2, 3, 4, 5, 6, 7, 8, 9, 10], [], []]) (an := [{}, {}, {}, {}, {}, {}, {}, {}, {}, {}, {}, {}, {}, {}, {}, {}]) rfl (by kernel_rfl) rfl fun K hK => ?_
      refine s_fieldAddr rfl rfl rfl ?_
      refine s_load rfl rfl rfl ?_
      refine s_fieldAddr rfl rfl rfl ?_
      refine s_load rfl rfl rfl ?_
      refine s_move rfl rfl rfl ?_
      refine s_indexAddr rfl (x_o (i := i + 1) rfl rfl rfl rfl rfl (by omega) (Nat.zero_add _)) rfl ?_
      refine s_load rfl (l_o rfl rfl g1 rfl rfl) rfl ?_
      refine s_move rfl rfl rfl ?_
      refine s_move rfl rfl rfl ?_
      refine s_indexAddr rfl (x_m RW.dc rfl rfl rfl rfl hg' rfl) rfl ?_
      refine s_load rfl rfl rfl ?_
      refine s_call rfl rfl (ct) rfl rfl rfl rfl ?_
      refine s_buildSlice rfl rfl rfl rfl ?_
      refine s_append rfl (ap_o rfl rfl rfl rfl rfl rfl (by decide) (Nat.le_of_ble_eq_true rfl) rfl (by simp) rfl rfl z1.symm (by simp <;> omega)) rfl rfl ?_
      refine s_fieldAddr rfl rfl rfl ?_
      refine s_storeB rfl rfl rfl rfl rfl ?_
      refine s_end (hK _ ?_); clear hK K
      refine a_rnB [0, 2, 6, 8, 30, 31, 32, 9, 10] [6, 8, 58, 60, 10] 58 24 [(0, V1 (dRs ts)), (2, dI w), (6, .ptr 6 0), (8, .ptr 8 0), (30, V1 (dPs st)), (31, dI st.length), (32, dI (i + 1 : Nat)), (9, dI (i + 1 : Nat)), (10, .ptr 10 0)] [(6, some (.box [.nil, .nil])), (8, some (.box [.own 24 4 0 (i + 1 + 1 + 1), ownC 60 5 (i + 1)])), (24, some (.arr 4 (((List.range (i + 1 + 1 + 1)).map (cn ts)).map RW.dc))), (60, arrN 5 es (i + 1)), (10, some (.box [.d (lI p.x), .d (lI p.y)]))] [8] rfl rfl rfl ?_ ?_ rfl ?_
      · exact ⟨rfl, rfl, rfl, rfl, rfl, rfl, rfl, rfl, rfl, trivial⟩
      · refine ⟨rfl, ?_, ?_, rfl, rfl, trivial⟩
        · show some (OO.box [.own 24 4 0 _, _]) = _
          rw [List.length_append, z1]; rfl
        · rw [← n1]; rfl
      refine AWP_reg tok fun K hK => ?_
      refine s_fieldAddr rfl rfl rfl ?_
      refine s_load rfl rfl rfl ?_
      refine s_move rfl rfl rfl ?_
      refine s_move rfl rfl rfl ?_
      refine s_bin rfl (e_add (c := ((i + 1 : Nat) : Int) + 1) rfl (by omega)) rfl ?_
      refine s_fieldAddr rfl rfl rfl ?_
      refine s_load rfl rfl rfl ?_
      refine s_fieldAddr rfl rfl rfl ?_
      refine s_load rfl rfl rfl ?_
      refine s_move rfl rfl rfl ?_
      refine s_build rfl rfl rfl ?_
      refine s_buildSlice rfl rfl rfl rfl ?_
      refine s_append rfl (ap_o rfl rfl rfl rfl rfl rfl (by decide) (Nat.le_of_ble_eq_true rfl) rfl (by simp) rfl rfl z2.symm (by simp <;> omega)) rfl rfl ?_
      refine s_fieldAddr rfl rfl rfl ?_
      refine s_storeB rfl rfl rfl rfl rfl ?_
      refine s_end (hK _ ?_); clear hK K
      show AWP _ _ _ _ _ _
      refine AWP_reg tok fun K hK => ?_
      refine s_bin rfl (e_add (c := ((i + 1 + 1 : Nat) : Int)) (by omega) (by omega)) rfl ?_
      refine s_move rfl rfl rfl ?_
      refine s_end (hK _ ?_); clear hK K
      refine ⟨i + 1 + 1, by omega, ⟨hg, ?_⟩, Wk.rnB [0, 2, 6, 8, 30, 31, 32] [6, 8, 24, 72] 72 60 rfl rfl rfl ⟨rfl, rfl, rfl, rfl, rfl, rfl, rfl, trivial⟩ ⟨rfl, ?_, rfl, ?_, trivial⟩ rfl⟩
      · rw [List.take_succ_eq_append_getElem hg, List.all_append, ha, ← ep]; simp [hf]
      · first
          | rfl
          | (show some (OO.box [_, .own 60 5 0 _]) = _
             rw [List.length_append, z2]; rfl)
      · first
          | (rw [← n2, List.length_eq_zero_iff.1 z2]; rfl)
          | (rw [← n2]; rfl)
  · have hg : i = st.length := by simp at hg; omega
    subst hg
    refine AWP_exit ?_
    show AWP _ _ _ _ _ _
    have e : chV ts st w = (chG ts st w, 0) := by rw [chV, if_pos hc, if_pos (by rw [chB, hd, Bool.true_and]; rwa [List.take_length] at ha)]
    rw [e]
    rcases st with _ | ⟨p, st⟩
    · refine a_fz [6, 8] [6, 8, 24] 24 [(6, .ptr 6 0), (8, .ptr 8 0)] [(6, some (.box [.nil, .nil])), (8, some (.box [.d (dRs ((List.range (0 + 1)).map (cn ts))), .nil]))] rfl ⟨rfl, rfl, trivial⟩ ⟨rfl, ?_, trivial⟩ ?_
      · rfl
      refine AWP_reg_seq tok fun K hK => ?_
      refine s_load rfl rfl rfl ?_
      refine s_store rfl rfl rfl rfl rfl ?_
      refine s_assign rfl rfl rfl ?_
      refine s_end (hK _ ?_); clear hK K
      refine AWP_ret ?_
      repeat (with_reducible refine tq_ret ?_)
      exact post_ret (fin_mk (by rfl) (by rfl) (by rfl))
    · refine a_fz [6, 8] [6, 8, 24, 60] 24 [(6, .ptr 6 0), (8, .ptr 8 0)] [(6, some (.box [.nil, .nil])), (8, some (.box [.d (dRs ((List.range ((p :: st).length + 1)).map (cn ts))), .own 60 5 0 (p :: st).length])), (60, some (.arr 5 (((List.range (p :: st).length).map (lkN (p :: st) w)).map LK.dc)))] rfl ⟨rfl, rfl, trivial⟩ ⟨rfl, ?_, rfl, trivial⟩ ?_
      · show some (OO.box [frzC 24 4 _ (.own 24 4 0 _), _]) = _
        rw [frzC_own rfl (by simp)]; rfl
      refine a_fz [6, 8] [6, 8, 60] 60 [(6, .ptr 6 0), (8, .ptr 8 0)] [(6, some (.box [.nil, .nil])), (8, some (.box [.d (dRs ((List.range ((p :: st).length + 1)).map (cn ts))), .d (dLs ((List.range (p :: st).length).map (lkN (p :: st) w)))]))] rfl ⟨rfl, rfl, trivial⟩ ⟨rfl, ?_, trivial⟩ ?_
      · show some (OO.box [_, frzC 60 5 _ (.own 60 5 0 _)]) = _
        rw [frzC_own rfl (by simp)]; rfl
      refine AWP_reg_seq tok fun K hK => ?_
      refine s_load rfl rfl rfl ?_
      refine s_store rfl rfl rfl rfl rfl ?_
      refine s_assign rfl rfl rfl ?_
      refine s_end (hK _ ?_); clear hK K
      refine AWP_ret ?_
      repeat (with_reducible refine tq_ret ?_)
      exact post_ret (fin_mk (by rfl) (by rfl) (by rfl))
end Go.Proofs.YtcafppnjemgkiaaGreat

/- The components of a graph. No condition. -/
namespace Go.Proofs.YtcafppnjemgkiaaGreat
attribute [local irreducible] lexA

def cN (x : Nat) : List DC := [lI x]
def dNs (r : List Nat) : DC := .sl (r.map cN)
theorem dNs_eq {a b : List Nat} (h : a = b) : V1 (dNs a) = V1 (dNs b) := by rw [h]
section
variable {T : Tab} {t e : TypeId} {ti ei : TI} {i : Nat}
theorem x_N {k : IntKind} {n : Int} {r : List Nat} (h1 : T t = some ti) (h2 : ti.und = .slice e) (h3 : T e = some ei) (h4 : ei.size = 1) (hn : n = (i : Int)) (hi : i < r.length) :
    effIndexAddr T t (V1 (dNs r)) (V1 (.lit (.int k n))) = .set (.pd (cN (r.getD i 0))) := by
  rw [getD_get hi]; exact x_m cN h1 h2 h3 hn hi (by rw [h4]; rfl)
theorem l_N {S : Objs} {id : Nat} {r : List Nat} (h1 : T t = some ti) (h4 : ti.size = 1) (h5 : ti.agg = false) (hS : S id = some (.arr 1 (r.map cN))) (hi : i < r.length) :
    effLoad T ⟨[], S, []⟩ t (.pe id 1 i 0) = .set (dI (r.getD i 0 : Nat)) := by
  rw [getD_get hi]; exact l_o h1 hS (by rw [List.getElem?_map, List.getElem?_eq_getElem hi]; rfl) (by rw [h4]; rfl) (by rw [h5]; rfl)
theorem st_N {S : Objs} {rb : List Nat} {id : Nat} {y : Int} {z : Nat} {r : List Nat} (h1 : T t = some ti) (h4 : ti.size = 1) (hS : S id = some (.arr 1 (r.map cN))) (hi : i < r.length) (hy : y = (z : Int)) :
    effStore T ⟨[], S, rb⟩ t (.pe id 1 i 0) (dI y) = .upd (updO S id (.arr 1 ((r.set i z).map cN))) rb := by
  subst hy
  rw [st_o (ds := cN z) h1 hS (by simpa using hi) (fun el hel => by rw [List.getElem?_map, List.getElem?_eq_getElem hi] at hel; cases hel; rw [h4]; rfl) rfl (by rw [h4]; rfl) (by rw [h4]; rfl)]
  rw [List.map_set]
theorem mk_a {k k' : IntKind} {n m : Int} {l sz : Nat} {z : List DC} (h1 : T t = some ti) (h2 : ti.und = .slice e) (h3 : T e = some ei) (h4 : ei.size = sz) (h5 : zeroO ei l = .arr sz (List.replicate l z)) (h6 : ei.bytes ≤ 256) (h0 : sz ≠ 0)
    (hn : n = (l : Int)) (hm : m = (l : Int)) (hc : l ≤ 1099511627776) :
    effMakeSlice T t (V1 (.lit (.int k n))) (V1 (.lit (.int k' m))) = .new (.arr sz (List.replicate l z)) (fun d => .val (.one (.own d sz 0 l))) := by
  subst hn hm h4
  simp only [effMakeSlice, h1, h2, h3, intOfS]
  rw [if_pos ⟨Int.natCast_nonneg _, by omega, Nat.ble_eq_true_of_le (by simp only [Int.toNat_natCast]; omega), h6, h0⟩]
  simp only [Int.toNat_natCast, h5]
theorem mk_N {k k' : IntKind} {n m : Int} {l : Nat} (h1 : T t = some ti) (h2 : ti.und = .slice e) (h3 : T e = some ei) (h4 : ei.size = 1) (h5 : zeroO ei l = .arr 1 (List.replicate l [lI 0])) (h6 : ei.bytes ≤ 256)
    (hn : n = (l : Int)) (hm : m = (l : Int)) (hc : l ≤ 1099511627776) :
    effMakeSlice T t (V1 (.lit (.int k n))) (V1 (.lit (.int k' m))) = .new (.arr 1 ((List.replicate l 0).map cN)) (fun d => .val (.one (.own d 1 0 l))) := by
  rw [List.map_replicate]
  exact mk_a h1 h2 h3 h4 h5 h6 (by decide) hn hm hc
end

theorem find_c (r : List Nat) (v : Nat) (h : RG r) (hv : v < r.length) : Con Tryz.prog 33 [dI v, .pd [dNs r]] { v := dI (fd r v) } := by
  refine con_intro (fn := Tryz.f33) tok Tryz.func33 (by kernel_rfl) rfl ?_
  intro w0 X
  rw [entry_mkE _ _ [(0, dI v), (1, .pd [dNs r])] rfl rfl]
  refine AWP_reg_seq tok fun K hK => ?_
  refine s_assign rfl rfl rfl ?_
  refine s_end (hK _ ?_); clear hK K
  refine AWP_seq ?_
  refine AWP_block (a_loop (α := Nat) (fun u => mk 15 [(0, dI u), (1, .pd [dNs r])] [] []) (fun u => u < r.length ∧ fd r u = fd r v) (fun u => u) v ?_ ⟨hv, rfl⟩ ?_)
  · exact Wk.mk' ⟨rfl, rfl, trivial⟩ trivial
  rintro u ⟨hu, he⟩
  refine AWP_seq ?_
  refine AWP_reg_seq tok fun K hK => ?_
  refine s_load rfl rfl rfl ?_
  refine s_move rfl rfl rfl ?_
  refine s_indexAddr rfl (x_N rfl rfl rfl rfl rfl hu) rfl ?_
  refine s_load rfl rfl rfl ?_
  refine s_move rfl rfl rfl ?_
  refine s_bin rfl rfl rfl ?_
  refine s_end (hK _ ?_); clear hK K
  refine a_cond rfl (fun hc => ?_) (fun hc => ?_)
  · have hc : r.getD u 0 ≠ u := by simp only [e_ne, decide_eq_true_eq] at hc; omega
    have hlt : r.getD u 0 < u := by have := h u; omega
    refine AWP_skip ?_
    show AWP _ _ _ _ _ _
    refine AWP_block ?_
    refine AWP_reg tok fun K hK => ?_
    refine s_load rfl rfl rfl ?_
    refine s_move rfl rfl rfl ?_
    refine s_indexAddr rfl (x_N rfl rfl rfl rfl rfl hu) rfl ?_
    refine s_load rfl rfl rfl ?_
    refine s_assign rfl rfl rfl ?_
    refine s_end (hK _ ?_); clear hK K
    refine ⟨r.getD u 0, hlt, ⟨by omega, ?_⟩, Wk.mk' ⟨rfl, rfl, trivial⟩ trivial⟩
    rw [← he, fd_eq h u, if_neg hc]
  · have hc : r.getD u 0 = u := by simp only [e_ne, decide_eq_false_iff_not] at hc; omega
    have e : fd r v = u := by rw [← he, fd_eq h u, if_pos hc]
    rw [e]
    refine AWP_exit ?_
    show AWP _ _ _ _ _ _
    refine AWP_reg_seq tok fun K hK => ?_
    refine s_move rfl rfl rfl ?_
    refine s_assign rfl rfl rfl ?_
    refine s_end (hK _ ?_); clear hK K
    refine AWP_ret ?_
    repeat (with_reducible refine tq_ret ?_)
    exact post_ret (fin_mk (by rfl) (by rfl) (by rfl))

/-- The numbers that some cells hold. -/
def natC : List DC → Nat
  | [.lit (.int _ n)] => n.toNat
  | _ => 0
theorem natC_cN (x : Nat) : natC (cN x) = x := by simp [natC, cN]
open Classical in
/-- The table, with the search for a root. -/
noncomputable def tabP : Tab :=
  { tab with
    clo := fun f args => match args with
      | [.val (.one (.d (.lit (.int .i64 v)))), .pd [.sl es]] =>
        if f = 33 ∧ es = (es.map natC).map cN ∧ RG (es.map natC) ∧ 0 ≤ v ∧ v.toNat < es.length then some (dI (fd (es.map natC) v.toNat)) else none
      | _ => none }
theorem tokP : TOK Tryz.prog tabP := by
  refine ⟨tok.ty, ?_, tok.eqs⟩
  intro f args x h
  simp only [tabP] at h
  split at h
  · split at h
    · next hc =>
      obtain ⟨rfl, he, hr, h0, hl⟩ := hc
      cases h
      refine ⟨?_, rfl, rfl, rfl⟩
      rename_i v es
      have := find_c (es.map natC) v.toNat hr (by simpa using hl)
      rw [dNs, ← he, Int.toNat_of_nonneg h0] at this
      exact this
    · cases h
  · cases h
theorem clo_N {S : Objs} {id a n : Nat} {v : Int} {u : Nat} {r : List Nat} (hi : S id = some (.box [.own a 1 0 n])) (ha : S a = some (.arr 1 (r.map cN))) (hn : n = r.length) (hr : RG r) (hv : v = (u : Int)) (hu : u < r.length) :
    effClo tabP ⟨[], S, []⟩ (.clo 33 id) [dI v] = .set (dI (fd r u)) := by
  subst hn hv
  have hm : ((r.map cN).map natC) = r := by rw [List.map_map]; exact (List.map_congr_left fun x _ => natC_cN x).trans (List.map_id r)
  have hd : capOf ⟨[], S, []⟩ id = some [dNs r] := by
    simp only [capOf, hi, dataCs, dataC, ha, List.length_map, Nat.zero_add, Nat.le_refl, and_self, if_true, dataL, SC.data?, List.drop_zero]
    rw [List.take_of_length_le (by simp)]; rfl
  have hc : tabP.clo 33 [dI u, .pd [dNs r]] = some (dI (fd r u)) := by
    simp only [tabP, dNs]
    rw [if_pos ⟨rfl, by rw [hm], by rw [hm]; exact hr, Int.natCast_nonneg _, by simpa using hu⟩, hm, Int.toNat_natCast]
  simp only [effClo, hd]
  simp only [argsOf, argOf, dataC]
  show (match tabP.clo _ [dI u, .pd [dNs r]] with | some v => Eff.set v | none => Eff.stuck) = _
  rw [hc]
end Go.Proofs.YtcafppnjemgkiaaGreat

/- Parts. No condition. -/
namespace Go.Proofs.YtcafppnjemgkiaaGreat
attribute [local irreducible] lexA

def partsL (n : Nat) (ls : List LK) : List Nat := ls.foldl (fun r l => uni r l.f.toNat l.t.toNat) (List.range n)
def partsR (g : GR) : List Nat := partsL g.nodes.length g.links
/-- What Parts answers. -/
def partsV (g : GR) : List Nat × Int := if validB g then ((num (partsR g) g.nodes.length).1, 0) else ([], 1)
theorem partsL_ok (n : Nat) (ls : List LK) : RG (partsL n ls) ∧ (partsL n ls).length = n := by
  have : ∀ (ls : List LK) (r : List Nat), RG r → RG (ls.foldl (fun r l => uni r l.f.toNat l.t.toNat) r) ∧ (ls.foldl (fun r l => uni r l.f.toNat l.t.toNat) r).length = r.length := by
    intro ls
    induction ls with
    | nil => intro r h; exact ⟨h, rfl⟩
    | cons l ls ih =>
      intro r h
      rw [List.foldl_cons]
      have := ih _ (RG_uni h l.f.toNat l.t.toNat)
      rw [uni_length] at this
      exact this
  have h := this ls (List.range n) (RG_range n)
  rw [List.length_range] at h
  exact h
theorem partsL_snoc (n : Nat) {ls : List LK} {i : Nat} (hi : i < ls.length) : partsL n (ls.take (i + 1)) = uni (partsL n (ls.take i)) ls[i].f.toNat ls[i].t.toNat := by
  rw [List.take_succ_eq_append_getElem hi, partsL, List.foldl_append]; rfl
theorem set_zero {l : List Nat} {i n x : Nat} (hl : l.length = i) (hi : i < n) : (l ++ List.replicate (n - i) 0).set i x = (l ++ [x]) ++ List.replicate (n - (i + 1)) 0 := by
  subst hl
  obtain ⟨k, hk⟩ : ∃ k, n - l.length = k + 1 := ⟨n - l.length - 1, by omega⟩
  rw [hk, List.set_append_right _ _ (Nat.le_refl _), Nat.sub_self, List.replicate_succ, List.set_cons_zero, List.append_assoc, show n - (l.length + 1) = k by omega]; rfl
theorem getD_zero {l : List Nat} {i n : Nat} (hi : i < l.length) : (l ++ List.replicate n 0).getD i 0 = l.getD i 0 := by
  rw [List.getD_eq_getElem?_getD, List.getElem?_append_left hi, ← List.getD_eq_getElem?_getD]

theorem mm_max {T : Tab} {S : Objs} (a b : Nat) {ts : List TypeId} : effCall T ⟨[], S, []⟩ (.builtin .max) [dI a, dI b] ts = .set (dI (max a b : Nat)) := by
  have : (if (b : Int) > (a : Int) then (b : Int) else (a : Int)) = ((max a b : Nat) : Int) := by split <;> omega
  simp only [effCall, effMM, intOfS, if_true, setLit, this]
theorem mm_min {T : Tab} {S : Objs} (a b : Nat) {ts : List TypeId} : effCall T ⟨[], S, []⟩ (.builtin .min) [dI a, dI b] ts = .set (dI (min a b : Nat)) := by
  have : (if (b : Int) < (a : Int) then (b : Int) else (a : Int)) = ((min a b : Nat) : Int) := by split <;> omega
  simp only [effCall, effMM, intOfS, if_true, Bool.false_eq_true, if_false, setLit, this]

theorem gParts_c (g : GR) : Con Tryz.prog 8 [AG g.cs] { v := .tup [.one (.d (dNs (partsV g).1)), .one (.d (lI (partsV g).2))] } := by
  refine con_intro (fn := Tryz.f8) tokP Tryz.func8 (by kernel_rfl) rfl ?_
  intro w0 X
  rw [entry_mkE _ _ [(0, AG g.cs)] rfl rfl]
  refine AWP_reg_seq tokP fun K hK => ?_
  refine s_box rfl rfl rfl rfl rfl rfl ?_
  refine s_assign rfl rfl rfl ?_
  refine s_assign rfl rfl rfl ?_
  refine s_end (hK _ ?_); clear hK K
  refine AWP_seq ?_
  refine AWP_reg_seq tokP fun K hK => ?_
  refine s_load rfl rfl rfl ?_
  refine s_call rfl rfl (gValid_c g) rfl rfl rfl rfl ?_
  refine s_un rfl rfl rfl ?_
  refine s_end (hK _ ?_); clear hK K
  refine a_cond rfl (fun hc => ?_) (fun hc => ?_)
  · rw [Bool.not_eq_true'] at hc
    have e : partsV g = ([], 1) := by rw [partsV, if_neg (by rw [hc]; simp)]
    rw [e]
    refine AWP_reg_seq tokP fun K hK => ?_
    refine s_assign rfl rfl rfl ?_
    refine s_assign rfl rfl rfl ?_
    refine s_end (hK _ ?_); clear hK K
    refine AWP_ret ?_
    repeat (with_reducible refine tq_ret ?_)
    exact post_ret (fin_mk (by rfl) (by rfl) (by rfl))
  rw [Bool.not_eq_false'] at hc
  have gv := validB_iff.1 hc
  have e : partsV g = ((num (partsR g) g.nodes.length).1, 0) := by rw [partsV, if_pos hc]
  rw [e]
  obtain ⟨n, hn⟩ : ∃ n, n = g.nodes.length := ⟨_, rfl⟩
  have n16 := gv.n2
  have l48 := gv.l
  rw [← hn] at n16 ⊢
  refine AWP_skip ?_
  show AWP _ _ _ _ _ _
  refine AWP_reg_seq tokP fun K hK => ?_
  refine s_fieldAddr rfl rfl rfl ?_
  refine s_load rfl rfl rfl ?_
  refine s_blt rfl (len_m (l := g.nodes) RW.dc rfl rfl) rfl ?_
  refine s_makeSlice (sz := _) (es := _) (f := _) (v := _) rfl (mk_N (l := n) rfl rfl rfl rfl rfl (Nat.le_of_ble_eq_true rfl) (by rw [hn]) (by rw [hn]) (by omega)) rfl rfl ?_
  refine s_alloc rfl rfl rfl rfl rfl rfl ?_
  refine s_storeB rfl rfl rfl rfl rfl ?_
  refine s_end (hK _ ?_); clear hK K
  refine AWP_seq ?_
  refine AWP_reg_seq tokP fun K hK => ?_
  refine s_load rfl rfl rfl ?_
  refine s_blt rfl rfl rfl ?_
  refine s_move rfl rfl rfl ?_
  refine s_end (hK _ ?_); clear hK K
  refine AWP_block (a_loop (α := Nat) (fun i => mk 86 [(1, .ptr 1 0), (4, .ptr 4 0), (23, dI n), (24, dI i)] [(1, some (.box g.cs)), (4, some (.box [.own 21 1 0 n])), (21, some (.arr 1 ((List.range i ++ List.replicate (n - i) 0).map cN)))] [4]) (fun i => i ≤ n) (fun i => n - i) 0 ?_ (Nat.zero_le _) ?_)
  · exact Wk.mk' ⟨rfl, rfl, rfl, rfl, trivial⟩ ⟨rfl, rfl, rfl, trivial⟩
  intro i hi
  refine AWP_reg_seq tokP fun K hK => ?_
  refine s_bin rfl rfl rfl ?_
  refine s_end (hK _ ?_); clear hK K
  refine AWP_seq ?_
  refine a_cond rfl (fun hg => ?_) (fun hg => ?_)
  · have hg : i < n := by simp at hg; omega
    have h1 : i < (List.range i ++ List.replicate (n - i) 0).length := by simp; omega
    have h2 := set_zero (x := i) (l := List.range i) List.length_range hg
    rw [← List.range_succ] at h2
    generalize List.range i ++ List.replicate (n - i) 0 = r at h1 h2 ⊢
    refine AWP_skip ?_
    show AWP _ _ _ _ _ _
    refine AWP_seq ?_
    refine AWP_block ?_
    refine AWP_reg_seq tokP fun K hK => ?_
    refine s_move rfl rfl rfl ?_
    refine s_assign rfl rfl rfl ?_
    refine s_end (hK _ ?_); clear hK K
    refine AWP_reg tokP fun K hK => ?_
    refine s_load rfl rfl rfl ?_
    refine s_move rfl rfl rfl ?_
    refine s_move rfl rfl rfl ?_
    refine s_indexAddr rfl (x_o (i := i) (j := i) rfl rfl rfl rfl rfl hg (by omega)) rfl ?_
    refine s_store rfl (st_N rfl rfl rfl h1 rfl) rfl rfl rfl ?_
    refine s_end (hK _ ?_); clear hK K
    show AWP _ _ _ _ _ _
    refine AWP_reg tokP fun K hK => ?_
    refine s_bin rfl (e_add (c := ((i + 1 : Nat) : Int)) (by omega) (by omega)) rfl ?_
    refine s_move rfl rfl rfl ?_
    refine s_end (hK _ ?_); clear hK K
    refine ⟨i + 1, by omega, hg, Wk.mk' ⟨rfl, rfl, rfl, rfl, trivial⟩ ⟨rfl, rfl, ?_, trivial⟩⟩
    rw [← h2]; rfl
  have hg : i = n := by simp at hg; omega
  subst hg
  rw [Nat.sub_self, List.replicate_zero, List.append_nil]
  refine AWP_exit ?_
  show AWP _ _ _ _ _ _
  refine AWP_reg_seq tokP fun K hK => ?_
  refine s_makeFunc rfl rfl rfl ?_
  refine s_assign rfl rfl rfl ?_
  refine s_end (hK _ ?_); clear hK K
  refine AWP_seq ?_
  refine AWP_reg_seq tokP fun K hK => ?_
  refine s_fieldAddr rfl rfl rfl ?_
  refine s_load rfl rfl rfl ?_
  refine s_blt rfl (len_m LK.dc rfl rfl) rfl ?_
  refine s_move rfl rfl rfl ?_
  refine s_end (hK _ ?_); clear hK K
  refine AWP_block (a_loop (α := Nat) (fun k => mk 86 [(4, .ptr 4 0), (6, .clo 33 4), (34, V1 (dLs g.links)), (35, dI g.links.length), (36, dI k)] [(4, some (.box [.own 21 1 0 i])), (21, some (.arr 1 ((partsL i (g.links.take k)).map cN)))] [4]) (fun k => k ≤ g.links.length) (fun k => g.links.length - k) 0 ?_ (Nat.zero_le _) ?_)
  · exact Wk.mk' ⟨rfl, rfl, rfl, rfl, rfl, trivial⟩ ⟨rfl, rfl, trivial⟩
  intro k hk
  refine AWP_reg_seq tokP fun K hK => ?_
  refine s_bin rfl rfl rfl ?_
  refine s_end (hK _ ?_); clear hK K
  refine AWP_seq ?_
  refine a_cond rfl (fun hg => ?_) (fun hg => ?_)
  · have hg : k < g.links.length := by simp at hg; omega
    obtain ⟨l, hl⟩ : ∃ l, l = g.links[k] := ⟨_, rfl⟩
    have lv := linkB_iff.1 (gv.lk l (hl ▸ List.getElem_mem hg))
    rw [← hn] at lv
    obtain ⟨a, b, ha, hb, ea, eb, _⟩ := lv.lt
    have hsn := partsL_snoc i hg
    rw [← hl, ea, eb, Int.toNat_natCast, Int.toNat_natCast] at hsn
    obtain ⟨rg, rl⟩ := partsL_ok i (g.links.take k)
    generalize partsL i (g.links.take k) = r at rg rl hsn ⊢
    have fa := fd_le rg a
    have fb := fd_le rg b
    refine AWP_skip ?_
    show AWP _ _ _ _ _ _
    refine AWP_seq ?_
    refine AWP_block ?_
    refine AWP_reg_seq tokP fun K hK => ?_
    refine s_indexAddr rfl (x_m LK.dc rfl rfl rfl rfl hg rfl) rfl ?_
    refine s_load rfl rfl rfl ?_
    refine s_alloc rfl rfl rfl rfl rfl rfl ?_
    refine s_store rfl rfl rfl rfl rfl ?_
    refine s_end (hK _ ?_); clear hK K
    rw [← hl]
    refine a_draw tokP mixed (A := [[], [], [], [1], [], [], [], [0, 1, 2, 5], [4, 5, 6], []]) (an := [{}, {}, {}, {}, { c := [43] }, { c := [43] }, { c := [43] }, {}, {}, {}]) rfl (by kernel_rfl) rfl fun K hK => ?_
    refine s_move rfl rfl rfl ?_
    refine s_fieldAddr rfl rfl rfl ?_
    refine s_load rfl rfl rfl ?_
    refine s_clo rfl (clo_N rfl rfl rl.symm rg ea (by omega)) rfl ?_
    refine s_move rfl rfl rfl ?_
    refine s_fieldAddr rfl rfl rfl ?_
    refine s_load rfl rfl rfl ?_
    refine s_clo rfl (clo_N rfl rfl rl.symm rg eb (by omega)) rfl ?_
    refine s_assign rfl rfl rfl ?_
    refine s_assign rfl rfl rfl ?_
    refine s_end (hK _ ?_); clear hK K
    refine AWP_reg tokP fun K hK => ?_
    refine s_load rfl rfl rfl ?_
    refine s_move rfl rfl rfl ?_
    refine s_move rfl rfl rfl ?_
    refine s_blt rfl (mm_max (fd r a) (fd r b)) rfl ?_
    refine s_move rfl rfl rfl ?_
    refine s_move rfl rfl rfl ?_
    refine s_blt rfl (mm_min (fd r a) (fd r b)) rfl ?_
    refine s_indexAddr rfl (x_o (i := max (fd r a) (fd r b)) (j := max (fd r a) (fd r b)) rfl rfl rfl rfl rfl (by omega) (by omega)) rfl ?_
    refine s_store rfl (st_N (z := min (fd r a) (fd r b)) rfl rfl rfl (by omega) rfl) rfl rfl rfl ?_
    refine s_end (hK _ ?_); clear hK K
    show AWP _ _ _ _ _ _
    refine AWP_reg tokP fun K hK => ?_
    refine s_bin rfl (e_add (c := ((k + 1 : Nat) : Int)) (by omega) (by omega)) rfl ?_
    refine s_move rfl rfl rfl ?_
    refine s_end (hK _ ?_); clear hK K
    refine ⟨k + 1, by omega, hg, Wk.mk' ⟨rfl, rfl, rfl, rfl, rfl, trivial⟩ ⟨rfl, ?_, trivial⟩⟩
    rw [hsn]; rfl
  have hg : k = g.links.length := by simp at hg; omega
  subst hg
  rw [List.take_length]
  refine AWP_exit ?_
  show AWP _ _ _ _ _ _
  have e2 : partsR g = partsL i g.links := by rw [partsR, ← hn]
  rw [e2]
  obtain ⟨rg, rl⟩ := partsL_ok i g.links
  generalize partsL i g.links = r at rg rl ⊢
  refine AWP_reg_seq tokP fun K hK => ?_
  refine s_load rfl rfl rfl ?_
  refine s_blt rfl rfl rfl ?_
  refine s_makeSlice (sz := _) (es := _) (f := _) (v := _) rfl (mk_N (l := i) rfl rfl rfl rfl rfl (Nat.le_of_ble_eq_true rfl) rfl rfl (by omega)) rfl rfl ?_
  refine s_assign rfl rfl rfl ?_
  refine s_end (hK _ ?_); clear hK K
  refine AWP_reg_seq tokP fun K hK => ?_
  refine s_assign rfl rfl rfl ?_
  refine s_end (hK _ ?_); clear hK K
  refine AWP_seq ?_
  refine AWP_reg_seq tokP fun K hK => ?_
  refine s_move rfl rfl rfl ?_
  refine s_blt rfl rfl rfl ?_
  refine s_move rfl rfl rfl ?_
  refine s_end (hK _ ?_); clear hK K
  refine AWP_block (a_loop (α := Nat) (fun v => mk 86 [(6, .clo 33 4), (11, .val (.one (.own 59 1 0 i))), (12, dI (num r v).2), (61, dI i), (62, dI v)] [(4, some (.box [.own 21 1 0 i])), (21, some (.arr 1 (r.map cN))), (59, some (.arr 1 (((num r v).1 ++ List.replicate (i - v) 0).map cN)))] [4]) (fun v => v ≤ i) (fun v => i - v) 0 ?_ (Nat.zero_le _) ?_)
  · exact Wk.mk' ⟨rfl, rfl, rfl, rfl, rfl, trivial⟩ ⟨rfl, rfl, rfl, trivial⟩
  intro v hv
  refine AWP_reg_seq tokP fun K hK => ?_
  refine s_bin rfl rfl rfl ?_
  refine s_end (hK _ ?_); clear hK K
  refine AWP_seq ?_
  refine a_cond rfl (fun hg => ?_) (fun hg => ?_)
  · have hg : v < i := by simp at hg; omega
    have fv := fd_le rg v
    have h1 : v < ((num r v).1 ++ List.replicate (i - v) 0).length := by simp [num_length]; omega
    have h2 : ∀ x, ((num r v).1 ++ List.replicate (i - v) 0).set v x = _ := fun x => set_zero (x := x) (num_length r v) hg
    have hs : num r (v + 1) = if fd r v = v then ((num r v).1 ++ [(num r v).2], (num r v).2 + 1) else ((num r v).1 ++ [(num r v).1.getD (fd r v) 0], (num r v).2) := rfl
    have h3 : fd r v ≠ v → ((num r v).1 ++ List.replicate (i - v) 0).getD (fd r v) 0 = (num r v).1.getD (fd r v) 0 := fun h => getD_zero (by rw [num_length]; omega)
    have h4 := num_le r v
    generalize (num r v).1 ++ List.replicate (i - v) 0 = o at h1 h2 h3 ⊢
    refine AWP_skip ?_
    show AWP _ _ _ _ _ _
    refine AWP_seq ?_
    refine AWP_block ?_
    refine AWP_reg_seq tokP fun K hK => ?_
    refine s_move rfl rfl rfl ?_
    refine s_assign rfl rfl rfl ?_
    refine s_end (hK _ ?_); clear hK K
    refine AWP_seq ?_
    refine AWP_reg_seq tokP fun K hK => ?_
    refine s_move rfl rfl rfl ?_
    refine s_move rfl rfl rfl ?_
    refine s_clo rfl (clo_N rfl rfl rl.symm rg rfl (by omega)) rfl ?_
    refine s_assign rfl rfl rfl ?_
    refine s_end (hK _ ?_); clear hK K
    refine AWP_reg_seq tokP fun K hK => ?_
    refine s_move rfl rfl rfl ?_
    refine s_move rfl rfl rfl ?_
    refine s_bin rfl rfl rfl ?_
    refine s_end (hK _ ?_); clear hK K
    refine a_cond rfl (fun hd => ?_) (fun hd => ?_)
    · have hd : fd r v ≠ v := by simp only [e_ne, decide_eq_true_eq] at hd; omega
      rw [if_neg hd] at hs
      refine AWP_reg_seq tokP fun K hK => ?_
      refine s_move rfl rfl rfl ?_
      refine s_move rfl rfl rfl ?_
      refine s_move rfl rfl rfl ?_
      refine s_move rfl rfl rfl ?_
      refine s_indexAddr rfl (x_o (i := fd r v) (j := fd r v) rfl rfl rfl rfl rfl (by omega) (by omega)) rfl ?_
      refine s_load rfl (l_N rfl rfl rfl rfl (by omega)) rfl ?_
      refine s_indexAddr rfl (x_o (i := v) (j := v) rfl rfl rfl rfl rfl hg (by omega)) rfl ?_
      refine s_store rfl (st_N rfl rfl rfl h1 rfl) rfl rfl rfl ?_
      refine s_end (hK _ ?_); clear hK K
      refine AWP_exit ?_
      show AWP _ _ _ _ _ _
      refine AWP_reg tokP fun K hK => ?_
      refine s_bin rfl (e_add (c := ((v + 1 : Nat) : Int)) (by omega) (by omega)) rfl ?_
      refine s_move rfl rfl rfl ?_
      refine s_end (hK _ ?_); clear hK K
      refine ⟨v + 1, by omega, hg, Wk.mk' ⟨rfl, rfl, ?_, rfl, rfl, trivial⟩ ⟨rfl, rfl, ?_, trivial⟩⟩
      · rw [hs]; rfl
      · rw [hs, ← h2, ← h3 hd]; rfl
    · have hd : fd r v = v := by simp only [e_ne, decide_eq_false_iff_not] at hd; omega
      rw [if_pos hd] at hs
      refine AWP_skip ?_
      show AWP _ _ _ _ _ _
      refine AWP_reg_seq tokP fun K hK => ?_
      refine s_move rfl rfl rfl ?_
      refine s_move rfl rfl rfl ?_
      refine s_move rfl rfl rfl ?_
      refine s_indexAddr rfl (x_o (i := v) (j := v) rfl rfl rfl rfl rfl hg (by omega)) rfl ?_
      refine s_store rfl (st_N rfl rfl rfl h1 rfl) rfl rfl rfl ?_
      refine s_end (hK _ ?_); clear hK K
      refine AWP_reg tokP fun K hK => ?_
      refine s_move rfl rfl rfl ?_
      refine s_bin rfl (e_add (c := (((num r v).2 + 1 : Nat) : Int)) (by omega) (by omega)) rfl ?_
      refine s_assign rfl rfl rfl ?_
      refine s_end (hK _ ?_); clear hK K
      show AWP _ _ _ _ _ _
      refine AWP_reg tokP fun K hK => ?_
      refine s_bin rfl (e_add (c := ((v + 1 : Nat) : Int)) (by omega) (by omega)) rfl ?_
      refine s_move rfl rfl rfl ?_
      refine s_end (hK _ ?_); clear hK K
      refine ⟨v + 1, by omega, hg, Wk.mk' ⟨rfl, rfl, ?_, rfl, rfl, trivial⟩ ⟨rfl, rfl, ?_, trivial⟩⟩
      · rw [hs]; rfl
      · rw [hs, ← h2]; rfl
  have hg : v = i := by simp at hg; omega
  subst hg
  rw [Nat.sub_self, List.replicate_zero, List.append_nil]
  refine AWP_exit ?_
  show AWP _ _ _ _ _ _
  refine a_fz [11] [59] 59 [(11, V1 (dNs (num r v).1))] [] rfl ?_ trivial ?_
  · exact ⟨frz_own rfl (by simp [num_length]), trivial⟩
  refine AWP_reg_seq tokP fun K hK => ?_
  refine s_move rfl rfl rfl ?_
  refine s_assign rfl rfl rfl ?_
  refine s_assign rfl rfl rfl ?_
  refine s_end (hK _ ?_); clear hK K
  refine AWP_ret ?_
  repeat (with_reducible refine tq_ret ?_)
  exact post_ret (fin_mk (by rfl) (by rfl) (by rfl))
end Go.Proofs.YtcafppnjemgkiaaGreat

/- Laplacian matrices. No condition. -/
namespace Go.Proofs.YtcafppnjemgkiaaGreat

def updM (M : Nat → Nat → Int) (a b : Nat) (x : Int) : Nat → Nat → Int := fun i j => if i = a ∧ j = b then x else M i j
/-- A link's four changes. -/
def lapS (M : Nat → Nat → Int) (f t : Nat) (w : Int) : Nat → Nat → Int :=
  let M1 := updM M f f (M f f + w)
  let M2 := updM M1 t t (M1 t t + w)
  let M3 := updM M2 f t (M2 f t - w)
  updM M3 t f (M3 t f - w)
def lapM (ls : List LK) : Nat → Nat → Int := ls.foldl (fun M l => lapS M l.f.toNat l.t.toNat l.w) (fun _ _ => 0)
theorem lapM_snoc {ls : List LK} {i : Nat} (hi : i < ls.length) : lapM (ls.take (i + 1)) = lapS (lapM (ls.take i)) ls[i].f.toNat ls[i].t.toNat ls[i].w := by
  rw [List.take_succ_eq_append_getElem hi, lapM, List.foldl_append]; rfl
/-- What a link adds. -/
def lapD (f t : Nat) (w : Int) (i j : Nat) : Int := if i = j then (if f = i ∨ t = i then w else 0) else (if (f = i ∧ t = j) ∨ (f = j ∧ t = i) then -w else 0)
theorem lapS_eq {M : Nat → Nat → Int} {f t : Nat} {w : Int} (h : f ≠ t) (i j : Nat) : lapS M f t w i j = M i j + lapD f t w i j := by
  simp only [lapS, updM, lapD]
  by_cases h1 : i = t ∧ j = f
  · obtain ⟨rfl, rfl⟩ := h1
    rw [if_pos ⟨rfl, rfl⟩, if_neg (by omega), if_neg (by omega), if_neg (by omega), if_neg (fun e => h e.symm), if_pos (Or.inr ⟨rfl, rfl⟩)]; omega
  · rw [if_neg h1]
    by_cases h2 : i = f ∧ j = t
    · obtain ⟨rfl, rfl⟩ := h2
      rw [if_pos ⟨rfl, rfl⟩, if_neg (by omega), if_neg (by omega), if_neg h, if_pos (Or.inl ⟨rfl, rfl⟩)]; omega
    · rw [if_neg h2]
      by_cases h3 : i = t ∧ j = t
      · obtain ⟨rfl, rfl⟩ := h3
        rw [if_pos ⟨rfl, rfl⟩, if_neg (by omega), if_pos rfl, if_pos (Or.inr rfl)]
      · rw [if_neg h3]
        by_cases h4 : i = f ∧ j = f
        · obtain ⟨rfl, rfl⟩ := h4
          rw [if_pos ⟨rfl, rfl⟩, if_pos rfl, if_pos (Or.inl rfl)]
        · rw [if_neg h4]
          by_cases h5 : i = j
          · subst h5; rw [if_pos rfl, if_neg (by omega)]; omega
          · rw [if_neg h5, if_neg (by omega)]; omega
theorem lapD_le {f t : Nat} {w : Int} (hw : 0 ≤ w ∧ w ≤ 1048576) (i j : Nat) : -1048576 ≤ lapD f t w i j ∧ lapD f t w i j ≤ 1048576 := by
  unfold lapD; split <;> split <;> omega
theorem lapM_le {n : Nat} (ls : List LK) (h : ∀ l ∈ ls, LV n l) (i j : Nat) : -(1048576 * (ls.length : Int)) ≤ lapM ls i j ∧ lapM ls i j ≤ 1048576 * (ls.length : Int) := by
  have : ∀ k, k ≤ ls.length → -(1048576 * (k : Int)) ≤ lapM (ls.take k) i j ∧ lapM (ls.take k) i j ≤ 1048576 * (k : Int) := by
    intro k
    induction k with
    | zero => intro _; simp [lapM]
    | succ k ih =>
      intro hk
      have h1 := ih (by omega)
      have lv := h ls[k] (List.getElem_mem (by omega))
      have hne : ls[k].f.toNat ≠ ls[k].t.toNat := by have := lv.f; have := lv.t; have := lv.ne; omega
      have hw := lv.w
      have h2 := lapD_le (f := ls[k].f.toNat) (t := ls[k].t.toNat) (w := ls[k].w) ⟨by omega, by omega⟩ i j
      rw [lapM_snoc (by omega), lapS_eq hne]
      omega
  have h := this ls.length (Nat.le_refl _)
  rwa [List.take_length] at h
/-- A row's cells. -/
def rowI (n : Nat) (r : Nat → Int) : List (List DC) := (List.range n).map fun j => [.lit (.int .i64 (r j))]
theorem rowI_length (n : Nat) (r : Nat → Int) : (rowI n r).length = n := by simp [rowI]
theorem rowI_get {n j : Nat} {r : Nat → Int} (h : j < n) : (rowI n r)[j]? = some [.lit (.int .i64 (r j))] := by simp [rowI, h]
theorem rowI_set {n j : Nat} {r r' : Nat → Int} {x : Int} (hx : r' j = x) (hr : ∀ k, k ≠ j → r' k = r k) : (rowI n r).set j [.lit (.int .i64 x)] = rowI n r' := by
  apply List.ext_getElem?
  intro k
  rw [List.getElem?_set]
  by_cases hk : j = k
  · subst hk
    rw [if_pos rfl, rowI_length]
    by_cases hn : j < n
    · rw [if_pos hn, rowI_get hn, hx]
    · rw [if_neg hn, List.getElem?_eq_none (by rw [rowI_length]; omega)]
  · rw [if_neg hk]
    simp only [rowI, List.getElem?_map]
    rcases Nat.lt_or_ge k n with hn | hn
    · rw [List.getElem?_range hn]; simp [hr k (Ne.symm hk)]
    · rw [List.getElem?_eq_none (by simpa using hn)]; rfl
theorem rowI_zero (n : Nat) : rowI n (fun _ => 0) = List.replicate n [.lit (.int .i64 0)] := by
  apply List.ext_getElem?
  intro k
  rw [List.getElem?_replicate]
  rcases Nat.lt_or_ge k n with h | h
  · rw [if_pos h, rowI_get h]
  · rw [if_neg (by omega), List.getElem?_eq_none (by rw [rowI_length]; omega)]
theorem rowI_updM {n f t : Nat} {M : Nat → Nat → Int} {x : Int} (i : Nat) : rowI n (updM M f t x i) = if i = f then (rowI n (M f)).set t [.lit (.int .i64 x)] else rowI n (M i) := by
  by_cases h : i = f
  · subst h
    rw [if_pos rfl]
    exact (rowI_set (by simp [updM]) (fun k hk => by simp [updM, hk])).symm
  · rw [if_neg h]
    have : updM M f t x i = M i := by funext j; simp [updM, h]
    rw [this]
end Go.Proofs.YtcafppnjemgkiaaGreat

/- Laplacians are symmetric, and their rows have the sum 0. No condition. -/
namespace Go.Proofs.YtcafppnjemgkiaaGreat

def sumI (F : Nat → Int) : Nat → Int
  | 0 => 0
  | k + 1 => sumI F k + F k
theorem sumI_add (F G : Nat → Int) (k : Nat) : sumI (fun j => F j + G j) k = sumI F k + sumI G k := by
  induction k with
  | zero => rfl
  | succ k ih => rw [sumI, sumI, sumI, ih]; omega
theorem sumI_congr {F G : Nat → Int} {k : Nat} (h : ∀ j, j < k → F j = G j) : sumI F k = sumI G k := by
  induction k with
  | zero => rfl
  | succ k ih => rw [sumI, sumI, ih fun j hj => h j (by omega), h k (by omega)]
theorem sumI_one (a : Nat) (x : Int) (k : Nat) : sumI (fun j => if j = a then x else 0) k = if a < k then x else 0 := by
  induction k with
  | zero => rfl
  | succ k ih =>
    rw [sumI, ih]
    by_cases h1 : a < k
    · rw [if_pos h1, if_neg (by omega), if_pos (by omega)]; omega
    · rw [if_neg h1]
      by_cases h2 : k = a
      · rw [if_pos h2, if_pos (by omega)]; omega
      · rw [if_neg h2, if_neg (by omega)]; omega
theorem sumI_zero (k : Nat) : sumI (fun _ => 0) k = 0 := by
  induction k with
  | zero => rfl
  | succ k ih => rw [sumI, ih]; rfl
theorem lapD_sum {f t n : Nat} {w : Int} (hne : f ≠ t) (hf : f < n) (ht : t < n) (i : Nat) : sumI (fun j => lapD f t w i j) n = 0 := by
  by_cases h1 : i = f
  · have e : ∀ j, j < n → lapD f t w i j = (fun j => (if j = f then w else 0) + (if j = t then -w else 0)) j := by
      intro j _
      simp only [lapD]
      repeat' split
      all_goals omega
    rw [sumI_congr e, sumI_add, sumI_one, sumI_one, if_pos hf, if_pos ht]; omega
  · by_cases h2 : i = t
    · have e : ∀ j, j < n → lapD f t w i j = (fun j => (if j = t then w else 0) + (if j = f then -w else 0)) j := by
        intro j _
        simp only [lapD]
        repeat' split
        all_goals omega
      rw [sumI_congr e, sumI_add, sumI_one, sumI_one, if_pos hf, if_pos ht]; omega
    · have e : ∀ j, j < n → lapD f t w i j = (fun _ => 0) j := by
        intro j _
        simp only [lapD]
        repeat' split
        all_goals omega
      rw [sumI_congr e, sumI_zero]
theorem lapD_symm (f t : Nat) (w : Int) (i j : Nat) : lapD f t w i j = lapD f t w j i := by
  simp only [lapD]
  repeat' split
  all_goals omega
theorem LV.fn {n : Nat} {l : LK} (h : LV n l) : l.f.toNat ≠ l.t.toNat ∧ l.f.toNat < n ∧ l.t.toNat < n := by
  have := h.f; have := h.t; have := h.ne; omega
theorem lapM_sum {n : Nat} (ls : List LK) (h : ∀ l ∈ ls, LV n l) (i : Nat) : sumI (lapM ls i) n = 0 := by
  have : ∀ k, k ≤ ls.length → sumI (lapM (ls.take k) i) n = 0 := by
    intro k
    induction k with
    | zero => intro _; exact sumI_zero n
    | succ k ih =>
      intro hk
      have lv := (h ls[k] (List.getElem_mem (by omega))).fn
      rw [lapM_snoc (by omega), sumI_congr (G := fun j => lapM (ls.take k) i j + lapD ls[k].f.toNat ls[k].t.toNat ls[k].w i j) (fun j _ => lapS_eq lv.1 i j), sumI_add, lapD_sum lv.1 lv.2.1 lv.2.2, Int.add_zero]
      exact ih (by omega)
  have h := this ls.length (Nat.le_refl _)
  rwa [List.take_length] at h
theorem lapM_symm {n : Nat} (ls : List LK) (h : ∀ l ∈ ls, LV n l) (i j : Nat) : lapM ls i j = lapM ls j i := by
  have : ∀ k, k ≤ ls.length → lapM (ls.take k) i j = lapM (ls.take k) j i := by
    intro k
    induction k with
    | zero => intro _; rfl
    | succ k ih =>
      intro hk
      have lv := (h ls[k] (List.getElem_mem (by omega))).fn
      rw [lapM_snoc (by omega), lapS_eq lv.1, lapS_eq lv.1, lapD_symm, ih (by omega)]
  have h := this ls.length (Nat.le_refl _)
  rwa [List.take_length] at h
end Go.Proofs.YtcafppnjemgkiaaGreat

/- The Laplacian. No condition. -/
namespace Go.Proofs.YtcafppnjemgkiaaGreat
attribute [local irreducible] lexA

theorem st_I {T : Tab} {t : TypeId} {ti : TI} {S : Objs} {rb : List Nat} {id i n : Nat} {y : Int} {r : Nat → Int} (h1 : T t = some ti) (h4 : ti.size = 1) (hS : S id = some (.arr 1 (rowI n r))) (hi : i < n) :
    effStore T ⟨[], S, rb⟩ t (.pe id 1 i 0) (dI y) = .upd (updO S id (.arr 1 ((rowI n r).set i [.lit (.int .i64 y)]))) rb :=
  st_o (ds := [.lit (.int .i64 y)]) h1 hS (by rw [rowI_length]; exact hi) (fun el hel => by rw [rowI_get hi] at hel; cases hel; rw [h4]; rfl) rfl (by rw [h4]; rfl) (by rw [h4]; rfl)
/-- The rows of the Laplacian. -/
def lapR (n : Nat) (M : Nat → Nat → Int) (i : Nat) : List RW := (List.range n).map fun j => qzW (M i j : Int)
def lapQ (n : Nat) (M : Nat → Nat → Int) : List (List RW) := (List.range n).map (lapR n M)
theorem updM_le {M : Nat → Nat → Int} {f t : Nat} {x c : Int} (h : ∀ a b, -c ≤ M a b ∧ M a b ≤ c) (hx : -c ≤ x ∧ x ≤ c) : ∀ a b, -c ≤ updM M f t x a b ∧ updM M f t x a b ≤ c := by
  intro a b; simp only [updM]; split
  · exact hx
  · exact h a b

theorem glap_c (g : GR) (gv : GV g) : Con Tryz.prog 43 [AG g.cs] { v := V1 (dMs (lapQ g.nodes.length (lapM g.links))) } := by
  refine con_intro (fn := Tryz.f43) tok Tryz.func43 (by kernel_rfl) rfl ?_
  intro w0 X
  rw [entry_mkE _ _ [(0, AG g.cs)] rfl rfl]
  refine AWP_reg_seq tok fun K hK => ?_
  refine s_box rfl rfl rfl rfl rfl rfl ?_
  refine s_assign rfl rfl rfl ?_
  refine s_end (hK _ ?_); clear hK K
  obtain ⟨n, hn⟩ : ∃ n, n = g.nodes.length := ⟨_, rfl⟩
  have n16 := gv.n2
  have l48 := gv.l
  rw [← hn] at n16 ⊢
  refine AWP_reg_seq tok fun K hK => ?_
  refine s_fieldAddr rfl rfl rfl ?_
  refine s_load rfl rfl rfl ?_
  refine s_blt rfl (len_m (l := g.nodes) RW.dc rfl rfl) rfl ?_
  refine s_assign rfl rfl rfl ?_
  refine s_end (hK _ ?_); clear hK K
  rw [← hn]
  refine AWP_reg_seq tok fun K hK => ?_
  refine s_move rfl rfl rfl ?_
  refine s_makeBox (f := _) (v := _) rfl (mk_box (l := n) rfl rfl rfl rfl rfl (Nat.le_of_ble_eq_true rfl) rfl rfl (by omega)) rfl rfl ?_
  refine s_assign rfl rfl rfl ?_
  refine s_end (hK _ ?_); clear hK K
  refine AWP_seq ?_
  refine AWP_reg_seq tok fun K hK => ?_
  refine s_move rfl rfl rfl ?_
  refine s_blt rfl rfl rfl ?_
  refine s_move rfl rfl rfl ?_
  refine s_end (hK _ ?_); clear hK K
  refine AWP_block (a_loop (α := Nat) (fun i => mk 118 [(1, .ptr 1 0), (3, dI n), (4, .val (.one (.own 17 1 0 n))), (19, dI n), (20, dI i)] (((17, some (.box (gridC 1000 1 n i ++ List.replicate (n - i) .nil))) :: [(1, some (.box g.cs))]) ++ rowsO 1000 1 i (fun _ => rowI n (fun _ => 0))) [17]) (fun i => i ≤ n) (fun i => n - i) 0 ?_ (Nat.zero_le _) ?_)
  · refine Wk.trans ?_ (Wk.rbE (rb := []) rfl)
    exact Wk.gkeep ⟨rfl, rfl, rfl, rfl, rfl, trivial⟩ ⟨rfl, rfl, trivial⟩ rfl (fun q hq => by rw [so_cons, if_neg (by omega), so_cons, if_neg (by omega)]; rfl)
  intro i hi
  refine AWP_reg_seq tok fun K hK => ?_
  refine s_bin rfl rfl rfl ?_
  refine s_end (hK _ ?_); clear hK K
  refine AWP_seq ?_
  refine a_cond rfl (fun hg => ?_) (fun hg => ?_)
  · have hg : i < n := by simp at hg; omega
    have nr : ∀ d, d < 1000 → (gridC 1000 1 n i ++ List.replicate (n - i) SC.nil).all (SC.noRef d) = true := fun d hd => by
      rw [List.all_append, gridC_noRef (Or.inl hd), rep_noRef]; rfl
    have hlen : i < (gridC 1000 1 n i ++ List.replicate (n - i) SC.nil).length := by rw [List.length_append, gridC_length, List.length_replicate]; omega
    have hset : ∀ c : SC, (gridC 1000 1 n i ++ List.replicate (n - i) SC.nil).set i c = gridC 1000 1 n i ++ c :: List.replicate (n - (i + 1)) SC.nil := fun c => by
      rw [rep_succ hg]; exact set_mid (gridC_length _ _ _ _)
    generalize gridC 1000 1 n i ++ List.replicate (n - i) SC.nil = cs at nr hlen hset ⊢
    refine AWP_skip ?_
    show AWP _ _ _ _ _ _
    refine AWP_seq ?_
    refine AWP_block ?_
    refine AWP_reg_seq tok fun K hK => ?_
    refine s_move rfl rfl rfl ?_
    refine s_assign rfl rfl rfl ?_
    refine s_end (hK _ ?_); clear hK K
    refine AWP_reg tok fun K hK => ?_
    refine s_move rfl rfl rfl ?_
    refine s_move rfl rfl rfl ?_
    refine s_move rfl rfl rfl ?_
    refine s_makeSlice (sz := _) (es := _) (f := _) (v := _) rfl (mk_N (l := n) rfl rfl rfl rfl rfl (Nat.le_of_ble_eq_true rfl) rfl rfl (by omega)) (nr_grid rfl rfl (nr 26 (by decide))) rfl ?_
    refine s_indexAddr rfl (x_o (i := i) (j := i) rfl rfl rfl rfl rfl hg (Nat.zero_add _)) rfl ?_
    refine s_storeB rfl (st_box rfl rfl rfl hlen) rfl rfl rfl ?_
    refine s_end (hK _ ?_); clear hK K
    show AWP _ _ _ _ _ _
    refine AWP_reg tok fun K hK => ?_
    refine s_bin rfl (e_add (c := ((i + 1 : Nat) : Int)) (by omega) (by omega)) rfl ?_
    refine s_move rfl rfl rfl ?_
    refine s_end (hK _ ?_); clear hK K
    rw [hset]
    refine ⟨i + 1, by omega, hg, Wk.trans (Wk.rbE (rb' := [17]) rfl) (Wk.gpush (d := 26) (gid := 17) (S1 := [(1, some (.box g.cs))]) ⟨rfl, rfl, rfl, rfl, rfl, trivial⟩ rfl ?_ ⟨rfl, trivial⟩ rfl (by decide) (by decide) (by decide) rfl rfl rfl ?_ ?_ (fun a _ => by split <;> rfl))⟩
    · simp only [List.all_cons, List.all_nil, SV.noRef, VV.noRef, SC.noRef, Bool.and_true, Bool.true_and, bne_iff_ne, ne_eq, Bool.and_eq_true]; omega
    · rw [rowI_zero, List.map_replicate]; rfl
    · intro q hq
      rw [so_cons, if_neg (by omega), so_cons, if_neg (by omega), so_hi rfl hq]
  have hg : n = i := by simp at hg; omega
  subst hg
  rw [Nat.sub_self, List.replicate_zero, List.append_nil]
  refine AWP_exit ?_
  show AWP _ _ _ _ _ _
  refine AWP_seq ?_
  refine AWP_reg_seq tok fun K hK => ?_
  refine s_fieldAddr rfl rfl rfl ?_
  refine s_load rfl rfl rfl ?_
  refine s_blt rfl (len_m LK.dc rfl rfl) rfl ?_
  refine s_move rfl rfl rfl ?_
  refine s_end (hK _ ?_); clear hK K
  have bnd : ∀ k, k ≤ g.links.length → ∀ a b, -67108864 ≤ lapM (g.links.take k) a b ∧ lapM (g.links.take k) a b ≤ 67108864 := fun k hk a b => by
    have := lapM_le (n := n) (g.links.take k) (fun l hl => linkB_iff.1 (hn ▸ gv.lk l (List.mem_of_mem_take hl))) a b
    rw [List.length_take] at this
    omega
  refine AWP_block (a_loop (α := Nat) (fun k => mk 118 [(3, dI n), (4, .val (.one (.own 17 1 0 n))), (30, V1 (dLs g.links)), (31, dI g.links.length), (32, dI k)] ([(17, some (.box (gridC 1000 1 n n))), (1, some (.box g.cs))] ++ rowsO 1000 1 n (fun a => rowI n (lapM (g.links.take k) a))) [17]) (fun k => k ≤ g.links.length) (fun k => g.links.length - k) 0 ?_ (Nat.zero_le _) ?_)
  · exact Wk.gkeep ⟨rfl, rfl, rfl, rfl, rfl, trivial⟩ ⟨rfl, rfl, trivial⟩ rfl (fun q hq => so_hi rfl hq)
  intro k hk
  refine AWP_reg_seq tok fun K hK => ?_
  refine s_bin rfl rfl rfl ?_
  refine s_end (hK _ ?_); clear hK K
  refine AWP_seq ?_
  refine a_cond rfl (fun hg => ?_) (fun hg => ?_)
  · have hg : k < g.links.length := by simp at hg; omega
    obtain ⟨l, hl⟩ : ∃ l, l = g.links[k] := ⟨_, rfl⟩
    have lv := linkB_iff.1 (gv.lk l (hl ▸ List.getElem_mem hg))
    rw [← hn] at lv
    obtain ⟨i, j, hi, hj, e1, e2, hne⟩ := lv.lt
    have hsn := lapM_snoc hg
    rw [← hl, e1, e2, Int.toNat_natCast, Int.toNat_natCast] at hsn
    have hb0 := bnd k hk
    have hw := lv.w
    generalize lapM (g.links.take k) = M at hsn hb0 ⊢
    have hb : ∀ a b, -100000000 ≤ M a b ∧ M a b ≤ 100000000 := fun a b => by have := hb0 a b; omega
    have b1 := hb i i
    obtain ⟨M1, hM1⟩ : ∃ M1, M1 = updM M i i (M i i + l.w) := ⟨_, rfl⟩
    have hb1 : ∀ a b, -200000000 ≤ M1 a b ∧ M1 a b ≤ 200000000 := hM1 ▸ updM_le (fun a b => by have := hb a b; omega) (by omega)
    have b2 := hb1 j j
    obtain ⟨M2, hM2⟩ : ∃ M2, M2 = updM M1 j j (M1 j j + l.w) := ⟨_, rfl⟩
    have hb2 : ∀ a b, -300000000 ≤ M2 a b ∧ M2 a b ≤ 300000000 := hM2 ▸ updM_le (fun a b => by have := hb1 a b; omega) (by omega)
    have b3 := hb2 i j
    obtain ⟨M3, hM3⟩ : ∃ M3, M3 = updM M2 i j (M2 i j - l.w) := ⟨_, rfl⟩
    have hb3 : ∀ a b, -400000000 ≤ M3 a b ∧ M3 a b ≤ 400000000 := hM3 ▸ updM_le (fun a b => by have := hb2 a b; omega) (by omega)
    obtain ⟨M4, hM4⟩ : ∃ M4, M4 = updM M3 j i (M3 j i - l.w) := ⟨_, rfl⟩
    have hfin : lapM (g.links.take (k + 1)) = M4 := by rw [hsn, hM4, hM3, hM2, hM1]; rfl
    refine AWP_skip ?_
    show AWP _ _ _ _ _ _
    refine AWP_seq ?_
    refine AWP_block ?_
    refine AWP_reg_seq tok fun K hK => ?_
    refine s_indexAddr rfl (x_m LK.dc rfl rfl rfl rfl hg rfl) rfl ?_
    refine s_load rfl rfl rfl ?_
    refine s_alloc rfl rfl rfl rfl rfl (nr_grid rfl rfl (gridC_noRef (Or.inl (by decide)))) ?_
    refine s_store rfl rfl rfl rfl rfl ?_
    refine s_end (hK _ ?_); clear hK K
    rw [← hl]
    refine AWP_wk (Wk.gkeep (B := 1000) (S0 := [(7, some (.box l.cs)), (17, some (.box (gridC 1000 1 n n))), (1, some (.box g.cs))]) (E' := [(3, dI n), (4, .val (.one (.own 17 1 0 n))), (7, .ptr 7 0), (30, V1 (dLs g.links)), (31, dI g.links.length), (32, dI k)]) ⟨rfl, rfl, rfl, rfl, rfl, rfl, trivial⟩ ⟨rfl, rfl, rfl, trivial⟩ rfl (fun q hq => by rw [so_cons, if_neg (by omega), so_cons, if_neg (by omega), so_hi rfl hq])) ?_
    have q11 := hb i i
    refine a_draw tok mixed (A := [[], [], [], [1], [0, 1, 2], [], [], [0, 1, 2, 3, 5], [0, 1, 2, 3, 4, 5, 6], [], [], [0, 1, 2, 3, 4, 5, 6, 7, 9], [], []]) (an := [{}, {}, {}, {}, {}, {}, {}, {}, {}, {}, {}, {}, {}, {}]) rfl (by kernel_rfl) rfl fun K hK => ?_
    refine s_move rfl rfl rfl ?_
    refine s_fieldAddr rfl rfl rfl ?_
    refine s_load rfl rfl rfl ?_
    refine s_indexAddr rfl (x_o (i := i) (j := i) rfl rfl rfl rfl e1 hi (Nat.zero_add _)) rfl ?_
    refine s_load rfl (l_box rfl rfl rfl rfl (gridC_get hi)) rfl ?_
    refine s_fieldAddr rfl rfl rfl ?_
    refine s_load rfl rfl rfl ?_
    refine s_indexAddr rfl (x_o (i := i) (j := i) rfl rfl rfl rfl e1 hi (Nat.zero_add _)) rfl ?_
    refine s_load rfl (l_o rfl (so_row rfl hi) (rowI_get hi) rfl rfl) rfl ?_
    refine s_fieldAddr rfl rfl rfl ?_
    refine s_load rfl rfl rfl ?_
    refine s_bin rfl (e_add rfl (by omega)) rfl ?_
    refine s_indexAddr rfl (x_o (i := i) (j := i) rfl rfl rfl rfl e1 hi (Nat.zero_add _)) rfl ?_
    refine s_store rfl (st_I rfl rfl (so_row rfl hi) hi) rfl rfl rfl ?_
    refine s_end (hK _ ?_); clear hK K
    refine AWP_wk (Wk.gset (B := 1000) (S0 := [(7, some (.box l.cs)), (17, some (.box (gridC 1000 1 n n))), (1, some (.box g.cs))]) (E' := [(3, dI n), (4, .val (.one (.own 17 1 0 n))), (7, .ptr 7 0), (30, V1 (dLs g.links)), (31, dI g.links.length), (32, dI k)]) (R' := fun a => rowI n (M1 a)) ⟨rfl, rfl, rfl, rfl, rfl, rfl, trivial⟩ rfl hi (fun a _ => by rw [hM1]; exact rowI_updM a)) ?_
    have q12 := hb1 j j
    refine a_draw tok mixed (A := [[], [], [], [1], [0, 1, 2], [], [], [0, 1, 2, 3, 5], [0, 1, 2, 3, 4, 5, 6], [], [], [0, 1, 2, 3, 4, 5, 6, 7, 9], [], []]) (an := [{}, {}, {}, {}, {}, {}, {}, {}, {}, {}, {}, {}, {}, {}]) rfl (by kernel_rfl) rfl fun K hK => ?_
    refine s_move rfl rfl rfl ?_
    refine s_fieldAddr rfl rfl rfl ?_
    refine s_load rfl rfl rfl ?_
    refine s_indexAddr rfl (x_o (i := j) (j := j) rfl rfl rfl rfl e2 hj (Nat.zero_add _)) rfl ?_
    refine s_load rfl (l_box rfl rfl rfl rfl (gridC_get hj)) rfl ?_
    refine s_fieldAddr rfl rfl rfl ?_
    refine s_load rfl rfl rfl ?_
    refine s_indexAddr rfl (x_o (i := j) (j := j) rfl rfl rfl rfl e2 hj (Nat.zero_add _)) rfl ?_
    refine s_load rfl (l_o rfl (so_row rfl hj) (rowI_get hj) rfl rfl) rfl ?_
    refine s_fieldAddr rfl rfl rfl ?_
    refine s_load rfl rfl rfl ?_
    refine s_bin rfl (e_add rfl (by omega)) rfl ?_
    refine s_indexAddr rfl (x_o (i := j) (j := j) rfl rfl rfl rfl e2 hj (Nat.zero_add _)) rfl ?_
    refine s_store rfl (st_I rfl rfl (so_row rfl hj) hj) rfl rfl rfl ?_
    refine s_end (hK _ ?_); clear hK K
    refine AWP_wk (Wk.gset (B := 1000) (S0 := [(7, some (.box l.cs)), (17, some (.box (gridC 1000 1 n n))), (1, some (.box g.cs))]) (E' := [(3, dI n), (4, .val (.one (.own 17 1 0 n))), (7, .ptr 7 0), (30, V1 (dLs g.links)), (31, dI g.links.length), (32, dI k)]) (R' := fun a => rowI n (M2 a)) ⟨rfl, rfl, rfl, rfl, rfl, rfl, trivial⟩ rfl hj (fun a _ => by rw [hM2]; exact rowI_updM a)) ?_
    have q13 := hb2 i j
    refine a_draw tok mixed (A := [[], [], [], [1], [0, 1, 2], [], [], [0, 1, 2, 3, 5], [0, 1, 2, 3, 4, 5, 6], [], [], [0, 1, 2, 3, 4, 5, 6, 7, 9], [], []]) (an := [{}, {}, {}, {}, {}, {}, {}, {}, {}, {}, {}, {}, {}, {}]) rfl (by kernel_rfl) rfl fun K hK => ?_
    refine s_move rfl rfl rfl ?_
    refine s_fieldAddr rfl rfl rfl ?_
    refine s_load rfl rfl rfl ?_
    refine s_indexAddr rfl (x_o (i := i) (j := i) rfl rfl rfl rfl e1 hi (Nat.zero_add _)) rfl ?_
    refine s_load rfl (l_box rfl rfl rfl rfl (gridC_get hi)) rfl ?_
    refine s_fieldAddr rfl rfl rfl ?_
    refine s_load rfl rfl rfl ?_
    refine s_indexAddr rfl (x_o (i := j) (j := j) rfl rfl rfl rfl e2 hj (Nat.zero_add _)) rfl ?_
    refine s_load rfl (l_o rfl (so_row rfl hi) (rowI_get hj) rfl rfl) rfl ?_
    refine s_fieldAddr rfl rfl rfl ?_
    refine s_load rfl rfl rfl ?_
    refine s_bin rfl (e_sub rfl (by omega)) rfl ?_
    refine s_indexAddr rfl (x_o (i := j) (j := j) rfl rfl rfl rfl e2 hj (Nat.zero_add _)) rfl ?_
    refine s_store rfl (st_I rfl rfl (so_row rfl hi) hj) rfl rfl rfl ?_
    refine s_end (hK _ ?_); clear hK K
    refine AWP_wk (Wk.gset (B := 1000) (S0 := [(7, some (.box l.cs)), (17, some (.box (gridC 1000 1 n n))), (1, some (.box g.cs))]) (E' := [(3, dI n), (4, .val (.one (.own 17 1 0 n))), (7, .ptr 7 0), (30, V1 (dLs g.links)), (31, dI g.links.length), (32, dI k)]) (R' := fun a => rowI n (M3 a)) ⟨rfl, rfl, rfl, rfl, rfl, rfl, trivial⟩ rfl hi (fun a _ => by rw [hM3]; exact rowI_updM a)) ?_
    have q14 := hb3 j i
    refine a_draw1 tok mixed (A := [[], [], [], [1], [0, 1, 2], [], [], [0, 1, 2, 3, 5], [0, 1, 2, 3, 4, 5, 6], [], [], [0, 1, 2, 3, 4, 5, 6, 7, 9], [], []]) (an := [{}, {}, {}, {}, {}, {}, {}, {}, {}, {}, {}, {}, {}, {}]) rfl (by kernel_rfl) rfl fun K hK => ?_
    refine s_move rfl rfl rfl ?_
    refine s_fieldAddr rfl rfl rfl ?_
    refine s_load rfl rfl rfl ?_
    refine s_indexAddr rfl (x_o (i := j) (j := j) rfl rfl rfl rfl e2 hj (Nat.zero_add _)) rfl ?_
    refine s_load rfl (l_box rfl rfl rfl rfl (gridC_get hj)) rfl ?_
    refine s_fieldAddr rfl rfl rfl ?_
    refine s_load rfl rfl rfl ?_
    refine s_indexAddr rfl (x_o (i := i) (j := i) rfl rfl rfl rfl e1 hi (Nat.zero_add _)) rfl ?_
    refine s_load rfl (l_o rfl (so_row rfl hj) (rowI_get hi) rfl rfl) rfl ?_
    refine s_fieldAddr rfl rfl rfl ?_
    refine s_load rfl rfl rfl ?_
    refine s_bin rfl (e_sub rfl (by omega)) rfl ?_
    refine s_indexAddr rfl (x_o (i := i) (j := i) rfl rfl rfl rfl e1 hi (Nat.zero_add _)) rfl ?_
    refine s_store rfl (st_I rfl rfl (so_row rfl hj) hi) rfl rfl rfl ?_
    refine s_end (hK _ ?_); clear hK K
    refine AWP_wk (Wk.gset (B := 1000) (S0 := [(7, some (.box l.cs)), (17, some (.box (gridC 1000 1 n n))), (1, some (.box g.cs))]) (E' := [(3, dI n), (4, .val (.one (.own 17 1 0 n))), (7, .ptr 7 0), (30, V1 (dLs g.links)), (31, dI g.links.length), (32, dI k)]) (R' := fun a => rowI n (M4 a)) ⟨rfl, rfl, rfl, rfl, rfl, rfl, trivial⟩ rfl hj (fun a _ => by rw [hM4]; exact rowI_updM a)) ?_
    show AWP _ _ _ _ _ _
    refine AWP_reg tok fun K hK => ?_
    refine s_bin rfl (e_add (c := ((k + 1 : Nat) : Int)) (by omega) (by omega)) rfl ?_
    refine s_move rfl rfl rfl ?_
    refine s_end (hK _ ?_); clear hK K
    refine ⟨k + 1, by omega, hg, ?_⟩
    rw [hfin]
    exact Wk.gkeep (B := 1000) ⟨rfl, rfl, rfl, rfl, rfl, trivial⟩ ⟨rfl, rfl, trivial⟩ rfl (fun q hq => so_hi rfl hq)
  have hg : k = g.links.length := by simp at hg; omega
  subst hg
  have hb := bnd _ hk
  rw [List.take_length] at hb ⊢
  generalize lapM g.links = M at hb ⊢
  refine AWP_exit ?_
  show AWP _ _ _ _ _ _
  refine AWP_wk (Wk.gkeep (B := 1000) (E' := [(3, dI n), (4, .val (.one (.own 17 1 0 n)))]) (S0 := (17, some (.box (gridC 1000 1 n n))) :: []) ⟨rfl, rfl, trivial⟩ ⟨rfl, trivial⟩ rfl (fun q hq => so_hi rfl hq)) ?_
  refine AWP_wk (Wk.gfreeze (fun i hi => ?_) rfl (by decide) (fun i hi => rfl) (fun i hi => rowI_length n (M i))) ?_
  · simp only [List.all_cons, List.all_nil, SV.noRef, VV.noRef, SC.noRef, Bool.and_true, Bool.true_and, bne_iff_ne, ne_eq]; omega
  refine AWP_wk (Wk.toArr (gid := 17) (E' := [(3, dI n), (4, .val (.one (.own 17 1 0 n)))]) (S1 := []) (l := (List.range n).map fun i => .sl (rowI n (M i))) ⟨rfl, rfl, trivial⟩ (by rw [List.map_map]; rfl) trivial rfl) ?_
  refine AWP_wk (Wk.rbA (id := 17) rfl) ?_
  refine a_fz [3, 4] [17] 17 [(3, dI n), (4, V1 (.sl (((List.range n).map fun i => DC.sl (rowI n (M i))).map fun c => [c])))] [] rfl ?_ trivial ?_
  · exact ⟨rfl, frz_own rfl (by simp), trivial⟩
  refine AWP_reg_seq tok fun K hK => ?_
  refine s_move rfl rfl rfl ?_
  refine s_makeBox (f := _) (v := _) rfl (mk_box (l := n) rfl rfl rfl rfl rfl (Nat.le_of_ble_eq_true rfl) rfl rfl (by omega)) rfl rfl ?_
  refine s_assign rfl rfl rfl ?_
  refine s_end (hK _ ?_); clear hK K
  refine AWP_seq ?_
  refine AWP_reg_seq tok fun K hK => ?_
  refine s_move rfl rfl rfl ?_
  refine s_blt rfl (len_d (n := n) rfl rfl (by simp)) rfl ?_
  refine s_move rfl rfl rfl ?_
  refine s_end (hK _ ?_); clear hK K
  obtain ⟨F, hF⟩ : ∃ F : Nat → DC, F = fun i => dRs (lapR n M i) := ⟨_, rfl⟩
  refine AWP_block (a_loop (α := Nat) (fun i => mk 118 [(8, .val (.one (.own 90 1 0 n))), (91, V1 (.sl (((List.range n).map fun i => DC.sl (rowI n (M i))).map fun c => [c]))), (92, dI n), (93, dI i)] [(90, some (.box (outN F n i)))] [90]) (fun i => i ≤ n) (fun i => n - i) 0 ?_ (Nat.zero_le _) ?_)
  · refine Wk.trans ?_ (Wk.rbE (rb := []) rfl)
    exact Wk.mk' ⟨rfl, rfl, rfl, rfl, trivial⟩ ⟨rfl, trivial⟩
  intro i hi
  refine AWP_reg_seq tok fun K hK => ?_
  refine s_bin rfl rfl rfl ?_
  refine s_end (hK _ ?_); clear hK K
  refine AWP_seq ?_
  refine a_cond rfl (fun hg => ?_) (fun hg => ?_)
  · have hg : i < n := by simp at hg; omega
    have hget : (((List.range n).map fun i => DC.sl (rowI n (M i))).map fun c => [c])[i]? = some [.sl (rowI n (M i))] := by simp [hg]
    refine AWP_skip ?_
    show AWP _ _ _ _ _ _
    refine AWP_seq ?_
    refine AWP_block ?_
    refine AWP_reg_seq tok fun K hK => ?_
    refine s_move rfl rfl rfl ?_
    refine s_indexAddr rfl (x_d rfl rfl rfl rfl hget rfl) rfl ?_
    refine s_load rfl rfl rfl ?_
    refine s_assign rfl rfl rfl ?_
    refine s_assign rfl rfl rfl ?_
    refine s_end (hK _ ?_); clear hK K
    refine AWP_reg_seq tok fun K hK => ?_
    refine s_move rfl rfl rfl ?_
    refine s_blt rfl (len_d rfl rfl (rowI_length n (M i))) rfl ?_
    refine s_move rfl rfl rfl ?_
    refine s_end (hK _ ?_); clear hK K
    rw [outN_C hg]
    refine AWP_block (a_loop (α := Nat) (fun j => mk 118 [(8, .val (.one (.own 90 1 0 n))), (9, dI i), (91, V1 (.sl (((List.range n).map fun i => DC.sl (rowI n (M i))).map fun c => [c]))), (92, dI n), (93, dI i), (98, V1 (.sl (rowI n (M i)))), (99, dI n), (100, dI j)] [(90, some (.box (outC F n i (ownC 105 4 j)))), (105, arrN 4 (((List.range j).map fun j => qzW (M i j : Int)).map RW.dc) j)] [90]) (fun j => j ≤ n) (fun j => n - j) 0 ?_ (Nat.zero_le _) ?_)
    · exact Wk.mk' ⟨rfl, rfl, rfl, rfl, rfl, rfl, rfl, rfl, trivial⟩ ⟨rfl, rfl, trivial⟩
    intro j hj
    refine AWP_reg_seq tok fun K hK => ?_
    refine s_bin rfl rfl rfl ?_
    refine s_end (hK _ ?_); clear hK K
    refine AWP_seq ?_
    refine a_cond rfl (fun hf => ?_) (fun hf => ?_)
    · have hf : j < n := by simp at hf; omega
      have hgj := rowI_get (r := M i) hf
      have bj := hb i j
      have cq := qOfI_c (M i j) ⟨by omega, by omega⟩
      have n1 : ((List.range j).map fun j => qzW (M i j : Int)).map RW.dc ++ [(qzW (M i j : Int)).dc] = ((List.range (j + 1)).map fun j => qzW (M i j : Int)).map RW.dc := by
        rw [List.range_succ, List.map_append, List.map_append]; rfl
      have z1 : (((List.range j).map fun j => qzW (M i j : Int)).map RW.dc).length = j := by simp
      generalize ((List.range j).map fun j => qzW (M i j : Int)).map RW.dc = es at n1 z1 ⊢
      refine AWP_skip ?_
      show AWP _ _ _ _ _ _
      refine AWP_seq ?_
      refine AWP_block ?_
      refine AWP_reg_seq tok fun K hK => ?_
      refine s_indexAddr rfl (x_d rfl rfl rfl rfl hgj rfl) rfl ?_
      refine s_load rfl rfl rfl ?_
      refine s_assign rfl rfl rfl ?_
      refine s_end (hK _ ?_); clear hK K
      generalize M i j = x at cq n1 ⊢
      rcases j with _ | j
      · refine a_draw1 tok mixed (A := [[], [], [], [], [], [2, 3], [], [], [6], [2, 3, 4, 6], [], []]) (an := [{}, {}, {}, {}, {}, {}, {}, {}, {}, {}, {}, {}]) rfl (by kernel_rfl) rfl fun K hK => ?_
        refine s_move rfl rfl rfl ?_
        refine s_move rfl rfl rfl ?_
        refine s_move rfl rfl rfl ?_
        refine s_move rfl rfl rfl ?_
        refine s_indexAddr rfl (x_o (i := i) (j := i) rfl rfl rfl rfl rfl hg (Nat.zero_add _)) rfl ?_
        refine s_load rfl (l_box rfl rfl rfl rfl outC_get) rfl ?_
        refine s_move rfl rfl rfl ?_
        refine s_call rfl rfl (cq) rfl rfl rfl rfl ?_
        refine s_buildSlice rfl rfl (nr_grid rfl rfl (outC_noRef rfl)) rfl ?_
        refine s_append rfl (ap_nil rfl rfl rfl rfl rfl (by decide) (Nat.le_of_ble_eq_true rfl) rfl (by simp) rfl (by simp) (by simp)) (nr_grid rfl rfl (outC_noRef rfl)) rfl ?_
        refine s_indexAddr rfl (x_o (i := i) (j := i) rfl rfl rfl rfl rfl hg (Nat.zero_add _)) rfl ?_
        refine s_storeB rfl (st_box rfl rfl rfl (by rw [outC_length hg]; exact hg)) rfl rfl rfl ?_
        refine s_end (hK _ ?_); clear hK K
        rw [outC_set]
        show AWP _ _ _ _ _ _
        refine AWP_reg tok fun K hK => ?_
        refine s_bin rfl (e_add (c := ((0 + 1 : Nat) : Int)) (by omega) (by omega)) rfl ?_
        refine s_move rfl rfl rfl ?_
        refine s_end (hK _ ?_); clear hK K
        refine ⟨0 + 1, by omega, hf, Wk.trans (Wk.rbE (rb' := [90]) rfl) (Wk.rnB [8, 9, 91, 92, 93, 98, 99, 100] [90, 113] 113 105 rfl rfl (nr_grid rfl rfl (outC_noRef rfl)) ⟨rfl, rfl, rfl, rfl, rfl, rfl, rfl, rfl, trivial⟩ ⟨?_, ?_, trivial⟩ rfl)⟩
        · show some (OO.box ((outC F n i (.own 113 4 0 _)).map (renC 113 105))) = _
          rw [outC_ren]
          first
            | rfl
            | (rw [List.length_append, z1]; rfl)
        · first
            | (rw [← n1, List.length_eq_zero_iff.1 z1]; rfl)
            | (rw [← n1]; rfl)
      · refine a_draw1 tok mixed (A := [[], [], [], [], [], [2, 3], [], [], [6], [2, 3, 4, 6], [], []]) (an := [{}, {}, {}, {}, {}, {}, {}, {}, {}, {}, {}, {}]) rfl (by kernel_rfl) rfl fun K hK => ?_
        refine s_move rfl rfl rfl ?_
        refine s_move rfl rfl rfl ?_
        refine s_move rfl rfl rfl ?_
        refine s_move rfl rfl rfl ?_
        refine s_indexAddr rfl (x_o (i := i) (j := i) rfl rfl rfl rfl rfl hg (Nat.zero_add _)) rfl ?_
        refine s_load rfl (l_box rfl rfl rfl rfl outC_get) rfl ?_
        refine s_move rfl rfl rfl ?_
        refine s_call rfl rfl (cq) rfl rfl rfl rfl ?_
        refine s_buildSlice rfl rfl (nr_grid rfl rfl (outC_noRef rfl)) rfl ?_
        refine s_append rfl (ap_o rfl rfl rfl rfl rfl rfl (by decide) (Nat.le_of_ble_eq_true rfl) rfl (by simp) rfl rfl z1.symm (by simp <;> omega)) (nr_grid rfl rfl (outC_noRef rfl)) rfl ?_
        refine s_indexAddr rfl (x_o (i := i) (j := i) rfl rfl rfl rfl rfl hg (Nat.zero_add _)) rfl ?_
        refine s_storeB rfl (st_box rfl rfl rfl (by rw [outC_length hg]; exact hg)) rfl rfl rfl ?_
        refine s_end (hK _ ?_); clear hK K
        rw [outC_set]
        show AWP _ _ _ _ _ _
        refine AWP_reg tok fun K hK => ?_
        refine s_bin rfl (e_add (c := ((j + 1 + 1 : Nat) : Int)) (by omega) (by omega)) rfl ?_
        refine s_move rfl rfl rfl ?_
        refine s_end (hK _ ?_); clear hK K
        refine ⟨j + 1 + 1, by omega, hf, Wk.trans (Wk.rbE (rb' := [90]) rfl) (Wk.rnB [8, 9, 91, 92, 93, 98, 99, 100] [90, 113] 113 105 rfl rfl (nr_grid rfl rfl (outC_noRef rfl)) ⟨rfl, rfl, rfl, rfl, rfl, rfl, rfl, rfl, trivial⟩ ⟨?_, ?_, trivial⟩ rfl)⟩
        · show some (OO.box ((outC F n i (.own 113 4 0 _)).map (renC 113 105))) = _
          rw [outC_ren]
          first
            | rfl
            | (rw [List.length_append, z1]; rfl)
        · first
            | (rw [← n1, List.length_eq_zero_iff.1 z1]; rfl)
            | (rw [← n1]; rfl)
    have hf : j = n := by simp at hf; omega
    subst hf
    refine AWP_exit ?_
    show AWP _ _ _ _ _ _
    obtain ⟨m, rfl⟩ : ∃ m, j = m + 1 := ⟨j - 1, by omega⟩
    refine a_fz [8, 91, 92, 93] [90, 105] 105 [(8, .val (.one (.own 90 1 0 (m + 1)))), (91, V1 (.sl (((List.range (m + 1)).map fun i => DC.sl (rowI (m + 1) (M i))).map fun c => [c]))), (92, dI (m + 1 : Nat)), (93, dI i)] [(90, some (.box (outN F (m + 1) (i + 1))))] rfl ⟨rfl, rfl, rfl, rfl, trivial⟩ ⟨?_, trivial⟩ ?_
    · show some (OO.box ((outC F (m + 1) i (.own 105 4 0 (m + 1))).map (frzC 105 4 _))) = _
      have hz : m + 1 = (((List.range (m + 1)).map fun j => qzW (M i j : Int)).map RW.dc).length := by simp
      rw [← outC_N]
      have : outC F (m + 1) i (.own 105 4 0 (m + 1)) = outC F (m + 1) i (.own 105 4 0 (((List.range (m + 1)).map fun j => qzW (M i j : Int)).map RW.dc).length) := by rw [← hz]
      rw [this, outC_frz, hF]; rfl
    refine AWP_reg tok fun K hK => ?_
    refine s_bin rfl (e_add (c := ((i + 1 : Nat) : Int)) (by omega) (by omega)) rfl ?_
    refine s_move rfl rfl rfl ?_
    refine s_end (hK _ ?_); clear hK K
    exact ⟨i + 1, by omega, hg, Wk.mk' ⟨rfl, rfl, rfl, rfl, trivial⟩ ⟨rfl, trivial⟩⟩
  have hg : n = i := by simp at hg; omega
  subst hg
  rw [outN_all]
  refine AWP_exit ?_
  show AWP _ _ _ _ _ _
  refine AWP_wk (Wk.toArr (gid := 90) (E' := [(8, .val (.one (.own 90 1 0 n)))]) (S1 := []) (l := (List.range n).map F) ⟨rfl, trivial⟩ rfl trivial rfl) ?_
  refine AWP_wk (Wk.rbA (id := 90) rfl) ?_
  refine a_fz [8] [90] 90 [(8, V1 (dMs (lapQ n M)))] [] rfl ?_ trivial ?_
  · refine ⟨?_, trivial⟩
    have : ((List.range n).map F).map (fun c => [c]) = (lapQ n M).map cM := by rw [lapQ, List.map_map, List.map_map, hF]; rfl
    rw [dMs, ← this]
    exact frz_own rfl (by simp)
  refine AWP_reg_seq tok fun K hK => ?_
  refine s_move rfl rfl rfl ?_
  refine s_assign rfl rfl rfl ?_
  refine s_end (hK _ ?_); clear hK K
  refine AWP_ret ?_
  repeat (with_reducible refine tq_ret ?_)
  exact post_ret (fin_mk (by rfl) (by rfl) (by rfl))
end Go.Proofs.YtcafppnjemgkiaaGreat

/- The normal equations. No condition. -/
namespace Go.Proofs.YtcafppnjemgkiaaGreat
attribute [local irreducible] lexA

def updF (X : Nat → Rat) (a : Nat) (x : Rat) : Nat → Rat := fun i => if i = a then x else X i
/-- Positions by number. -/
def spI (n : Nat) (X Y : Nat → Rat) : List (List DC) := (List.range n).map fun i => (szW (X i) (Y i)).dc
theorem spI_length (n : Nat) (X Y : Nat → Rat) : (spI n X Y).length = n := by simp [spI]
theorem spI_get {n i : Nat} {X Y : Nat → Rat} (h : i < n) : (spI n X Y)[i]? = some (szW (X i) (Y i)).dc := by simp [spI, h]
theorem spI_set {n i : Nat} {X Y : Nat → Rat} {x y : Rat} : (spI n X Y).set i (szW x y).dc = spI n (updF X i x) (updF Y i y) := by
  apply List.ext_getElem?
  intro k
  rw [List.getElem?_set]
  by_cases hk : i = k
  · subst hk
    rw [if_pos rfl, spI_length]
    by_cases hn : i < n
    · rw [if_pos hn, spI_get hn]; simp [updF]
    · rw [if_neg hn, List.getElem?_eq_none (by rw [spI_length]; omega)]
  · rw [if_neg hk]
    rcases Nat.lt_or_ge k n with hn | hn
    · rw [spI_get hn, spI_get hn]; simp [updF, Ne.symm hk]
    · rw [List.getElem?_eq_none (by rw [spI_length]; omega), List.getElem?_eq_none (by rw [spI_length]; omega)]
/-- A link's share of the right sides. -/
def nrS (g : GR) (p : (Nat → Rat) × (Nat → Rat)) (l : LK) : (Nat → Rat) × (Nat → Rat) :=
  let f := l.f.toNat; let t := l.t.toNat; let r := frN g l
  let X := updF p.1 t (p.1 t + alX r l * l.w); let Y := updF p.2 t (p.2 t + alY r l * l.w)
  (updF X f (X f + alX r l * (-l.w : Int)), updF Y f (Y f + alY r l * (-l.w : Int)))
def nrL (g : GR) (ls : List LK) : (Nat → Rat) × (Nat → Rat) := ls.foldl (nrS g) (fun _ => 0, fun _ => 0)
theorem nrL_snoc (g : GR) {ls : List LK} {i : Nat} (hi : i < ls.length) : nrL g (ls.take (i + 1)) = nrS g (nrL g (ls.take i)) ls[i] := by
  rw [List.take_succ_eq_append_getElem hi, nrL, List.foldl_append]; rfl
def nrM (n : Nat) (M : Nat → Nat → Int) (k : Nat) : List (List RW) := (List.range k).map fun i => (lapR n M (i + 1)).drop 1
def nrX (X : Nat → Rat) (k : Nat) : List RW := (List.range k).map fun i => qzW (X (i + 1))
/-- What Normal answers. -/
def nrV (g : GR) : List (List RW) × List RW × List RW × Int :=
  if validB g then (nrM g.nodes.length (lapM g.links) (g.nodes.length - 1), nrX (nrL g g.links).1 (g.nodes.length - 1), nrX (nrL g g.links).2 (g.nodes.length - 1), 0) else ([], [], [], 1)
theorem ql_updF {X : Nat → Rat} {a c : Nat} {x : Rat} (h : ∀ i, ql (X i) ≤ c) (hx : ql x ≤ c) (i : Nat) : ql (updF X a x i) ≤ c := by
  simp only [updF]; split
  · exact hx
  · exact h i
theorem ql_zero : ql (0 : Rat) ≤ 1 := by decide
theorem nrL_le {g : GR} (gv : GV g) (ok : ∀ r ∈ g.nodes, r.OK 4096) (k : Nat) (hk : k ≤ g.links.length) (i : Nat) : ql ((nrL g (g.links.take k)).1 i) ≤ 1 + k * 32800 ∧ ql ((nrL g (g.links.take k)).2 i) ≤ 1 + k * 32800 := by
  induction k generalizing i with
  | zero => exact ⟨ql_zero, ql_zero⟩
  | succ k ih =>
    have ih := ih (by omega)
    have hm : g.links[k] ∈ g.links := List.getElem_mem (by omega)
    have lv := linkB_iff.1 (gv.lk _ hm)
    have o := alS_ok (ok _ (frN_mem lv)) rfl lv.ix lv.iy (m := 16391) rfl
    have o1 := o.qx rfl
    have o2 := o.qy rfl
    rw [alS, szW_vx] at o1
    rw [alS, szW_vy] at o2
    have w1 := ql_i64 lv.iw
    have lw := lv.w
    have w2 := ql_i64 (n := -g.links[k].w) ⟨by omega, by omega⟩
    rw [nrL_snoc g (by omega)]
    simp only [nrS]
    have a1 : ∀ i, ql (updF (nrL g (g.links.take k)).1 g.links[k].t.toNat ((nrL g (g.links.take k)).1 g.links[k].t.toNat + alX (frN g g.links[k]) g.links[k] * g.links[k].w) i) ≤ 1 + k * 32800 + 16394 :=
      ql_updF (fun i => Nat.le_trans (ih i).1 (by omega)) (Nat.le_trans (ql_add_le (ih _).1 (ql_mul_le o1 w1)) (by omega))
    have a2 : ∀ i, ql (updF (nrL g (g.links.take k)).2 g.links[k].t.toNat ((nrL g (g.links.take k)).2 g.links[k].t.toNat + alY (frN g g.links[k]) g.links[k] * g.links[k].w) i) ≤ 1 + k * 32800 + 16394 :=
      ql_updF (fun i => Nat.le_trans (ih i).2 (by omega)) (Nat.le_trans (ql_add_le (ih _).2 (ql_mul_le o2 w1)) (by omega))
    constructor
    · exact ql_updF (fun i => Nat.le_trans (a1 i) (by omega)) (Nat.le_trans (ql_add_le (a1 _) (ql_mul_le o1 w2)) (by omega)) i
    · exact ql_updF (fun i => Nat.le_trans (a2 i) (by omega)) (Nat.le_trans (ql_add_le (a2 _) (ql_mul_le o2 w2)) (by omega)) i

theorem st_S {T : Tab} {t : TypeId} {ti : TI} {S : Objs} {rb : List Nat} {id i : Nat} {es : List (List DC)} {p : SP} (h1 : T t = some ti) (h4 : ti.size = 8) (hS : S id = some (.arr 8 es)) (hi : i < es.length) (hel : ∀ el ∈ es, el.length = 8) :
    effStore T ⟨[], S, rb⟩ t (.pe id 8 i 0) (AG p.cs) = .upd (updO S id (.arr 8 (es.set i p.dc))) rb :=
  st_o (ds := p.dc) h1 hS hi (fun el h => by rw [h4]; exact hel el (List.mem_of_getElem? h)) rfl (by rw [h4]; rfl) (by rw [h4]; rfl)
theorem sl_m {T : Tab} {t e : TypeId} {ti ei : TI} {α : Type} (f : α → List DC) {l : List α} {h : Int} (h1 : T t = some ti) (h2 : ti.und = .slice e) (h3 : T e = some ei) (hh : h = (l.length : Int)) (hl : 1 ≤ l.length) (hel : ∀ x, (f x).length = ei.size) :
    effSliceN T t (V1 (.sl (l.map f))) 1 h = .set (V1 (.sl ((l.drop 1).map f))) := by
  refine (sl_d (l := (1 : Int)) (lo := 1) (hi := l.length) h1 h2 h3 rfl hh hl (by simp) (fun e he => by obtain ⟨x, _, rfl⟩ := List.mem_map.1 he; exact hel x)).trans ?_
  rw [List.take_of_length_le (by simp), List.map_drop]
theorem l_of {T : Tab} {t : TypeId} {ti : TI} {S : Objs} {id sz i j : Nat} {es : List (List DC)} {el : List DC} {v : VV} (h1 : T t = some ti) (hS : S id = some (.arr sz es)) (hel : es[i]? = some el) (hs : Nat.ble (j + ti.size) el.length = true)
    (hv : mkVV ti.agg (((el.drop j).take ti.size).map .d) = some v) : effLoad T ⟨[], S, []⟩ t (.pe id sz i j) = .set (.val v) := by
  simp only [effLoad, h1, hS, if_true, hel, hv]
  rw [if_pos (Nat.le_of_ble_eq_true hs)]
theorem neg_I {x : Int} (h : -9223372036854775807 ≤ x ∧ x ≤ 9223372036854775807) : effUn .neg (dI x) = .set (dI (-x)) := by
  have : IntKind.i64.wrap (0 - x) = -x := by rw [IntWalk.i64_in _ (by omega)]; omega
  simp only [effUn, litOf, unA, this]; rfl

theorem gNormal_c (g : GR) (ok : ∀ r ∈ g.nodes, r.OK 4096) :
    Con Tryz.prog 16 [AG g.cs] { v := .tup [.one (.d (dMs (nrV g).1)), .one (.d (dRs (nrV g).2.1)), .one (.d (dRs (nrV g).2.2.1)), .one (.d (lI (nrV g).2.2.2))] } := by
  refine con_intro (fn := Tryz.f16) tok Tryz.func16 (by kernel_rfl) rfl ?_
  intro w0 X
  rw [entry_mkE _ _ [(0, AG g.cs)] rfl rfl]
  refine AWP_reg_seq tok fun K hK => ?_
  refine s_box rfl rfl rfl rfl rfl rfl ?_
  refine s_assign rfl rfl rfl ?_
  refine s_assign rfl rfl rfl ?_
  refine s_assign rfl rfl rfl ?_
  refine s_assign rfl rfl rfl ?_
  refine s_end (hK _ ?_); clear hK K
  refine AWP_seq ?_
  refine AWP_reg_seq tok fun K hK => ?_
  refine s_load rfl rfl rfl ?_
  refine s_call rfl rfl (gValid_c g) rfl rfl rfl rfl ?_
  refine s_un rfl rfl rfl ?_
  refine s_end (hK _ ?_); clear hK K
  refine a_cond rfl (fun hc => ?_) (fun hc => ?_)
  · rw [Bool.not_eq_true'] at hc
    have e : nrV g = ([], [], [], 1) := by rw [nrV, if_neg (by rw [hc]; simp)]
    rw [e]
    refine AWP_reg_seq tok fun K hK => ?_
    refine s_assign rfl rfl rfl ?_
    refine s_assign rfl rfl rfl ?_
    refine s_assign rfl rfl rfl ?_
    refine s_assign rfl rfl rfl ?_
    refine s_end (hK _ ?_); clear hK K
    refine AWP_ret ?_
    repeat (with_reducible refine tq_ret ?_)
    exact post_ret (fin_mk (by rfl) (by rfl) (by rfl))
  rw [Bool.not_eq_false'] at hc
  have gv := validB_iff.1 hc
  rw [nrV, if_pos hc]
  obtain ⟨n, hn⟩ : ∃ n, n = g.nodes.length := ⟨_, rfl⟩
  have n1 := gv.n1
  have n16 := gv.n2
  have l48 := gv.l
  rw [← hn] at n1 n16 ⊢
  refine AWP_skip ?_
  show AWP _ _ _ _ _ _
  refine AWP_reg_seq tok fun K hK => ?_
  refine s_fieldAddr rfl rfl rfl ?_
  refine s_load rfl rfl rfl ?_
  refine s_blt rfl (len_m (l := g.nodes) RW.dc rfl rfl) rfl ?_
  refine s_makeSlice (sz := _) (es := _) (f := _) (v := _) rfl (mk_a (l := n) rfl rfl rfl rfl rfl (Nat.le_of_ble_eq_true rfl) (by decide) (by rw [hn]) (by rw [hn]) (by omega)) rfl rfl ?_
  refine s_assign rfl rfl rfl ?_
  refine s_end (hK _ ?_); clear hK K
  refine AWP_seq ?_
  refine AWP_reg_seq tok fun K hK => ?_
  refine s_move rfl rfl rfl ?_
  refine s_blt rfl rfl rfl ?_
  refine s_move rfl rfl rfl ?_
  refine s_end (hK _ ?_); clear hK K
  refine AWP_block (a_loop (α := Nat) (fun i => mk 110 [(1, .ptr 1 0), (6, .val (.one (.own 22 8 0 n))), (24, dI n), (25, dI i)] [(1, some (.box g.cs)), (22, some (.arr 8 ((List.range i).map (fun _ => (szW 0 0).dc) ++ List.replicate (n - i) sp0.dc)))] []) (fun i => i ≤ n) (fun i => n - i) 0 ?_ (Nat.zero_le _) ?_)
  · exact Wk.mk' ⟨rfl, rfl, rfl, rfl, trivial⟩ ⟨rfl, rfl, trivial⟩
  intro i hi
  refine AWP_reg_seq tok fun K hK => ?_
  refine s_bin rfl rfl rfl ?_
  refine s_end (hK _ ?_); clear hK K
  refine AWP_seq ?_
  refine a_cond rfl (fun hg => ?_) (fun hg => ?_)
  · have hg : i < n := by simp at hg; omega
    have hel : ∀ el ∈ (List.range i).map (fun _ => (szW 0 0).dc) ++ List.replicate (n - i) sp0.dc, el.length = 8 := by
      intro el h
      rcases List.mem_append.1 h with h | h
      · obtain ⟨_, _, rfl⟩ := List.mem_map.1 h; rfl
      · rw [List.eq_of_mem_replicate h]; rfl
    have hlen : i < ((List.range i).map (fun _ => (szW 0 0).dc) ++ List.replicate (n - i) sp0.dc).length := by simp; omega
    have hset : ((List.range i).map (fun _ => (szW 0 0).dc) ++ List.replicate (n - i) sp0.dc).set i (szW 0 0).dc = (List.range (i + 1)).map (fun _ => (szW 0 0).dc) ++ List.replicate (n - (i + 1)) sp0.dc := by
      obtain ⟨k, hk⟩ : ∃ k, n - i = k + 1 := ⟨n - i - 1, by omega⟩
      rw [hk, List.replicate_succ, set_mid (by simp), show n - (i + 1) = k by omega, List.range_succ, List.map_append, List.append_assoc]; rfl
    generalize (List.range i).map (fun _ => (szW 0 0).dc) ++ List.replicate (n - i) sp0.dc = es at hel hlen hset ⊢
    refine AWP_skip ?_
    show AWP _ _ _ _ _ _
    refine AWP_seq ?_
    refine AWP_block ?_
    refine AWP_reg_seq tok fun K hK => ?_
    refine s_move rfl rfl rfl ?_
    refine s_assign rfl rfl rfl ?_
    refine s_end (hK _ ?_); clear hK K
    refine AWP_reg tok fun K hK => ?_
    refine s_move rfl rfl rfl ?_
    refine s_move rfl rfl rfl ?_
    refine s_call rfl rfl (qOfI_c 0 ⟨by decide, by decide⟩) rfl rfl rfl rfl ?_
    refine s_call rfl rfl (qOfI_c 0 ⟨by decide, by decide⟩) rfl rfl rfl rfl ?_
    refine s_build rfl rfl rfl ?_
    refine s_indexAddr rfl (x_o (i := i) (j := i) rfl rfl rfl rfl rfl hg (Nat.zero_add _)) rfl ?_
    refine s_store rfl (st_S (p := szW 0 0) rfl rfl rfl hlen hel) rfl rfl rfl ?_
    refine s_end (hK _ ?_); clear hK K
    rw [hset]
    show AWP _ _ _ _ _ _
    refine AWP_reg tok fun K hK => ?_
    refine s_bin rfl (e_add (c := ((i + 1 : Nat) : Int)) (by omega) (by omega)) rfl ?_
    refine s_move rfl rfl rfl ?_
    refine s_end (hK _ ?_); clear hK K
    exact ⟨i + 1, by omega, hg, Wk.mk' ⟨rfl, rfl, rfl, rfl, trivial⟩ ⟨rfl, rfl, trivial⟩⟩
  have hg : n = i := by simp at hg; omega
  subst hg
  rw [Nat.sub_self, List.replicate_zero, List.append_nil]
  refine AWP_exit ?_
  show AWP _ _ _ _ _ _
  refine AWP_seq ?_
  refine AWP_reg_seq tok fun K hK => ?_
  refine s_fieldAddr rfl rfl rfl ?_
  refine s_load rfl rfl rfl ?_
  refine s_blt rfl (len_m LK.dc rfl rfl) rfl ?_
  refine s_move rfl rfl rfl ?_
  refine s_end (hK _ ?_); clear hK K
  refine AWP_block (a_loop (α := Nat) (fun k => mk 110 [(1, .ptr 1 0), (6, .val (.one (.own 22 8 0 n))), (36, V1 (dLs g.links)), (37, dI g.links.length), (38, dI k)] [(1, some (.box g.cs)), (22, some (.arr 8 (spI n (nrL g (g.links.take k)).1 (nrL g (g.links.take k)).2)))] []) (fun k => k ≤ g.links.length) (fun k => g.links.length - k) 0 ?_ (Nat.zero_le _) ?_)
  · exact Wk.mk' ⟨rfl, rfl, rfl, rfl, rfl, trivial⟩ ⟨rfl, rfl, trivial⟩
  intro k hk
  refine AWP_reg_seq tok fun K hK => ?_
  refine s_bin rfl rfl rfl ?_
  refine s_end (hK _ ?_); clear hK K
  refine AWP_seq ?_
  refine a_cond rfl (fun hg => ?_) (fun hg => ?_)
  · have hg : k < g.links.length := by simp at hg; omega
    have bX := nrL_le gv ok k hk
    have hsn := nrL_snoc g hg
    obtain ⟨l, hl⟩ : ∃ l, l = g.links[k] := ⟨_, rfl⟩
    have hm : l ∈ g.links := hl ▸ List.getElem_mem hg
    have lv := linkB_iff.1 (gv.lk l hm)
    have o := alS_ok (ok _ (frN_mem lv)) rfl lv.ix lv.iy (m := 16391) rfl
    have cA := alongL_c g l k hg hl.symm gv (fun r hr => (ok r hr).mono rfl)
    rw [← hl] at hsn
    have lw := lv.w
    rw [← hn] at lv
    have iw2 : I64 (-l.w) := ⟨by omega, by omega⟩
    obtain ⟨i, j, hi, hj, e1, e2, hne⟩ := lv.lt
    simp only [nrS, e1, e2, Int.toNat_natCast] at hsn
    generalize (nrL g (g.links.take k)).1 = X at bX hsn ⊢
    generalize (nrL g (g.links.take k)).2 = Y at bX hsn ⊢
    have bX1 : ∀ i, ql (X i) ≤ 8388608 := fun i => Nat.le_trans (bX i).1 (by omega)
    have bY1 : ∀ i, ql (Y i) ≤ 8388608 := fun i => Nat.le_trans (bX i).2 (by omega)
    rw [alS] at o cA
    have o1 := o.qx rfl
    have o2 := o.qy rfl
    rw [szW_vx] at o1
    rw [szW_vy] at o2
    generalize alX (frN g l) l = a at hsn cA o o1 o2
    generalize alY (frN g l) l = b at hsn cA o o1 o2
    have s1 := scaled_q (szW a b) l.w _ _ lv.iw (o.mono rfl) (by rw [szW_vx]) (by rw [szW_vy])
    have s2 := scaled_q (szW a b) (-l.w) _ _ iw2 (o.mono rfl) (by rw [szW_vx]) (by rw [szW_vy])
    have m1 := ql_mul_le o1 (ql_i64 lv.iw)
    have m2 := ql_mul_le o2 (ql_i64 lv.iw)
    have m3 := ql_mul_le o1 (ql_i64 iw2)
    have m4 := ql_mul_le o2 (ql_i64 iw2)
    have p1 := plus_q (szW (X j) (Y j)) (szW (a * l.w) (b * l.w)) (X j + a * l.w) (Y j + b * l.w) (szW_ok (le_d (bX1 j) rfl) (le_d (bY1 j) rfl)) (szW_ok (le_d m1 rfl) (le_d m2 rfl)) (by rw [szW_vx, szW_vx]) (by rw [szW_vy, szW_vy])
    obtain ⟨X1, hX1⟩ : ∃ X1, X1 = updF X j (X j + a * l.w) := ⟨_, rfl⟩
    obtain ⟨Y1, hY1⟩ : ∃ Y1, Y1 = updF Y j (Y j + b * l.w) := ⟨_, rfl⟩
    have bX2 : ql (X1 i) ≤ 16777216 := hX1 ▸ ql_updF (fun i => le_d (bX1 i) rfl) (le_d (ql_add_le (bX1 j) m1) rfl) i
    have bY2 : ql (Y1 i) ≤ 16777216 := hY1 ▸ ql_updF (fun i => le_d (bY1 i) rfl) (le_d (ql_add_le (bY1 j) m2) rfl) i
    have p2 := plus_q (szW (X1 i) (Y1 i)) (szW (a * (-l.w : Int)) (b * (-l.w : Int))) (X1 i + a * (-l.w : Int)) (Y1 i + b * (-l.w : Int)) (szW_ok bX2 bY2) (szW_ok (le_d m3 rfl) (le_d m4 rfl)) (by rw [szW_vx, szW_vx]) (by rw [szW_vy, szW_vy])
    rw [← hX1, ← hY1] at hsn
    have hel : ∀ (X Y : Nat → Rat), ∀ el ∈ spI n X Y, el.length = 8 := by
      intro X Y el h
      obtain ⟨_, _, rfl⟩ := List.mem_map.1 h; rfl
    refine AWP_skip ?_
    show AWP _ _ _ _ _ _
    refine AWP_seq ?_
    refine AWP_block ?_
    refine AWP_reg_seq tok fun K hK => ?_
    refine s_indexAddr rfl (x_m LK.dc rfl rfl rfl rfl hg rfl) rfl ?_
    refine s_load rfl rfl rfl ?_
    refine s_alloc rfl rfl rfl rfl rfl rfl ?_
    refine s_store rfl rfl rfl rfl rfl ?_
    refine s_end (hK _ ?_); clear hK K
    rw [← hl]
    refine AWP_reg_seq tok fun K hK => ?_
    refine s_load rfl rfl rfl ?_
    refine s_load rfl rfl rfl ?_
    refine s_call rfl rfl (cA) rfl rfl rfl rfl ?_
    refine s_alloc rfl rfl rfl rfl rfl rfl ?_
    refine s_store rfl rfl rfl rfl rfl ?_
    refine s_end (hK _ ?_); clear hK K
    refine a_draw tok mixed (A := [[], [], [], [], [], [], [4], [3, 4, 5], [], [], [], [9], [3, 4, 5, 6, 8, 9, 10], [], []]) (an := [{}, {}, {}, {}, {}, {}, {}, {}, {}, {}, {}, {}, {}, {}, {}]) rfl (by kernel_rfl) rfl fun K hK => ?_
    refine s_move rfl rfl rfl ?_
    refine s_fieldAddr rfl rfl rfl ?_
    refine s_load rfl rfl rfl ?_
    refine s_move rfl rfl rfl ?_
    refine s_fieldAddr rfl rfl rfl ?_
    refine s_load rfl rfl rfl ?_
    refine s_indexAddr rfl (x_o (i := j) (j := j) rfl rfl rfl rfl e2 hj (Nat.zero_add _)) rfl ?_
    refine s_load rfl (l_o rfl rfl (spI_get hj) rfl rfl) rfl ?_
    refine s_load rfl rfl rfl ?_
    refine s_fieldAddr rfl rfl rfl ?_
    refine s_load rfl rfl rfl ?_
    refine s_call rfl rfl (s1) rfl rfl rfl rfl ?_
    refine s_call rfl rfl (p1) rfl rfl rfl rfl ?_
    refine s_indexAddr rfl (x_o (i := j) (j := j) rfl rfl rfl rfl e2 hj (Nat.zero_add _)) rfl ?_
    refine s_store rfl (st_S (p := szW (X j + a * l.w) (Y j + b * l.w)) rfl rfl rfl (by rw [spI_length]; exact hj) (hel _ _)) rfl rfl rfl ?_
    refine s_end (hK _ ?_); clear hK K
    rw [spI_set, ← hX1, ← hY1]
    refine a_draw1 tok mixed (A := [[], [], [], [], [], [], [4], [3, 4, 5], [], [], [], [9], [9, 10], [3, 4, 5, 6, 8, 9, 10, 11], [], []]) (an := [{}, {}, {}, {}, {}, {}, {}, {}, {}, {}, {}, {}, {}, {}, {}, {}]) rfl (by kernel_rfl) rfl fun K hK => ?_
    refine s_move rfl rfl rfl ?_
    refine s_fieldAddr rfl rfl rfl ?_
    refine s_load rfl rfl rfl ?_
    refine s_move rfl rfl rfl ?_
    refine s_fieldAddr rfl rfl rfl ?_
    refine s_load rfl rfl rfl ?_
    refine s_indexAddr rfl (x_o (i := i) (j := i) rfl rfl rfl rfl e1 hi (Nat.zero_add _)) rfl ?_
    refine s_load rfl (l_o rfl rfl (spI_get hi) rfl rfl) rfl ?_
    refine s_load rfl rfl rfl ?_
    refine s_fieldAddr rfl rfl rfl ?_
    refine s_load rfl rfl rfl ?_
    refine s_un rfl (neg_I (by omega)) rfl ?_
    refine s_call rfl rfl (s2) rfl rfl rfl rfl ?_
    refine s_call rfl rfl (p2) rfl rfl rfl rfl ?_
    refine s_indexAddr rfl (x_o (i := i) (j := i) rfl rfl rfl rfl e1 hi (Nat.zero_add _)) rfl ?_
    refine s_store rfl (st_S (p := szW (X1 i + a * (-l.w : Int)) (Y1 i + b * (-l.w : Int))) rfl rfl rfl (by rw [spI_length]; exact hi) (hel _ _)) rfl rfl rfl ?_
    refine s_end (hK _ ?_); clear hK K
    rw [spI_set]
    show AWP _ _ _ _ _ _
    refine AWP_reg tok fun K hK => ?_
    refine s_bin rfl (e_add (c := ((k + 1 : Nat) : Int)) (by omega) (by omega)) rfl ?_
    refine s_move rfl rfl rfl ?_
    refine s_end (hK _ ?_); clear hK K
    refine ⟨k + 1, by omega, hg, Wk.mk' ⟨rfl, rfl, rfl, rfl, rfl, trivial⟩ ⟨rfl, ?_, trivial⟩⟩
    rw [hsn]; rfl
  have hg : k = g.links.length := by simp at hg; omega
  subst hg
  rw [List.take_length]
  generalize (nrL g g.links).1 = X
  generalize (nrL g g.links).2 = Y
  have cl := glap_c g gv
  rw [← hn] at cl
  generalize lapM g.links = M at cl ⊢
  refine AWP_exit ?_
  show AWP _ _ _ _ _ _
  refine AWP_reg_seq tok fun K hK => ?_
  refine s_assign rfl rfl rfl ?_
  refine s_end (hK _ ?_); clear hK K
  refine AWP_reg_seq tok fun K hK => ?_
  refine s_assign rfl rfl rfl ?_
  refine s_assign rfl rfl rfl ?_
  refine s_end (hK _ ?_); clear hK K
  refine AWP_seq ?_
  refine AWP_reg_seq tok fun K hK => ?_
  refine s_load rfl rfl rfl ?_
  refine s_call rfl rfl (cl) rfl rfl rfl rfl ?_
  refine s_blt rfl (len_d (n := n) rfl rfl (by simp [lapQ])) rfl ?_
  refine s_move rfl rfl rfl ?_
  refine s_end (hK _ ?_); clear hK K
  refine AWP_block (a_loop (α := Nat) (fun i => mk 110 [(6, .val (.one (.own 22 8 0 n))), (11, ownN 11 1 (i - 1)), (12, ownN 12 4 (i - 1)), (13, ownN 13 4 (i - 1)), (76, V1 (dMs (lapQ n M))), (77, dI n), (78, dI i)] [(22, some (.arr 8 (spI n X Y))), (11, arrN 1 ((nrM n M (i - 1)).map cM) (i - 1)), (12, arrN 4 ((nrX X (i - 1)).map RW.dc) (i - 1)), (13, arrN 4 ((nrX Y (i - 1)).map RW.dc) (i - 1))] []) (fun i => i ≤ n) (fun i => n - i) 0 ?_ (Nat.zero_le _) ?_)
  · exact Wk.mk' ⟨rfl, rfl, rfl, rfl, rfl, rfl, rfl, trivial⟩ ⟨rfl, rfl, rfl, rfl, trivial⟩
  intro i hi
  refine AWP_reg_seq tok fun K hK => ?_
  refine s_bin rfl rfl rfl ?_
  refine s_end (hK _ ?_); clear hK K
  refine AWP_seq ?_
  refine a_cond rfl (fun hg => ?_) (fun hg => ?_)
  · have hg : i < n := by simp at hg; omega
    have hL : (lapQ n M).length = n := by simp [lapQ]
    have hLi : i < (lapQ n M).length := by omega
    have hLe : (lapQ n M)[i] = lapR n M i := by simp [lapQ]
    have hRl : (lapR n M i).length = n := by simp [lapR]
    refine AWP_skip ?_
    show AWP _ _ _ _ _ _
    refine AWP_seq ?_
    refine AWP_block ?_
    refine AWP_reg_seq tok fun K hK => ?_
    refine s_move rfl rfl rfl ?_
    refine s_indexAddr rfl (x_m cM rfl rfl rfl rfl hLi rfl) rfl ?_
    refine s_load rfl rfl rfl ?_
    refine s_assign rfl rfl rfl ?_
    refine s_assign rfl rfl rfl ?_
    refine s_end (hK _ ?_); clear hK K
    rw [hLe]
    refine AWP_reg_seq tok fun K hK => ?_
    refine s_move rfl rfl rfl ?_
    refine s_bin rfl rfl rfl ?_
    refine s_end (hK _ ?_); clear hK K
    refine a_cond rfl (fun hd => ?_) (fun hd => ?_)
    · obtain ⟨k, rfl⟩ : ∃ k, i = k + 1 := ⟨i - 1, by simp at hd; omega⟩
      simp only [Nat.add_sub_cancel]
      have n1 : (nrM n M k).map cM ++ [cM ((lapR n M (k + 1)).drop 1)] = (nrM n M (k + 1)).map cM := by
        rw [nrM, nrM, List.range_succ, List.map_append, List.map_append]; rfl
      have n2 : ∀ X, (nrX X k).map RW.dc ++ [(qzW (X (k + 1))).dc] = (nrX X (k + 1)).map RW.dc := fun X => by
        rw [nrX, nrX, List.range_succ, List.map_append, List.map_append]; rfl
      have n2X := n2 X
      have n2Y := n2 Y
      have z1 : ((nrM n M k).map cM).length = k := by simp [nrM]
      have z2 : ((nrX X k).map RW.dc).length = k := by simp [nrX]
      have z3 : ((nrX Y k).map RW.dc).length = k := by simp [nrX]
      generalize (nrM n M k).map cM = es at n1 z1 ⊢
      generalize (nrX X k).map RW.dc = xs at n2X z2 ⊢
      generalize (nrX Y k).map RW.dc = ys at n2Y z3 ⊢
      generalize lapR n M (k + 1) = R at hRl n1 ⊢
      rcases k with _ | k
      · refine AWP_reg_seq tok fun K hK => ?_
        refine s_move rfl rfl rfl ?_
        refine s_move rfl rfl rfl ?_
        refine s_slice rfl rfl rfl (sl_m RW.dc rfl rfl rfl (by rw [List.length_map]) (by omega) (fun _ => rfl)) rfl ?_
        refine s_buildSlice rfl rfl rfl rfl ?_
        refine s_append rfl (ap_nil rfl rfl rfl rfl rfl (by decide) (Nat.le_of_ble_eq_true rfl) rfl (by simp) rfl (by simp) (by simp)) rfl rfl ?_
        refine s_assign rfl rfl rfl ?_
        refine s_end (hK _ ?_); clear hK K
        refine a_draw1 tok mixed (A := [[], [], [], [], [1, 2], [1, 2, 3], [1, 2, 3, 4], [1, 2, 3, 4, 5], [], [], [], [], [9, 10], [9, 10, 11], [9, 10, 11, 12], [0, 1, 2, 3, 4, 5, 6, 9, 10, 11, 12, 13], [8, 9, 10, 11, 12, 13, 14], []]) (an := [{}, {}, {}, {}, {}, {}, {}, {}, { c := [96, 97] }, { c := [96, 97] }, { c := [96, 97] }, { c := [96, 97] }, { c := [96, 97] }, { c := [96, 97] }, { c := [96, 97] }, {}, {}, {}]) rfl (by kernel_rfl) rfl fun K hK => ?_
        refine s_move rfl rfl rfl ?_
        refine s_move rfl rfl rfl ?_
        refine s_move rfl rfl rfl ?_
        refine s_indexAddr rfl (x_o (i := 0 + 1) (j := 0 + 1) rfl rfl rfl rfl rfl hg (Nat.zero_add _)) rfl ?_
        refine s_fieldAddr rfl rfl rfl ?_
        refine s_load rfl (l_of rfl rfl (spI_get hg) rfl rfl) rfl ?_
        refine s_buildSlice rfl rfl rfl rfl ?_
        refine s_append rfl (ap_nil rfl rfl rfl rfl rfl (by decide) (Nat.le_of_ble_eq_true rfl) rfl (by simp) rfl (by simp) (by simp)) rfl rfl ?_
        refine s_move rfl rfl rfl ?_
        refine s_move rfl rfl rfl ?_
        refine s_move rfl rfl rfl ?_
        refine s_indexAddr rfl (x_o (i := 0 + 1) (j := 0 + 1) rfl rfl rfl rfl rfl hg (Nat.zero_add _)) rfl ?_
        refine s_fieldAddr rfl rfl rfl ?_
        refine s_load rfl (l_of rfl rfl (spI_get hg) rfl rfl) rfl ?_
        refine s_buildSlice rfl rfl rfl rfl ?_
        refine s_append rfl (ap_nil rfl rfl rfl rfl rfl (by decide) (Nat.le_of_ble_eq_true rfl) rfl (by simp) rfl (by simp) (by simp)) rfl rfl ?_
        refine s_assign rfl rfl rfl ?_
        refine s_assign rfl rfl rfl ?_
        refine s_end (hK _ ?_); clear hK K
        refine a_rn [6, 76, 77, 78, 11, 12, 13] [22, 89, 97, 105] 89 11 [(6, .val (.one (.own 22 8 0 n))), (76, V1 (dMs (lapQ n M))), (77, dI n), (78, dI (0 + 1 : Nat)), (11, .val (.one (.own 11 1 0 (0 + 1)))), (12, .val (.one (.own 97 4 0 (0 + 1)))), (13, .val (.one (.own 105 4 0 (0 + 1))))] [(22, some (.arr 8 (spI n X Y))), (11, some (.arr 1 ((nrM n M (0 + 1)).map cM))), (97, some (.arr 4 ((nrX X (0 + 1)).map RW.dc))), (105, some (.arr 4 ((nrX Y (0 + 1)).map RW.dc)))] rfl rfl rfl ⟨rfl, rfl, rfl, rfl, ?_, ?_, ?_, trivial⟩ ⟨rfl, ?_, ?_, ?_, trivial⟩ ?_
        · show SV.val (.one (.own 11 1 0 _)) = _
          first
            | rfl
            | (rw [List.length_append, z1]; rfl)
        · show SV.val (.one (.own 97 4 0 _)) = _
          first
            | rfl
            | (rw [List.length_append, z2]; rfl)
        · show SV.val (.one (.own 105 4 0 _)) = _
          first
            | rfl
            | (rw [List.length_append, z3]; rfl)
        · first
            | (rw [← n1, List.length_eq_zero_iff.1 z1]; rfl)
            | (rw [← n1]; rfl)
        · first
            | (rw [← n2X, List.length_eq_zero_iff.1 z2]; rfl)
            | (rw [← n2X]; rfl)
        · first
            | (rw [← n2Y, List.length_eq_zero_iff.1 z3]; rfl)
            | (rw [← n2Y]; rfl)
        refine a_rn [6, 76, 77, 78, 11, 12, 13] [22, 11, 97, 105] 97 12 [(6, .val (.one (.own 22 8 0 n))), (76, V1 (dMs (lapQ n M))), (77, dI n), (78, dI (0 + 1 : Nat)), (11, .val (.one (.own 11 1 0 (0 + 1)))), (12, .val (.one (.own 12 4 0 (0 + 1)))), (13, .val (.one (.own 105 4 0 (0 + 1))))] [(22, some (.arr 8 (spI n X Y))), (11, some (.arr 1 ((nrM n M (0 + 1)).map cM))), (12, some (.arr 4 ((nrX X (0 + 1)).map RW.dc))), (105, some (.arr 4 ((nrX Y (0 + 1)).map RW.dc)))] rfl rfl rfl ⟨rfl, rfl, rfl, rfl, rfl, rfl, rfl, trivial⟩ ⟨rfl, rfl, rfl, rfl, trivial⟩ ?_
        show AWP _ _ _ _ _ _
        refine AWP_reg tok fun K hK => ?_
        refine s_bin rfl (e_add (c := ((0 + 1 + 1 : Nat) : Int)) (by omega) (by omega)) rfl ?_
        refine s_move rfl rfl rfl ?_
        refine s_end (hK _ ?_); clear hK K
        exact ⟨0 + 1 + 1, by omega, hg, Wk.rn [6, 76, 77, 78, 11, 12, 13] [22, 11, 12, 105] 105 13 rfl rfl rfl ⟨rfl, rfl, rfl, rfl, rfl, rfl, rfl, trivial⟩ ⟨rfl, rfl, rfl, rfl, trivial⟩⟩
      · refine AWP_reg_seq tok fun K hK => ?_
        refine s_move rfl rfl rfl ?_
        refine s_move rfl rfl rfl ?_
        refine s_slice rfl rfl rfl (sl_m RW.dc rfl rfl rfl (by rw [List.length_map]) (by omega) (fun _ => rfl)) rfl ?_
        refine s_buildSlice rfl rfl rfl rfl ?_
        refine s_append rfl (ap_o rfl rfl rfl rfl rfl rfl (by decide) (Nat.le_of_ble_eq_true rfl) rfl (by simp) rfl rfl z1.symm (by simp <;> omega)) rfl rfl ?_
        refine s_assign rfl rfl rfl ?_
        refine s_end (hK _ ?_); clear hK K
        refine a_draw1 tok mixed (A := [[], [], [], [], [1, 2], [1, 2, 3], [1, 2, 3, 4], [1, 2, 3, 4, 5], [], [], [], [], [9, 10], [9, 10, 11], [9, 10, 11, 12], [0, 1, 2, 3, 4, 5, 6, 9, 10, 11, 12, 13], [8, 9, 10, 11, 12, 13, 14], []]) (an := [{}, {}, {}, {}, {}, {}, {}, {}, { c := [96, 97] }, { c := [96, 97] }, { c := [96, 97] }, { c := [96, 97] }, { c := [96, 97] }, { c := [96, 97] }, { c := [96, 97] }, {}, {}, {}]) rfl (by kernel_rfl) rfl fun K hK => ?_
        refine s_move rfl rfl rfl ?_
        refine s_move rfl rfl rfl ?_
        refine s_move rfl rfl rfl ?_
        refine s_indexAddr rfl (x_o (i := (k + 1) + 1) (j := (k + 1) + 1) rfl rfl rfl rfl rfl hg (Nat.zero_add _)) rfl ?_
        refine s_fieldAddr rfl rfl rfl ?_
        refine s_load rfl (l_of rfl rfl (spI_get hg) rfl rfl) rfl ?_
        refine s_buildSlice rfl rfl rfl rfl ?_
        refine s_append rfl (ap_o rfl rfl rfl rfl rfl rfl (by decide) (Nat.le_of_ble_eq_true rfl) rfl (by simp) rfl rfl z2.symm (by simp <;> omega)) rfl rfl ?_
        refine s_move rfl rfl rfl ?_
        refine s_move rfl rfl rfl ?_
        refine s_move rfl rfl rfl ?_
        refine s_indexAddr rfl (x_o (i := (k + 1) + 1) (j := (k + 1) + 1) rfl rfl rfl rfl rfl hg (Nat.zero_add _)) rfl ?_
        refine s_fieldAddr rfl rfl rfl ?_
        refine s_load rfl (l_of rfl rfl (spI_get hg) rfl rfl) rfl ?_
        refine s_buildSlice rfl rfl rfl rfl ?_
        refine s_append rfl (ap_o rfl rfl rfl rfl rfl rfl (by decide) (Nat.le_of_ble_eq_true rfl) rfl (by simp) rfl rfl z3.symm (by simp <;> omega)) rfl rfl ?_
        refine s_assign rfl rfl rfl ?_
        refine s_assign rfl rfl rfl ?_
        refine s_end (hK _ ?_); clear hK K
        refine a_rn [6, 76, 77, 78, 11, 12, 13] [22, 89, 97, 105] 89 11 [(6, .val (.one (.own 22 8 0 n))), (76, V1 (dMs (lapQ n M))), (77, dI n), (78, dI ((k + 1) + 1 : Nat)), (11, .val (.one (.own 11 1 0 ((k + 1) + 1)))), (12, .val (.one (.own 97 4 0 ((k + 1) + 1)))), (13, .val (.one (.own 105 4 0 ((k + 1) + 1))))] [(22, some (.arr 8 (spI n X Y))), (11, some (.arr 1 ((nrM n M ((k + 1) + 1)).map cM))), (97, some (.arr 4 ((nrX X ((k + 1) + 1)).map RW.dc))), (105, some (.arr 4 ((nrX Y ((k + 1) + 1)).map RW.dc)))] rfl rfl rfl ⟨rfl, rfl, rfl, rfl, ?_, ?_, ?_, trivial⟩ ⟨rfl, ?_, ?_, ?_, trivial⟩ ?_
        · show SV.val (.one (.own 11 1 0 _)) = _
          first
            | rfl
            | (rw [List.length_append, z1]; rfl)
        · show SV.val (.one (.own 97 4 0 _)) = _
          first
            | rfl
            | (rw [List.length_append, z2]; rfl)
        · show SV.val (.one (.own 105 4 0 _)) = _
          first
            | rfl
            | (rw [List.length_append, z3]; rfl)
        · first
            | (rw [← n1, List.length_eq_zero_iff.1 z1]; rfl)
            | (rw [← n1]; rfl)
        · first
            | (rw [← n2X, List.length_eq_zero_iff.1 z2]; rfl)
            | (rw [← n2X]; rfl)
        · first
            | (rw [← n2Y, List.length_eq_zero_iff.1 z3]; rfl)
            | (rw [← n2Y]; rfl)
        refine a_rn [6, 76, 77, 78, 11, 12, 13] [22, 11, 97, 105] 97 12 [(6, .val (.one (.own 22 8 0 n))), (76, V1 (dMs (lapQ n M))), (77, dI n), (78, dI ((k + 1) + 1 : Nat)), (11, .val (.one (.own 11 1 0 ((k + 1) + 1)))), (12, .val (.one (.own 12 4 0 ((k + 1) + 1)))), (13, .val (.one (.own 105 4 0 ((k + 1) + 1))))] [(22, some (.arr 8 (spI n X Y))), (11, some (.arr 1 ((nrM n M ((k + 1) + 1)).map cM))), (12, some (.arr 4 ((nrX X ((k + 1) + 1)).map RW.dc))), (105, some (.arr 4 ((nrX Y ((k + 1) + 1)).map RW.dc)))] rfl rfl rfl ⟨rfl, rfl, rfl, rfl, rfl, rfl, rfl, trivial⟩ ⟨rfl, rfl, rfl, rfl, trivial⟩ ?_
        show AWP _ _ _ _ _ _
        refine AWP_reg tok fun K hK => ?_
        refine s_bin rfl (e_add (c := (((k + 1) + 1 + 1 : Nat) : Int)) (by omega) (by omega)) rfl ?_
        refine s_move rfl rfl rfl ?_
        refine s_end (hK _ ?_); clear hK K
        exact ⟨(k + 1) + 1 + 1, by omega, hg, Wk.rn [6, 76, 77, 78, 11, 12, 13] [22, 11, 12, 105] 105 13 rfl rfl rfl ⟨rfl, rfl, rfl, rfl, rfl, rfl, rfl, trivial⟩ ⟨rfl, rfl, rfl, rfl, trivial⟩⟩
    · have hi0 : i = 0 := by simp at hd; omega
      subst hi0
      refine AWP_skip ?_
      show AWP _ _ _ _ _ _
      refine AWP_reg tok fun K hK => ?_
      refine s_bin rfl (e_add (c := ((0 + 1 : Nat) : Int)) (by omega) (by omega)) rfl ?_
      refine s_move rfl rfl rfl ?_
      refine s_end (hK _ ?_); clear hK K
      exact ⟨0 + 1, by omega, hg, Wk.mk' ⟨rfl, rfl, rfl, rfl, rfl, rfl, rfl, trivial⟩ ⟨rfl, rfl, rfl, rfl, trivial⟩⟩
  have hg : n = i := by simp at hg; omega
  subst hg
  refine AWP_exit ?_
  show AWP _ _ _ _ _ _
  obtain ⟨m, hm⟩ : ∃ m, n = m + 1 := ⟨n - 1, by omega⟩
  subst hm
  simp only [Nat.add_sub_cancel]
  rcases m with _ | m
  · refine AWP_reg_seq tok fun K hK => ?_
    refine s_move rfl rfl rfl ?_
    refine s_move rfl rfl rfl ?_
    refine s_move rfl rfl rfl ?_
    refine s_assign rfl rfl rfl ?_
    refine s_assign rfl rfl rfl ?_
    refine s_assign rfl rfl rfl ?_
    refine s_assign rfl rfl rfl ?_
    refine s_end (hK _ ?_); clear hK K
    refine AWP_ret ?_
    repeat (with_reducible refine tq_ret ?_)
    exact post_ret (fin_mk (by rfl) (by rfl) (by rfl))
  · refine a_fz [11, 12, 13] [11, 12, 13] 11 [(11, V1 (dMs (nrM (m + 1 + 1) M (m + 1)))), (12, .val (.one (.own 12 4 0 (m + 1)))), (13, .val (.one (.own 13 4 0 (m + 1))))] [(12, some (.arr 4 ((nrX X (m + 1)).map RW.dc))), (13, some (.arr 4 ((nrX Y (m + 1)).map RW.dc)))] rfl ?_ ⟨rfl, rfl, trivial⟩ ?_
    · exact ⟨frz_own rfl (by simp [nrM]), rfl, rfl, trivial⟩
    refine a_fz [11, 12, 13] [12, 13] 12 [(11, V1 (dMs (nrM (m + 1 + 1) M (m + 1)))), (12, V1 (dRs (nrX X (m + 1)))), (13, .val (.one (.own 13 4 0 (m + 1))))] [(13, some (.arr 4 ((nrX Y (m + 1)).map RW.dc)))] rfl ?_ ⟨rfl, trivial⟩ ?_
    · exact ⟨rfl, frz_own rfl (by simp [nrX]), rfl, trivial⟩
    refine a_fz [11, 12, 13] [13] 13 [(11, V1 (dMs (nrM (m + 1 + 1) M (m + 1)))), (12, V1 (dRs (nrX X (m + 1)))), (13, V1 (dRs (nrX Y (m + 1))))] [] rfl ?_ trivial ?_
    · exact ⟨rfl, rfl, frz_own rfl (by simp [nrX]), trivial⟩
    refine AWP_reg_seq tok fun K hK => ?_
    refine s_move rfl rfl rfl ?_
    refine s_move rfl rfl rfl ?_
    refine s_move rfl rfl rfl ?_
    refine s_assign rfl rfl rfl ?_
    refine s_assign rfl rfl rfl ?_
    refine s_assign rfl rfl rfl ?_
    refine s_assign rfl rfl rfl ?_
    refine s_end (hK _ ?_); clear hK K
    refine AWP_ret ?_
    repeat (with_reducible refine tq_ret ?_)
    exact post_ret (fin_mk (by rfl) (by rfl) (by rfl))
end Go.Proofs.YtcafppnjemgkiaaGreat

/- The law's fixed examples. No condition. -/
namespace Go.Proofs.YtcafppnjemgkiaaGreat
attribute [local irreducible] lexA

def tabD : Tab := { tab with dat := fun t => Nat.beq t 22 || Nat.beq t 65 || Nat.beq t 45 || Nat.beq t 44 || Nat.beq t 28 }
theorem tokD : TOK Tryz.prog tabD := ⟨tok.ty, tok.clo, tok.eqs⟩

theorem r2OfI_c (n : Int) (hn : I64 n) : Con Tryz.prog 37 [dI n, dI 1] { v := AG (qzW n).cs } := by
  have c := r2Of_c n 1 hn ⟨by decide, by decide⟩
  rw [divInt_one] at c
  exact c
theorem n_c (v : Int) (hv : I64 v) : Con Tryz.prog 29 [dI v] { v := AG (qzW v).cs } := by
  refine con_intro (fn := Tryz.f29) tok Tryz.func29 (by kernel_rfl) rfl ?_
  intro w0 X
  rw [entry_mkE _ _ [(0, dI v)] rfl rfl]
  refine AWP_reg_seq tok fun K hK => ?_
  refine s_alloc rfl rfl rfl rfl rfl rfl ?_
  refine s_end (hK _ ?_); clear hK K
  refine AWP_reg_seq tok fun K hK => ?_
  refine s_move rfl rfl rfl ?_
  refine s_call rfl rfl (r2OfI_c v hv) rfl rfl rfl rfl ?_
  refine s_store rfl rfl rfl rfl rfl ?_
  refine s_end (hK _ ?_); clear hK K
  refine AWP_ret ?_
  repeat (with_reducible refine tq_ret ?_)
  exact post_ret (fin_mk (by rfl) (by rfl) (by rfl))

def RS (r : RW) : Prop := r.wp.length ≤ 9223372036854775806 ∧ r.wq.length ≤ 9223372036854775806
theorem spot_same (a : SP) (h1 : RS a.x) (h2 : RS a.y) : Con Tryz.prog 15 [AG a.cs, AG a.cs] { v := dB true } := by
  have c := r28Spot_c a a h1 h2
  rwa [decide_eq_true rfl] at c
theorem rat_same (a : RW) (h : RS a) : Con Tryz.prog 25 [AG a.cs, AG a.cs] { v := dB true } := by
  have c := bRat_c a a h.1 h.2
  rwa [decide_eq_true rfl] at c
theorem rats_same (a : List RW) (hl : a.length ≤ 9223372036854775806) (h : ∀ r ∈ a, RS r) : Con Tryz.prog 19 [V1 (dRs a), V1 (dRs a)] { v := dB true } := by
  have c := bRats_c a a hl h
  rwa [decide_eq_true rfl] at c
theorem matrix_same (a : List (List RW)) (hl : a.length ≤ 9223372036854775806) (h : ∀ l ∈ a, l.length ≤ 9223372036854775806 ∧ ∀ r ∈ l, RS r) : Con Tryz.prog 18 [V1 (dMs a), V1 (dMs a)] { v := dB true } := by
  have c := r28Matrix_c a a hl h
  rwa [decide_eq_true rfl] at c
theorem ints_same (a : List Int) (hl : a.length ≤ 9223372036854775806) : Con Tryz.prog 14 [V1 (dIs a), V1 (dIs a)] { v := dB true } := by
  have c := bInts_c a a hl
  rwa [decide_eq_true rfl] at c
theorem spots_nil : Con Tryz.prog 30 [V1 (dSs []), V1 (dSs [])] { v := dB true } := by
  have c := bSpots_c [] [] (by simp) (by simp)
  rwa [decide_eq_true rfl] at c

theorem awake_g (q n0 n10 n6 nm3 n3 n30 nm30 n600 nm10 n1 : RW) (g : GR)
    (cOf : Con Tryz.prog 27 [dI 1, dI 1] { v := AG q.cs })
    (cCh : Con Tryz.prog 28 [V1 (dRs [q, q]), V1 (dPs [⟨10, 0⟩, ⟨10, 0⟩]), dI 3] { v := .tup [.agg g.cs, .one (.d (lI 0))] })
    (cAl : Con Tryz.prog 10 [AG g.cs, dI 1] { v := .tup [.agg (SP.mk n0 n10).cs, .one (.d (lI 0))] })
    (cNo : Con Tryz.prog 16 [AG g.cs] { v := .tup [.one (.d (dMs [[n6, nm3], [nm3, n3]])), .one (.d (dRs [n30, n0])), .one (.d (dRs [nm30, n30])), .one (.d (lI 0))] })
    (cCo : Con Tryz.prog 23 [AG g.cs, V1 (dSs [sp0, sp0, sp0])] { v := .tup [.agg n600.cs, .one (.d (lI 0))] })
    (cRe : Con Tryz.prog 21 [AG g.cs, V1 (dSs [sp0, sp0, sp0]), dI 1] { v := .tup [.agg (SP.mk n0 nm10).cs, .one (.d (lI 0))] })
    (cPa : Con Tryz.prog 8 [AG g.cs] { v := .tup [.one (.d (dNs [0, 0, 0])), .one (.d (lI 0))] })
    (cVa : Con Tryz.prog 12 [AG g.cs] { v := dB true })
    (c0 : Con Tryz.prog 29 [dI 0] { v := AG n0.cs }) (c10 : Con Tryz.prog 29 [dI 10] { v := AG n10.cs }) (c6 : Con Tryz.prog 29 [dI 6] { v := AG n6.cs })
    (cm3 : Con Tryz.prog 29 [dI (-3)] { v := AG nm3.cs }) (c3 : Con Tryz.prog 29 [dI 3] { v := AG n3.cs }) (c30 : Con Tryz.prog 29 [dI 30] { v := AG n30.cs })
    (cm30 : Con Tryz.prog 29 [dI (-30)] { v := AG nm30.cs }) (c600 : Con Tryz.prog 29 [dI 600] { v := AG n600.cs }) (cm10 : Con Tryz.prog 29 [dI (-10)] { v := AG nm10.cs })
    (c1 : Con Tryz.prog 29 [dI 1] { v := AG n1.cs })
    (eS1 : Con Tryz.prog 15 [AG (SP.mk n0 n10).cs, AG (SP.mk n0 n10).cs] { v := dB true })
    (eS2 : Con Tryz.prog 15 [AG (SP.mk n0 nm10).cs, AG (SP.mk n0 nm10).cs] { v := dB true })
    (eM : Con Tryz.prog 18 [V1 (dMs [[n6, nm3], [nm3, n3]]), V1 (dMs [[n6, nm3], [nm3, n3]])] { v := dB true })
    (eX : Con Tryz.prog 19 [V1 (dRs [n30, n0]), V1 (dRs [n30, n0])] { v := dB true })
    (eY : Con Tryz.prog 19 [V1 (dRs [nm30, n30]), V1 (dRs [nm30, n30])] { v := dB true })
    (eC : Con Tryz.prog 25 [AG n600.cs, AG n600.cs] { v := dB true })
    (eI : Con Tryz.prog 14 [V1 (dNs [0, 0, 0]), V1 (dNs [0, 0, 0])] { v := dB true })
    (cMv : Con Tryz.prog 31 [V1 (dSs []), AG n1.cs, AG n1.cs] { v := V1 (dSs []) }) :
    Con Tryz.prog 6 [] { v := dB true } := by
  refine con_intro (fn := Tryz.f6) tokD Tryz.func6 (by kernel_rfl) rfl ?_
  intro w0 X
  rw [entry_mkE _ _ [] rfl rfl]
  refine AWP_reg_seq tokD fun K hK => ?_
  refine s_assign rfl rfl rfl ?_
  refine s_end (hK _ ?_); clear hK K
  refine AWP_reg_seq tokD fun K hK => ?_
  refine s_call rfl rfl (cOf) rfl rfl rfl rfl ?_
  refine s_alloc rfl rfl rfl rfl rfl rfl ?_
  refine s_store rfl rfl rfl rfl rfl ?_
  refine s_end (hK _ ?_); clear hK K
  refine AWP_reg_seq tokD fun K hK => ?_
  refine s_load rfl rfl rfl ?_
  refine s_load rfl rfl rfl ?_
  refine s_buildSliceD rfl rfl rfl rfl ?_
  refine s_build rfl rfl rfl ?_
  refine s_build rfl rfl rfl ?_
  refine s_buildSliceD rfl rfl rfl rfl ?_
  refine s_call rfl rfl (cCh) rfl rfl rfl rfl ?_
  refine s_move rfl rfl rfl ?_
  refine s_extract rfl rfl rfl ?_
  refine s_extract rfl rfl rfl ?_
  refine s_alloc rfl rfl rfl rfl rfl rfl ?_
  refine s_store rfl rfl rfl rfl rfl ?_
  refine s_assign rfl rfl rfl ?_
  refine s_end (hK _ ?_); clear hK K
  refine AWP_reg_seq tokD fun K hK => ?_
  refine s_load rfl rfl rfl ?_
  refine s_call rfl rfl (cAl) rfl rfl rfl rfl ?_
  refine s_move rfl rfl rfl ?_
  refine s_extract rfl rfl rfl ?_
  refine s_extract rfl rfl rfl ?_
  refine s_alloc rfl rfl rfl rfl rfl rfl ?_
  refine s_store rfl rfl rfl rfl rfl ?_
  refine s_assign rfl rfl rfl ?_
  refine s_end (hK _ ?_); clear hK K
  refine AWP_reg_seq tokD fun K hK => ?_
  refine s_load rfl rfl rfl ?_
  refine s_call rfl rfl (cNo) rfl rfl rfl rfl ?_
  refine s_move rfl rfl rfl ?_
  refine s_extract rfl rfl rfl ?_
  refine s_extract rfl rfl rfl ?_
  refine s_extract rfl rfl rfl ?_
  refine s_extract rfl rfl rfl ?_
  refine s_assign rfl rfl rfl ?_
  refine s_assign rfl rfl rfl ?_
  refine s_assign rfl rfl rfl ?_
  refine s_assign rfl rfl rfl ?_
  refine s_end (hK _ ?_); clear hK K
  refine AWP_reg_seq tokD fun K hK => ?_
  refine s_makeSlice (sz := _) (es := _) (f := _) (v := _) rfl (mk_a (l := 3) (z := sp0.dc) rfl rfl rfl rfl rfl (Nat.le_of_ble_eq_true rfl) (by decide) rfl rfl (by decide)) rfl rfl ?_
  refine s_assign rfl rfl rfl ?_
  refine s_end (hK _ ?_); clear hK K
  refine a_fz [2, 3, 4, 5, 6, 7, 8, 9, 10] [2, 4, 40] 40 [(2, .ptr 2 0), (3, dI 0), (4, .ptr 4 0), (5, dI 0), (6, V1 (dMs [[n6, nm3], [nm3, n3]])), (7, V1 (dRs [n30, n0])), (8, V1 (dRs [nm30, n30])), (9, dI 0), (10, V1 (dSs [sp0, sp0, sp0]))] [(2, some (.box g.cs)), (4, some (.box (SP.mk n0 n10).cs))] rfl ⟨rfl, rfl, rfl, rfl, rfl, rfl, rfl, rfl, rfl, trivial⟩ ⟨rfl, rfl, trivial⟩ ?_
  refine AWP_reg_seq tokD fun K hK => ?_
  refine s_load rfl rfl rfl ?_
  refine s_move rfl rfl rfl ?_
  refine s_call rfl rfl (cCo) rfl rfl rfl rfl ?_
  refine s_move rfl rfl rfl ?_
  refine s_extract rfl rfl rfl ?_
  refine s_extract rfl rfl rfl ?_
  refine s_alloc rfl rfl rfl rfl rfl rfl ?_
  refine s_store rfl rfl rfl rfl rfl ?_
  refine s_assign rfl rfl rfl ?_
  refine s_end (hK _ ?_); clear hK K
  refine AWP_reg_seq tokD fun K hK => ?_
  refine s_load rfl rfl rfl ?_
  refine s_move rfl rfl rfl ?_
  refine s_call rfl rfl (cRe) rfl rfl rfl rfl ?_
  refine s_move rfl rfl rfl ?_
  refine s_extract rfl rfl rfl ?_
  refine s_extract rfl rfl rfl ?_
  refine s_alloc rfl rfl rfl rfl rfl rfl ?_
  refine s_store rfl rfl rfl rfl rfl ?_
  refine s_assign rfl rfl rfl ?_
  refine s_end (hK _ ?_); clear hK K
  refine AWP_reg_seq tokD fun K hK => ?_
  refine s_load rfl rfl rfl ?_
  refine s_call rfl rfl (cPa) rfl rfl rfl rfl ?_
  refine s_move rfl rfl rfl ?_
  refine s_extract rfl rfl rfl ?_
  refine s_extract rfl rfl rfl ?_
  refine s_assign rfl rfl rfl ?_
  refine s_assign rfl rfl rfl ?_
  refine s_end (hK _ ?_); clear hK K
  refine AWP_seq ?_
  refine AWP_reg_seq tokD fun K hK => ?_
  refine s_move rfl rfl rfl ?_
  refine s_bin rfl rfl rfl ?_
  refine s_move rfl rfl rfl ?_
  refine s_move rfl rfl rfl ?_
  refine s_bin rfl rfl rfl ?_
  refine s_pick rfl rfl rfl ?_
  refine s_move rfl rfl rfl ?_
  refine s_move rfl rfl rfl ?_
  refine s_bin rfl rfl rfl ?_
  refine s_pick rfl rfl rfl ?_
  refine s_move rfl rfl rfl ?_
  refine s_move rfl rfl rfl ?_
  refine s_bin rfl rfl rfl ?_
  refine s_pick rfl rfl rfl ?_
  refine s_move rfl rfl rfl ?_
  refine s_move rfl rfl rfl ?_
  refine s_bin rfl rfl rfl ?_
  refine s_pick rfl rfl rfl ?_
  refine s_move rfl rfl rfl ?_
  refine s_move rfl rfl rfl ?_
  refine s_bin rfl rfl rfl ?_
  refine s_pick rfl rfl rfl ?_
  refine s_move rfl rfl rfl ?_
  refine s_load rfl rfl rfl ?_
  refine s_call rfl rfl (cVa) rfl rfl rfl rfl ?_
  refine s_un rfl rfl rfl ?_
  refine s_pick rfl rfl rfl ?_
  refine s_end (hK _ ?_); clear hK K
  refine a_cond rfl (fun hc => ?_) (fun hc => ?_)
  · cases hc
  refine AWP_skip ?_
  show AWP _ _ _ _ _ _
  refine a_draw tokD mixed (A := [[], [], [], [], [1], [0, 1, 2, 3], [0, 1, 2, 3, 4], [0, 1, 2, 3, 4], [0, 1, 2, 3, 4], [0, 1, 2, 3, 4], [0, 1, 2, 3, 4, 7], [0, 1, 2, 3, 4, 7, 8], [0, 1, 2, 3, 4, 7, 8], [0, 1, 2, 3, 4, 7, 8, 10, 11], [0, 1, 2, 3, 4, 7, 8, 9, 10, 12], [0, 1, 2, 3, 4, 6, 7, 8, 9, 10, 11, 12, 13], [0, 1, 2, 3, 4, 5, 6, 7, 8, 9, 10, 11, 12, 13], [0, 1, 2, 3, 4, 5, 6, 7, 8, 9, 10, 11, 12, 13, 14, 15], [0, 1, 2, 3, 4, 5, 6, 7, 8, 9, 10, 11, 12, 13, 14, 15], [0, 1, 2, 3, 4, 5, 6, 7, 8, 9, 10, 11, 12, 13, 14, 15], [0, 1, 2, 3, 4, 5, 6, 7, 8, 9, 10, 11, 12, 13, 14, 15], [0, 1, 2, 3, 4, 5, 6, 7, 8, 9, 10, 11, 12, 13, 14, 15, 18], [0, 1, 2, 3, 4, 5, 6, 7, 8, 9, 10, 11, 12, 13, 14, 15, 17, 18, 19, 20], [0, 1, 2, 3, 4, 5, 6, 7, 8, 9, 10, 11, 12, 13, 14, 15, 16, 17, 18, 19, 20], [0, 1, 2, 3, 4, 5, 6, 7, 8, 9, 10, 11, 12, 13, 14, 15, 16, 17, 18, 19, 20, 21, 22], [0, 1, 2, 3, 4, 5, 6, 7, 8, 9, 10, 11, 12, 13, 14, 15, 16, 17, 18, 19, 20, 21, 22], [0, 1, 2, 3, 4, 5, 6, 7, 8, 9, 10, 11, 12, 13, 14, 15, 16, 17, 18, 19, 20, 21, 22], [0, 1, 2, 3, 4, 5, 6, 7, 8, 9, 10, 11, 12, 13, 14, 15, 16, 17, 18, 19, 20, 21, 22], [0, 1, 2, 3, 4, 5, 6, 7, 8, 9, 10, 11, 12, 13, 14, 15, 16, 17, 18, 19, 20, 21, 22, 25], [0, 1, 2, 3, 4, 5, 6, 7, 8, 9, 10, 11, 12, 13, 14, 15, 16, 17, 18, 19, 20, 21, 22, 24, 25, 26, 27], [0, 1, 2, 3, 4, 5, 6, 7, 8, 9, 10, 11, 12, 13, 14, 15, 16, 17, 18, 19, 20, 21, 22, 23, 24, 25, 26, 27], [0, 1, 2, 3, 4, 5, 6, 7, 8, 9, 10, 11, 12, 13, 14, 15, 16, 17, 18, 19, 20, 21, 22, 23, 24, 25, 26, 27, 28, 29], [0, 1, 2, 3, 4, 5, 6, 7, 8, 9, 10, 11, 12, 13, 14, 15, 16, 17, 18, 19, 20, 21, 22, 23, 24, 25, 26, 27, 28, 29], [0, 1, 2, 3, 4, 5, 6, 7, 8, 9, 10, 11, 12, 13, 14, 15, 16, 17, 18, 19, 20, 21, 22, 23, 24, 25, 26, 27, 28, 29], [0, 1, 2, 3, 4, 5, 6, 7, 8, 9, 10, 11, 12, 13, 14, 15, 16, 17, 18, 19, 20, 21, 22, 23, 24, 25, 26, 27, 28, 29, 31, 32], [0, 1, 2, 3, 4, 5, 6, 7, 8, 9, 10, 11, 12, 13, 14, 15, 16, 17, 18, 19, 20, 21, 22, 23, 24, 25, 26, 27, 28, 29, 30, 31, 32], [0, 1, 2, 3, 4, 5, 6, 7, 8, 9, 10, 11, 12, 13, 14, 15, 16, 17, 18, 19, 20, 21, 22, 23, 24, 25, 26, 27, 28, 29, 30, 31, 32, 33, 34], [0, 1, 2, 3, 4, 5, 6, 7, 8, 9, 10, 11, 12, 13, 14, 15, 16, 17, 18, 19, 20, 21, 22, 23, 24, 25, 26, 27, 28, 29, 30, 31, 32, 33, 34], [0, 1, 2, 3, 4, 5, 6, 7, 8, 9, 10, 11, 12, 13, 14, 15, 16, 17, 18, 19, 20, 21, 22, 23, 24, 25, 26, 27, 28, 29, 30, 31, 32, 33, 34], [0, 1, 2, 3, 4, 5, 6, 7, 8, 9, 10, 11, 12, 13, 14, 15, 16, 17, 18, 19, 20, 21, 22, 23, 24, 25, 26, 27, 28, 29, 30, 31, 32, 33, 34], [0, 1, 2, 3, 4, 5, 6, 7, 8, 9, 10, 11, 12, 13, 14, 15, 16, 17, 18, 19, 20, 21, 22, 23, 24, 25, 26, 27, 28, 29, 30, 31, 32, 33, 34, 37], [0, 1, 2, 3, 4, 5, 6, 7, 8, 9, 10, 11, 12, 13, 14, 15, 16, 17, 18, 19, 20, 21, 22, 23, 24, 25, 26, 27, 28, 29, 30, 31, 32, 33, 34, 36, 37, 38, 39], [0, 1, 2, 3, 4, 5, 6, 7, 8, 9, 10, 11, 12, 13, 14, 15, 16, 17, 18, 19, 20, 21, 22, 23, 24, 25, 26, 27, 28, 29, 30, 31, 32, 33, 34, 35, 36, 37, 38, 39], [0, 1, 2, 3, 4, 5, 6, 7, 8, 9, 10, 11, 12, 13, 14, 15, 16, 17, 18, 19, 20, 21, 22, 23, 24, 25, 26, 27, 28, 29, 30, 31, 32, 33, 34, 35, 36, 37, 38, 39, 40, 41], [0, 1, 2, 3, 4, 5, 6, 7, 8, 9, 10, 11, 12, 13, 14, 15, 16, 17, 18, 19, 20, 21, 22, 23, 24, 25, 26, 27, 28, 29, 30, 31, 32, 33, 34, 35, 36, 37, 38, 39, 40, 41], [0, 1, 2, 3, 4, 5, 6, 7, 8, 9, 10, 11, 12, 13, 14, 15, 16, 17, 18, 19, 20, 21, 22, 23, 24, 25, 26, 27, 28, 29, 30, 31, 32, 33, 34, 35, 36, 37, 38, 39, 40, 41], [0, 1, 2, 3, 4, 5, 6, 7, 8, 9, 10, 11, 12, 13, 14, 15, 16, 17, 18, 19, 20, 21, 22, 23, 24, 25, 26, 27, 28, 29, 30, 31, 32, 33, 34, 35, 36, 37, 38, 39, 40, 41, 43, 44], [0, 1, 2, 3, 4, 5, 6, 7, 8, 9, 10, 11, 12, 13, 14, 15, 16, 17, 18, 19, 20, 21, 22, 23, 24, 25, 26, 27, 28, 29, 30, 31, 32, 33, 34, 35, 36, 37, 38, 39, 40, 41, 42, 43, 44], [0, 1, 2, 3, 4, 5, 6, 7, 8, 9, 10, 11, 12, 13, 14, 15, 16, 17, 18, 19, 20, 21, 22, 23, 24, 25, 26, 27, 28, 29, 30, 31, 32, 33, 34, 35, 36, 37, 38, 39, 40, 41, 42, 43, 44, 45, 46], [0, 1, 2, 3, 4, 5, 6, 7, 8, 9, 10, 11, 12, 13, 14, 15, 16, 17, 18, 19, 20, 21, 22, 23, 24, 25, 26, 27, 28, 29, 30, 31, 32, 33, 34, 35, 36, 37, 38, 39, 40, 41, 42, 43, 44, 45, 46], [0, 1, 2, 3, 4, 5, 6, 7, 8, 9, 10, 11, 12, 13, 14, 15, 16, 17, 18, 19, 20, 21, 22, 23, 24, 25, 26, 27, 28, 29, 30, 31, 32, 33, 34, 35, 36, 37, 38, 39, 40, 41, 42, 43, 44, 45, 46], [0, 1, 2, 3, 4, 5, 6, 7, 8, 9, 10, 11, 12, 13, 14, 15, 16, 17, 18, 19, 20, 21, 22, 23, 24, 25, 26, 27, 28, 29, 30, 31, 32, 33, 34, 35, 36, 37, 38, 39, 40, 41, 42, 43, 44, 45, 46, 48, 49], [0, 1, 2, 3, 4, 5, 6, 7, 8, 9, 10, 11, 12, 13, 14, 15, 16, 17, 18, 19, 20, 21, 22, 23, 24, 25, 26, 27, 28, 29, 30, 31, 32, 33, 34, 35, 36, 37, 38, 39, 40, 41, 42, 43, 44, 45, 46, 48, 49, 50], []]) (an := [{}, {}, {}, {}, {}, {}, {}, {}, {}, {}, { c := [94] }, { c := [94] }, { c := [94] }, {}, {}, {}, {}, {}, {}, {}, {}, {}, {}, {}, {}, {}, {}, {}, {}, {}, {}, {}, {}, {}, {}, {}, {}, {}, {}, {}, {}, {}, {}, {}, {}, {}, {}, {}, {}, {}, {}, {}, {}, {}]) rfl (by kernel_rfl) rfl fun K hK => ?_
  refine s_load rfl rfl rfl ?_
  refine s_call rfl rfl (c0) rfl rfl rfl rfl ?_
  refine s_call rfl rfl (c10) rfl rfl rfl rfl ?_
  refine s_build rfl rfl rfl ?_
  refine s_call rfl rfl (eS1) rfl rfl rfl rfl ?_
  refine s_move rfl rfl rfl ?_
  refine s_move rfl rfl rfl ?_
  refine s_call rfl rfl (c6) rfl rfl rfl rfl ?_
  refine s_call rfl rfl (cm3) rfl rfl rfl rfl ?_
  refine s_buildSliceD rfl rfl rfl rfl ?_
  refine s_call rfl rfl (cm3) rfl rfl rfl rfl ?_
  refine s_call rfl rfl (c3) rfl rfl rfl rfl ?_
  refine s_buildSliceD rfl rfl rfl rfl ?_
  refine s_buildSliceD rfl rfl rfl rfl ?_
  refine s_call rfl rfl (eM) rfl rfl rfl rfl ?_
  refine s_pick rfl rfl rfl ?_
  refine s_move rfl rfl rfl ?_
  refine s_move rfl rfl rfl ?_
  refine s_call rfl rfl (c30) rfl rfl rfl rfl ?_
  refine s_call rfl rfl (c0) rfl rfl rfl rfl ?_
  refine s_buildSliceD rfl rfl rfl rfl ?_
  refine s_call rfl rfl (eX) rfl rfl rfl rfl ?_
  refine s_pick rfl rfl rfl ?_
  refine s_move rfl rfl rfl ?_
  refine s_move rfl rfl rfl ?_
  refine s_call rfl rfl (cm30) rfl rfl rfl rfl ?_
  refine s_call rfl rfl (c30) rfl rfl rfl rfl ?_
  refine s_buildSliceD rfl rfl rfl rfl ?_
  refine s_call rfl rfl (eY) rfl rfl rfl rfl ?_
  refine s_pick rfl rfl rfl ?_
  refine s_move rfl rfl rfl ?_
  refine s_load rfl rfl rfl ?_
  refine s_call rfl rfl (c600) rfl rfl rfl rfl ?_
  refine s_call rfl rfl (eC) rfl rfl rfl rfl ?_
  refine s_pick rfl rfl rfl ?_
  refine s_move rfl rfl rfl ?_
  refine s_load rfl rfl rfl ?_
  refine s_call rfl rfl (c0) rfl rfl rfl rfl ?_
  refine s_call rfl rfl (cm10) rfl rfl rfl rfl ?_
  refine s_build rfl rfl rfl ?_
  refine s_call rfl rfl (eS2) rfl rfl rfl rfl ?_
  refine s_pick rfl rfl rfl ?_
  refine s_move rfl rfl rfl ?_
  refine s_move rfl rfl rfl ?_
  refine s_buildSliceD rfl rfl rfl rfl ?_
  refine s_call rfl rfl (eI) rfl rfl rfl rfl ?_
  refine s_pick rfl rfl rfl ?_
  refine s_move rfl rfl rfl ?_
  refine s_call rfl rfl (c1) rfl rfl rfl rfl ?_
  refine s_call rfl rfl (c1) rfl rfl rfl rfl ?_
  refine s_call rfl rfl (cMv) rfl rfl rfl rfl ?_
  refine s_call rfl rfl (spots_nil) rfl rfl rfl rfl ?_
  refine s_pick rfl rfl rfl ?_
  refine s_assign rfl rfl rfl ?_
  refine s_end (hK _ ?_); clear hK K
  refine AWP_ret ?_
  repeat (with_reducible refine tq_ret ?_)
  exact post_ret (fin_mk (by rfl) (by rfl) (by rfl))
end Go.Proofs.YtcafppnjemgkiaaGreat

/- The fixed examples hold. No condition. -/
namespace Go.Proofs.YtcafppnjemgkiaaGreat
def qA : RW := pzW 1 1
def pA : List PT := [⟨10, 0⟩, ⟨10, 0⟩]
def gA : GR := chG [qA, qA] pA 3
def zA : List SP := [sp0, sp0, sp0]
theorem tA0 : chV [qA, qA] pA 3 = (gA, 0) := by rfl
theorem tA1 : alongV gA 1 = (szW 0 10, 0) := by decide +kernel
theorem tA2 : nrV gA = ([[qzW 6, qzW (-3)], [qzW (-3), qzW 3]], [qzW 30, qzW 0], [qzW (-30), qzW 30], 0) := by decide +kernel
theorem tA3 : costV gA zA = (qzW 600, 0) := by decide +kernel
theorem tA4 : resV gA zA 1 = (szW 0 (-10), 0) := by decide +kernel
theorem tA5 : partsV gA = ([0, 0, 0], 0) := by decide +kernel
theorem tA6 : validB gA = true := by decide +kernel
theorem qA_ok : qA.OK 4096 := pzW_ok (by decide) (by decide)
theorem gA_ok : ∀ r ∈ gA.nodes, r.OK 4096 := by
  intro r hr
  obtain ⟨i, hi, rfl⟩ := List.mem_map.1 hr
  have hi := List.mem_range.1 hi
  have h := cn_ok (ts := [qA, qA]) (k := 2) (by intro r hr; simp at hr; subst hr; exact pzW_ok (by decide) (by decide)) (by decide) i
  have : pA.length = 2 := rfl
  exact h.mono (Nat.ble_eq_true_of_le (by omega))
theorem zA_ok : ∀ p ∈ zA, p.OK 4096 := by
  intro p hp
  have : p = sp0 := by simpa [zA] using hp
  subst this
  exact ⟨⟨wOK.nil, wOK.nil, by simp [sp0, rw00], by simp [sp0, rw00]⟩, ⟨wOK.nil, wOK.nil, by simp [sp0, rw00], by simp [sp0, rw00]⟩⟩
theorem RS_int (n : Int) (h : I64 n) : RS (qzW n) := by
  have h1 := qzW_ok (k := 2) (ql_i64 h)
  exact ⟨Nat.le_trans h1.lp (by decide), Nat.le_trans h1.lq (by decide)⟩

theorem awake_c : Con Tryz.prog 6 [] { v := dB true } := by
  have i : ∀ n : Int, -1000 ≤ n ∧ n ≤ 1000 → I64 n := fun n h => ⟨by omega, by omega⟩
  have s : ∀ n : Int, -1000 ≤ n ∧ n ≤ 1000 → RS (qzW n) := fun n h => RS_int n (i n h)
  have cCh := gChain_c [qA, qA] pA 3 (by intro r hr; simp at hr; subst hr; exact qA_ok) (by decide)
  have cAl := gAlong_c gA 1 (fun r hr => (gA_ok r hr).mono rfl) (by decide)
  have cNo := gNormal_c gA gA_ok
  have cCo := gCost_c gA zA gA_ok zA_ok
  have cRe := gResidual_c gA zA 1 (fun r hr => (gA_ok r hr).mono rfl) (fun r hr => (zA_ok r hr).mono rfl)
  have cPa := gParts_c gA
  have cVa := gValid_c gA
  rw [tA0] at cCh
  rw [tA1] at cAl
  rw [tA2] at cNo
  rw [tA3] at cCo
  rw [tA4] at cRe
  rw [tA5] at cPa
  rw [tA6] at cVa
  have cOf := r3Of_c 1 1 ⟨by decide, by decide⟩ ⟨by decide, by decide⟩
  have e1 : rP 1 1 = 1 := by decide
  have e2 : rQ 1 1 = 1 := by decide
  rw [e1, e2] at cOf
  have cMv := gMoved_c [] (qzW (1 : Int)) (qzW (1 : Int)) (by simp) (by simp) (qzW_ok (by decide)) (qzW_ok (by decide))
  refine awake_g qA (qzW (0 : Int)) (qzW (10 : Int)) (qzW (6 : Int)) (qzW (-3 : Int)) (qzW (3 : Int)) (qzW (30 : Int)) (qzW (-30 : Int)) (qzW (600 : Int)) (qzW (-10 : Int)) (qzW (1 : Int)) gA cOf cCh cAl cNo cCo cRe cPa cVa
    (n_c _ (i _ (by decide))) (n_c _ (i _ (by decide))) (n_c _ (i _ (by decide))) (n_c _ (i _ (by decide))) (n_c _ (i _ (by decide))) (n_c _ (i _ (by decide))) (n_c _ (i _ (by decide))) (n_c _ (i _ (by decide))) (n_c _ (i _ (by decide))) (n_c _ (i _ (by decide)))
    (spot_same _ (s _ (by decide)) (s _ (by decide))) (spot_same _ (s _ (by decide)) (s _ (by decide))) (matrix_same _ (by decide) ?_) (rats_same _ (by decide) ?_) (rats_same _ (by decide) ?_) (rat_same _ (s _ (by decide))) (ints_same [0, 0, 0] (by decide)) cMv
  · intro l hl
    simp only [List.mem_cons, List.not_mem_nil, or_false] at hl
    rcases hl with rfl | rfl
    · refine ⟨by decide, fun r hr => ?_⟩
      simp only [List.mem_cons, List.not_mem_nil, or_false] at hr
      rcases hr with rfl | rfl <;> exact s _ (by decide)
    · refine ⟨by decide, fun r hr => ?_⟩
      simp only [List.mem_cons, List.not_mem_nil, or_false] at hr
      rcases hr with rfl | rfl <;> exact s _ (by decide)
  · intro r hr
    simp only [List.mem_cons, List.not_mem_nil, or_false] at hr
    rcases hr with rfl | rfl <;> exact s _ (by decide)
  · intro r hr
    simp only [List.mem_cons, List.not_mem_nil, or_false] at hr
    rcases hr with rfl | rfl <;> exact s _ (by decide)
end Go.Proofs.YtcafppnjemgkiaaGreat

/- Displacements are as long as the steps of their links. No condition. -/
namespace Go.Proofs.YtcafppnjemgkiaaGreat
attribute [local irreducible] lexA

theorem fewB_ok {g : GR} (h : fewB g = true) (hw : ∀ r ∈ g.nodes, r.W) : (∀ r ∈ g.nodes, r.OK 2) ∧ g.nodes.length ≤ 18 ∧ g.links.length ≤ 50 := by
  rw [fewB, Bool.and_eq_true, decide_eq_true_eq] at h
  obtain ⟨h1, h2, h3⟩ := h
  rw [List.take_of_length_le (by omega), List.all_eq_true] at h1
  refine ⟨fun r hr => ?_, h2, h3⟩
  have := h1 r hr
  rw [shR, decide_eq_true_eq] at this
  exact ⟨(hw r hr).1, (hw r hr).2, this.1, this.2⟩
theorem fewB_l {g : GR} (h : (!fewB g) = false) : g.links.length ≤ 9223372036854775806 := by
  rw [Bool.not_eq_false', fewB, Bool.and_eq_true, decide_eq_true_eq] at h
  omega
theorem r2Mul_r (a b : RW) (z : Rat) (ha : a.OK 16777216) (hb : b.OK 16777216) (h : a.v * b.v = z) : Con Tryz.prog 46 [AG a.cs, AG b.cs] { v := AG (qzW z).cs } := by
  subst h
  exact r2Mul_q a.v b.v _ _ _ _ _ _ _ _ ha.op ha.oq hb.op hb.oq ha.lp ha.lq hb.lp hb.lq rfl rfl
theorem r2Add_r (a b : RW) (z : Rat) (ha : a.OK 16777216) (hb : b.OK 16777216) (h : a.v + b.v = z) : Con Tryz.prog 45 [AG a.cs, AG b.cs] { v := AG (qzW z).cs } := by
  subst h
  exact r2Add_q a.v b.v _ _ _ _ _ _ _ _ ha.op ha.oq hb.op hb.oq ha.lp ha.lq hb.lp hb.lq rfl rfl
theorem u8_i64 {k : Nat} (h : k < 256) : IntKind.i64.wrap ((k : Nat) : Int) = (k : Int) := IntWalk.i64_in _ (by omega)

end Go.Proofs.YtcafppnjemgkiaaGreat

/- The cost stays the same, if all positions are moved. No condition. -/
namespace Go.Proofs.YtcafppnjemgkiaaGreat
attribute [local irreducible] lexA

section
variable {T : Tab} {t : TypeId} {a b : Int}
theorem e_eqI (h : a = b) : effBin T .eql t (dI a) (dI b) = .set (dB true) := by
  subst h
  show Eff.set (dB (a == a)) = _
  rw [beq_self_eq_true]
end
def tabE : Tab := { tab with dat := fun _ => true }
theorem tokE : TOK Tryz.prog tabE := ⟨tok.ty, tok.clo, tok.eqs⟩
theorem fewS_ok {s : List SP} (h : fewS s = true) (hw : ∀ p ∈ s, p.W) : (∀ p ∈ s, p.OK 2) ∧ s.length ≤ 18 := by
  rw [fewS, Bool.and_eq_true, decide_eq_true_eq] at h
  obtain ⟨h1, h2⟩ := h
  rw [List.take_of_length_le (by omega), List.all_eq_true] at h1
  refine ⟨fun p hp => ?_, h2⟩
  have := h1 p hp
  rw [Bool.and_eq_true, shR, shR, decide_eq_true_eq, decide_eq_true_eq] at this
  obtain ⟨hx, hy⟩ := hw p hp
  exact ⟨⟨hx.1, hx.2, this.1.1, this.1.2⟩, ⟨hy.1, hy.2, this.2.1, this.2.2⟩⟩
theorem mvP_ok {x y : RW} {p : SP} {k m : Nat} (hx : x.OK k) (hy : y.OK k) (hp : p.OK k) (hk : Nat.ble 1 k = true) (hm : Nat.ble (2 * k + 1) m = true) : (mvP x y p).OK m := by
  have := Nat.le_of_ble_eq_true hm
  exact szW_ok (Nat.le_trans (ql_add_le (hp.qx hk) (hx.ql hk)) (by omega)) (Nat.le_trans (ql_add_le (hp.qy hk) (hy.ql hk)) (by omega))
theorem atS_map {f : SP → SP} {s : List SP} {i : Int} {n : Nat} (h : 0 ≤ i ∧ i < n) (hn : s.length = n) : atS (s.map f) i = f (atS s i) := by
  rw [atS, atS, List.getD_eq_getElem?_getD, List.getD_eq_getElem?_getD, List.getElem?_map, List.getElem?_eq_getElem (by omega)]
  rfl
theorem csR_congr {g h : GR} {s s' : List SP} : ∀ {ls : List LK}, (∀ l ∈ ls, csT g s l = csT h s' l) → csR g s ls = csR h s' ls := by
  have : ∀ (ls : List LK) (a : Rat), (∀ l ∈ ls, csT g s l = csT h s' l) → ls.foldl (fun a l => a + csT g s l) a = ls.foldl (fun a l => a + csT h s' l) a := by
    intro ls
    induction ls with
    | nil => intro a _; rfl
    | cons l ls ih =>
      intro a hh
      rw [List.foldl_cons, List.foldl_cons, hh l (List.mem_cons_self ..)]
      exact ih _ fun l hl => hh l (List.mem_cons_of_mem _ hl)
  exact fun {ls} hh => this ls 0 hh
theorem mv_eq (a b x y : Rat) : b + x - (a + x + y) = b - (a + y) := by grind
theorem mvP_x (x y : RW) (p : SP) : (mvP x y p).vx = p.vx + x.v := szW_vx _ _
theorem mvP_y (x y : RW) (p : SP) : (mvP x y p).vy = p.vy + y.v := szW_vy _ _
theorem rsS_mv (r : RW) (l : LK) (x y : RW) (a b : SP) : rsS r l (mvP x y a) (mvP x y b) = rsS r l a b := by
  have e1 : rsX r l (mvP x y a) (mvP x y b) = rsX r l a b := by
    unfold rsX; rw [mvP_x, mvP_x]; exact mv_eq _ _ _ _
  have e2 : rsY r l (mvP x y a) (mvP x y b) = rsY r l a b := by
    unfold rsY; rw [mvP_y, mvP_y]; exact mv_eq _ _ _ _
  unfold rsS; rw [e1, e2]
theorem rsG_mv {g : GR} {s : List SP} (x y : RW) (gs : GS g s) {l : LK} (hl : l ∈ g.links) : rsG g (s.map (mvP x y)) l = rsG g s l := by
  have lv := linkB_iff.1 (gs.gv.lk l hl)
  unfold rsG
  rw [atS_map lv.f gs.hs, atS_map lv.t gs.hs, rsS_mv]
theorem cost_mv (g : GR) (s : List SP) (x y : RW) : costV g (s.map (mvP x y)) = costV g s := by
  have hb : costB g (s.map (mvP x y)) = costB g s := by rw [costB, costB, List.length_map]
  unfold costV
  rw [hb]
  cases h : costB g s with
  | false => rw [if_neg Bool.false_ne_true, if_neg Bool.false_ne_true]
  | true =>
    have gs := costB_iff.1 h
    have e : csR g (s.map (mvP x y)) g.links = csR g s g.links := csR_congr fun l hl => by
      unfold csT; rw [rsG_mv x y gs hl]
    rw [e]

theorem spots_same (a : List SP) (hl : a.length ≤ 9223372036854775806) (h : ∀ p ∈ a, p.small) : Con Tryz.prog 30 [V1 (dSs a), V1 (dSs a)] { v := dB true } := by
  have c := bSpots_c a a hl h
  rwa [decide_eq_true rfl] at c
theorem RW.OK.RS {r : RW} {k : Nat} (h : r.OK k) (hk : Nat.ble k 1048576 = true) : RS r := ⟨Nat.le_trans h.lp (Nat.le_trans (Nat.le_of_ble_eq_true hk) (by decide)), Nat.le_trans h.lq (Nat.le_trans (Nat.le_of_ble_eq_true hk) (by decide))⟩
theorem SP.OK.sm {p : SP} {k : Nat} (h : p.OK k) (hk : Nat.ble k 1048576 = true) : p.small := ⟨h.x.RS hk, h.y.RS hk⟩
theorem costV_RS {g : GR} {s : List SP} (ok : ∀ r ∈ g.nodes, r.OK 4096) (os : ∀ p ∈ s, p.OK 4096) : RS (costV g s).1 := by
  rw [costV]
  cases h : costB g s with
  | false => exact (⟨by decide, by decide⟩ : RS rw00)
  | true =>
    have gs := costB_iff.1 h
    show RS (qzW (csR g s g.links))
    have h1 := csR_le gs ok os g.links (fun l hl => hl) 0
    have h2 := gs.gv.l
    have h3 : ql (0 : Rat) ≤ 1 := ql_zero
    have h4 : ql (csR g s g.links) ≤ 8388608 := Nat.le_trans h1 (by omega)
    have h5 := qzW_ok h4
    exact ⟨Nat.le_trans h5.lp (by decide), Nat.le_trans h5.lq (by decide)⟩

end Go.Proofs.YtcafppnjemgkiaaGreat

/- The components stay the same, if links are turned round. No condition. -/
namespace Go.Proofs.YtcafppnjemgkiaaGreat
attribute [local irreducible] lexA

theorem dNs_dIs (a : List Nat) : dNs a = dIs (a.map fun x : Nat => (x : Int)) := by
  unfold dNs dIs; rw [List.map_map]; rfl
theorem nats_same (a : List Nat) (hl : a.length ≤ 9223372036854775806) : Con Tryz.prog 14 [V1 (dNs a), V1 (dNs a)] { v := dB true } := by
  rw [dNs_dIs]; exact ints_same _ (by rwa [List.length_map])
theorem u64_nat {i : Nat} (h : i < 18446744073709551616) : IntKind.u64.wrap (i : Int) = (i : Int) := IntWalk.u64_in _ (by omega)

def lk0 : LK := ⟨0, 0, 0, 0, 0⟩
/-- A link, turned round if its bit is set. -/
def trL (bits i : Nat) (l : LK) : LK := if bits / 2 ^ i % 2 = 1 then ⟨l.t, l.f, 1, 0, 2⟩ else l
def trN (g : GR) (bits j : Nat) : LK := trL bits j (g.links.getD j lk0)
def trG (g : GR) (bits : Nat) : GR := ⟨g.nodes, (List.range g.links.length).map (trN g bits)⟩
theorem trN_get {g : GR} {bits j : Nat} (h : j < g.links.length) : trN g bits j = trL bits j g.links[j] := by
  rw [trN, List.getD_eq_getElem?_getD, List.getElem?_eq_getElem h]; rfl
theorem trL_LV {n bits i : Nat} {l : LK} (h : LV n l) : LV n (trL bits i l) := by
  unfold trL
  split
  · exact ⟨h.t, h.f, fun e => h.ne e.symm, (⟨by decide, by decide⟩ : (-1048576 : Int) ≤ 1 ∧ (1 : Int) ≤ 1048576), (⟨by decide, by decide⟩ : (-1048576 : Int) ≤ 0 ∧ (0 : Int) ≤ 1048576), (⟨by decide, by decide⟩ : (1 : Int) ≤ 2 ∧ (2 : Int) ≤ 1048576)⟩
  · exact h
theorem trL_uni (r : List Nat) (bits i : Nat) (l : LK) : uni r (trL bits i l).f.toNat (trL bits i l).t.toNat = uni r l.f.toNat l.t.toNat := by
  unfold trL
  split
  · exact uni_comm _ _ _
  · rfl
theorem trG_GV {g : GR} {bits : Nat} (gv : GV g) : GV (trG g bits) := by
  refine ⟨gv.n1, gv.n2, ?_, fun l hl => ?_⟩
  · show ((List.range g.links.length).map (trN g bits)).length ≤ 48
    rw [List.length_map, List.length_range]; exact gv.l
  · obtain ⟨j, hj, rfl⟩ := List.mem_map.1 hl
    have hj := List.mem_range.1 hj
    rw [trN_get hj]
    exact linkB_iff.2 (trL_LV (linkB_iff.1 (gv.lk _ (List.getElem_mem hj))))
theorem trG_parts (g : GR) (bits : Nat) : partsR (trG g bits) = partsR g := by
  have : ∀ k, k ≤ g.links.length → partsL g.nodes.length ((trG g bits).links.take k) = partsL g.nodes.length (g.links.take k) := by
    intro k
    induction k with
    | zero => intro _; rfl
    | succ k ih =>
      intro hk
      have hk' : k < g.links.length := by omega
      have hl : k < (trG g bits).links.length := by
        show k < ((List.range g.links.length).map (trN g bits)).length
        rw [List.length_map, List.length_range]; exact hk'
      have e : (trG g bits).links[k] = trL bits k g.links[k] := by
        simp only [trG, List.getElem_map, List.getElem_range]
        exact trN_get hk'
      rw [partsL_snoc _ hl, partsL_snoc _ hk', ih (by omega), e, trL_uni]
  have h := this g.links.length (Nat.le_refl _)
  rw [List.take_length, List.take_of_length_le (by show ((List.range g.links.length).map (trN g bits)).length ≤ _; simp)] at h
  exact h
theorem trG_V {g : GR} (bits : Nat) (gv : GV g) : partsV (trG g bits) = partsV g := by
  rw [partsV, partsV, if_pos (validB_iff.2 (trG_GV gv)), if_pos (validB_iff.2 gv), trG_parts]; rfl

end Go.Proofs.YtcafppnjemgkiaaGreat

/- The reference's chain is the chain. No condition. -/
namespace Go.Proofs.YtcafppnjemgkiaaGreat
attribute [local irreducible] lexA

theorem r3Of_01 : Con Tryz.prog 27 [dI 0, dI 1] { v := AG rot0.cs } := by
  have c := r3Of_c 0 1 ⟨by decide, by decide⟩ ⟨by decide, by decide⟩
  have e1 : rP 0 1 = 0 := by decide
  have e2 : rQ 0 1 = 1 := by decide
  rw [e1, e2] at c
  exact c
def okP (p : PT) : Bool := decide (-1048576 ≤ p.x ∧ p.x ≤ 1048576) && decide (-1048576 ≤ p.y ∧ p.y ≤ 1048576)
def bdB (w : Int) (l : List PT) : Bool := !(decide (1 ≤ w ∧ w ≤ 1048576) && l.all okP)
theorem bdB_ch (st : List PT) (w : Int) : bdB w st = !chB st w := by
  unfold bdB chB
  by_cases hw : 1 ≤ w ∧ w ≤ 1048576
  · have e0 : stepB 0 0 w = true := by simp only [stepB, inR, Bool.and_eq_true, decide_eq_true_eq]; omega
    have e1 : ∀ p : PT, stepB p.x p.y w = okP p := by
      intro p
      simp only [stepB, inR, okP]
      rw [decide_eq_true hw]
      rw [Bool.eq_iff_iff]; simp only [Bool.and_eq_true, decide_eq_true_eq, and_true]
    rw [decide_eq_true hw, e0, Bool.true_and, Bool.true_and]
    congr 2
    funext p; rw [e1]
  · have e0 : stepB 0 0 w = false := by
      rw [Bool.eq_false_iff]; simp only [stepB, inR, ne_eq, Bool.and_eq_true, decide_eq_true_eq]; omega
    rw [decide_eq_false hw, e0, Bool.false_and, Bool.false_and]
theorem bdB_snoc (w : Int) (l : List PT) (p : PT) : bdB w (l ++ [p]) = (bdB w l || !(decide (-1048576 ≤ p.x ∧ p.x ≤ 1048576)) || !(decide (-1048576 ≤ p.y ∧ p.y ≤ 1048576))) := by
  unfold bdB
  rw [List.all_append]
  simp only [List.all_cons, List.all_nil, okP]
  generalize decide (1 ≤ w ∧ w ≤ 1048576) = a
  generalize l.all okP = b
  generalize decide (-1048576 ≤ p.x ∧ p.x ≤ 1048576) = c
  generalize decide (-1048576 ≤ p.y ∧ p.y ≤ 1048576) = d
  revert a b c d; decide

end Go.Proofs.YtcafppnjemgkiaaGreat

/- Any chain is that of the reference. No condition. -/
namespace Go.Proofs.YtcafppnjemgkiaaGreat
attribute [local irreducible] lexA
open Go.RowKit

theorem eqLink : EqOK Tryz.prog 72 5 := by
  have hf : (Tryz.prog.fieldsOf 72).toList.map (fun f => (f.name == "_", f.type, f.offset)) = [(false, 3, 0), (false, 3, 1), (false, 3, 2), (false, 3, 3), (false, 3, 4)] := by kernel_rfl
  refine eq_ints (t := 3) (by kernel_rfl) (by kernel_rfl) (by kernel_rfl) (by kernel_rfl) ?_ (by kernel_rfl)
  rw [hf]
  exact ⟨rfl, rfl, rfl, rfl, rfl, trivial⟩
theorem e_neS {T : Tab} {t : TypeId} {l : LK} (h : T.eqs t = some 5) : effBin T .neq t (AG l.cs) (AG l.cs) = .set (dB false) := by
  simp only [effBin, litOf, effEq, h, LK.cs, intsC, setLit]
  simp
def tabL : Tab := { tab with eqs := fun t => if Nat.beq t 72 then some 5 else none }
theorem tokL : TOK Tryz.prog tabL := by
  refine ⟨tok.ty, tok.clo, fun t n h => ?_⟩
  simp only [tabL] at h
  split at h
  · rename_i ht
    cases h
    rw [Nat.eq_of_beq_eq_true ht]; exact eqLink
  · cases h
theorem chV_nodes {ts : List RW} {st : List PT} {w : Int} (ok : ∀ r ∈ ts, r.OK 2) (hs : st.length ≤ 20) : (∀ r ∈ (chV ts st w).1.nodes, RS r) ∧ (chV ts st w).1.nodes.length ≤ 1048576 ∧ (chV ts st w).1.links.length ≤ 1048576 := by
  have h0 : (∀ r ∈ g00.nodes, RS r) ∧ g00.nodes.length ≤ 1048576 ∧ g00.links.length ≤ 1048576 := ⟨fun _ h => (by cases h), by decide, by decide⟩
  unfold chV
  split
  · split
    · refine ⟨fun r hr => ?_, ?_, ?_⟩
      · obtain ⟨i, hi, rfl⟩ := List.mem_map.1 hr
        have hi := List.mem_range.1 hi
        exact (cn_ok ok (by decide) i).RS (Nat.ble_eq_true_of_le (by omega))
      · show ((List.range (st.length + 1)).map (cn ts)).length ≤ _
        rw [List.length_map, List.length_range]; omega
      · show ((List.range st.length).map (lkN st w)).length ≤ _
        rw [List.length_map, List.length_range]; omega
    · exact h0
  · exact h0

end Go.Proofs.YtcafppnjemgkiaaGreat

/- The positions of a chain that are added up from its displacements have the cost 0. No condition. -/
namespace Go.Proofs.YtcafppnjemgkiaaGreat
attribute [local irreducible] lexA

def posX (ts : List RW) (st : List PT) (w : Int) : Nat → Rat
  | 0 => 0
  | k + 1 => posX ts st w k + alX (cn ts k) (lkN st w k)
def posY (ts : List RW) (st : List PT) (w : Int) : Nat → Rat
  | 0 => 0
  | k + 1 => posY ts st w k + alY (cn ts k) (lkN st w k)
def posS (ts : List RW) (st : List PT) (w : Int) (k : Nat) : SP := szW (posX ts st w k) (posY ts st w k)
def posL (ts : List RW) (st : List PT) (w : Int) : List SP := (List.range (st.length + 1)).map (posS ts st w)

section
variable {ts : List RW} {st : List PT} {w : Int}
theorem chG_nodes : (chG ts st w).nodes.length = st.length + 1 := by
  show ((List.range (st.length + 1)).map (cn ts)).length = _
  rw [List.length_map, List.length_range]
theorem chG_links : (chG ts st w).links.length = st.length := by
  show ((List.range st.length).map (lkN st w)).length = _
  rw [List.length_map, List.length_range]
theorem chG_link {k : Nat} (h : k < (chG ts st w).links.length) : (chG ts st w).links[k] = lkN st w k := by
  simp [chG]
theorem chG_frN {k : Nat} (h : k < st.length) : frN (chG ts st w) (lkN st w k) = cn ts k := by
  rw [frN]
  show ((List.range (st.length + 1)).map (cn ts)).getD ((k : Int)).toNat rot0 = _
  rw [Int.toNat_natCast, List.getD_eq_getElem?_getD, List.getElem?_map, List.getElem?_range (by omega)]; rfl
theorem chG_GV (hA : chA ts st = true) (hB : chB st w = true) : GV (chG ts st w) := by
  have hl : ts.length = st.length ∧ ts.length ≤ 15 := of_decide_eq_true hA
  rw [chB, Bool.and_eq_true, List.all_eq_true] at hB
  refine ⟨by rw [chG_nodes]; omega, by rw [chG_nodes]; omega, by rw [chG_links]; omega, fun l hl' => ?_⟩
  obtain ⟨k, hk, rfl⟩ := List.mem_map.1 hl'
  have hk := List.mem_range.1 hk
  have hp := hB.2 st[k] (List.getElem_mem hk)
  have eP : PT.at st k = st[k] := by rw [PT.at, List.getD_eq_getElem?_getD, List.getElem?_eq_getElem hk]; rfl
  simp only [stepB, inR, Bool.and_eq_true, decide_eq_true_eq] at hp
  rw [chG_nodes]
  refine linkB_iff.2 ⟨⟨?_, ?_⟩, ⟨?_, ?_⟩, ?_, ?_, ?_, ?_⟩
  · show (0 : Int) ≤ (k : Int); omega
  · show (k : Int) < _; omega
  · show (0 : Int) ≤ (k : Int) + 1; omega
  · show (k : Int) + 1 < _; omega
  · show (k : Int) ≠ (k : Int) + 1; omega
  · show -1048576 ≤ (PT.at st k).x ∧ (PT.at st k).x ≤ 1048576; rw [eP]; exact hp.1.1
  · show -1048576 ≤ (PT.at st k).y ∧ (PT.at st k).y ≤ 1048576; rw [eP]; exact hp.1.2
  · exact hp.2
theorem chG_along (gv : GV (chG ts st w)) {k : Nat} (h : k < st.length) : alongV (chG ts st w) (k : Int) = (alS (cn ts k) (lkN st w k), 0) := by
  have hk : 0 ≤ (k : Int) ∧ ((k : Int)).toNat < (chG ts st w).links.length := by rw [chG_links]; omega
  rw [alongV, if_pos (validB_iff.2 gv), dif_pos hk, chG_link]
  rw [Int.toNat_natCast, chG_frN h]
theorem posL_at {k : Nat} {i : Int} (hi : i = (k : Int)) (h : k < st.length + 1) : atS (posL ts st w) i = posS ts st w k := by
  subst hi
  have hk : k < (posL ts st w).length := by simp [posL, h]
  rw [atS_get rfl hk]
  simp [posL]
theorem csR_zero {g : GR} {s : List SP} {ls : List LK} (h : ∀ l ∈ ls, csT g s l = 0) : csR g s ls = 0 := by
  have : ∀ (ls : List LK) (a : Rat), (∀ l ∈ ls, csT g s l = 0) → ls.foldl (fun a l => a + csT g s l) a = a := by
    intro ls
    induction ls with
    | nil => intro a _; rfl
    | cons l ls ih =>
      intro a hh
      rw [List.foldl_cons, hh l (List.mem_cons_self ..), Rat.add_zero]
      exact ih _ fun l hl => hh l (List.mem_cons_of_mem _ hl)
  exact this ls 0 h
theorem pos_zero (a d : Rat) : a + d - (a + d) = 0 := by grind
theorem chG_cost (gv : GV (chG ts st w)) : costV (chG ts st w) (posL ts st w) = (qzW 0, 0) := by
  have hb : costB (chG ts st w) (posL ts st w) = true := costB_iff.2 ⟨gv, by rw [chG_nodes]; simp [posL]⟩
  rw [costV, if_pos hb, csR_zero]
  intro l hl
  obtain ⟨k, hk, rfl⟩ := List.mem_map.1 hl
  have hk := List.mem_range.1 hk
  have e : rsG (chG ts st w) (posL ts st w) (lkN st w k) = szW 0 0 := by
    have a1 : atS (posL ts st w) (lkN st w k).f = posS ts st w k := posL_at rfl (by omega)
    have a2 : atS (posL ts st w) (lkN st w k).t = posS ts st w (k + 1) := posL_at (by show (k : Int) + 1 = ((k + 1 : Nat) : Int); omega) (by omega)
    rw [rsG, chG_frN hk, a1, a2, rsS]
    have e1 : rsX (cn ts k) (lkN st w k) (posS ts st w k) (posS ts st w (k + 1)) = 0 := by
      unfold rsX posS; rw [szW_vx, szW_vx]; exact pos_zero _ _
    have e2 : rsY (cn ts k) (lkN st w k) (posS ts st w k) (posS ts st w (k + 1)) = 0 := by
      unfold rsY posS; rw [szW_vy, szW_vy]; exact pos_zero _ _
    rw [e1, e2]
  rw [csT, e, szW_vx, szW_vy]
  grind
theorem pos_ql (gv : GV (chG ts st w)) (ok : ∀ r ∈ ts, r.OK 2) (k : Nat) (hk : k ≤ st.length) (h7 : st.length ≤ 7) : ql (posX ts st w k) ≤ 1 + k * 120 ∧ ql (posY ts st w k) ≤ 1 + k * 120 := by
  induction k with
  | zero => exact ⟨ql_zero, ql_zero⟩
  | succ k ih =>
    have ih := ih (by omega)
    have lv := linkB_iff.1 (gv.lk (lkN st w k) (List.mem_map.2 ⟨k, List.mem_range.2 (by omega), rfl⟩))
    have o : (alS (cn ts k) (lkN st w k)).OK 112 := alS_ok (k := 1 + k * (2 + 1)) (cn_ok ok (by decide) k) (Nat.ble_eq_true_of_le (by omega)) lv.ix lv.iy (Nat.ble_eq_true_of_le (by omega))
    have o1 := o.qx rfl
    have o2 := o.qy rfl
    rw [alS, szW_vx] at o1
    rw [alS, szW_vy] at o2
    exact ⟨Nat.le_trans (ql_add_le ih.1 o1) (by omega), Nat.le_trans (ql_add_le ih.2 o2) (by omega)⟩
end
theorem chV_cases (ts : List RW) (st : List PT) (w : Int) : (chV ts st w = (chG ts st w, 0) ∧ chA ts st = true ∧ chB st w = true) ∨ ∃ e : Int, e ≠ 0 ∧ chV ts st w = (g00, e) := by
  unfold chV
  cases hA : chA ts st with
  | false => exact Or.inr ⟨1, by decide, rfl⟩
  | true =>
    cases hB : chB st w with
    | false => exact Or.inr ⟨2, by decide, rfl⟩
    | true => exact Or.inl ⟨rfl, rfl, rfl⟩

end Go.Proofs.YtcafppnjemgkiaaGreat

/- The Laplacian of any graph is that of the reference, symmetric, with rows whose sums are 0. No condition. -/
namespace Go.Proofs.YtcafppnjemgkiaaGreat
attribute [local irreducible] lexA

/-- What Laplacian answers. -/
def lapV (g : GR) : List (List RW) × Int := if validB g then (lapQ g.nodes.length (lapM g.links), 0) else ([], 1)
theorem lapM_take_le {n : Nat} {ls : List LK} (h : ∀ l ∈ ls, LV n l) (h48 : ls.length ≤ 48) (j i k : Nat) : -50331648 ≤ lapM (ls.take j) i k ∧ lapM (ls.take j) i k ≤ 50331648 := by
  have h1 := lapM_le (n := n) (ls.take j) (fun l hl => h l (List.mem_of_mem_take hl)) i k
  have h2 : (ls.take j).length ≤ 48 := by rw [List.length_take]; omega
  omega
theorem lap_step {n : Nat} {M : Nat → Nat → Int} {l : LK} (lv : LV n l) (i k : Nat) :
    lapS M l.f.toNat l.t.toNat l.w i k = M i k + (if ((i : Int) = k ∧ (l.f = i ∨ l.t = i)) then l.w else 0) - (if ((i : Int) ≠ k ∧ ((l.f = i ∧ l.t = k) ∨ (l.f = k ∧ l.t = i))) then l.w else 0) := by
  rw [lapS_eq lv.fn.1]
  have h1 := lv.f; have h2 := lv.t
  simp only [lapD]
  repeat' split
  all_goals omega

theorem r28Lap_c (g : GR) (hl : g.links.length ≤ 9223372036854775806) : Con Tryz.prog 44 [AG g.cs] { v := .tup [.one (.d (dMs (lapV g).1)), .one (.d (lI (lapV g).2))] } := by
  refine con_intro (fn := Tryz.f44) tok Tryz.func44 (by kernel_rfl) rfl ?_
  intro w0 X
  rw [entry_mkE _ _ [(0, AG g.cs)] rfl rfl]
  refine AWP_reg_seq tok fun K hK => ?_
  refine s_box rfl rfl rfl rfl rfl rfl ?_
  refine s_assign rfl rfl rfl ?_
  refine s_assign rfl rfl rfl ?_
  refine s_end (hK _ ?_); clear hK K
  refine AWP_seq ?_
  refine AWP_reg_seq tok fun K hK => ?_
  refine s_load rfl rfl rfl ?_
  refine s_call rfl rfl (r28Valid_c g hl) rfl rfl rfl rfl ?_
  refine s_un rfl rfl rfl ?_
  refine s_end (hK _ ?_); clear hK K
  refine a_cond rfl (fun hc => ?_) (fun hc => ?_)
  · rw [Bool.not_eq_true'] at hc
    have e : lapV g = ([], 1) := by rw [lapV, if_neg (by rw [hc]; simp)]
    rw [e]
    refine AWP_reg_seq tok fun K hK => ?_
    refine s_assign rfl rfl rfl ?_
    refine s_assign rfl rfl rfl ?_
    refine s_end (hK _ ?_); clear hK K
    refine AWP_ret ?_
    repeat (with_reducible refine tq_ret ?_)
    exact post_ret (fin_mk (by rfl) (by rfl) (by rfl))
  rw [Bool.not_eq_false'] at hc
  have e : lapV g = (lapQ g.nodes.length (lapM g.links), 0) := by rw [lapV, if_pos hc]
  have gv := validB_iff.1 hc
  rw [e]
  obtain ⟨m, hm⟩ : ∃ m, g.nodes.length = m + 1 := ⟨g.nodes.length - 1, by have := gv.n1; omega⟩
  have n16 := gv.n2
  have l48 := gv.l
  have hLV : ∀ l ∈ g.links, LV (m + 1) l := fun l hl => hm ▸ linkB_iff.1 (gv.lk l hl)
  have hM := fun j i k => lapM_take_le hLV l48 j i k
  have eall : g.links.take g.links.length = g.links := List.take_length
  rw [hm]
  refine AWP_skip ?_
  show AWP _ _ _ _ _ _
  refine AWP_reg_seq tok fun K hK => ?_
  refine s_assign rfl rfl rfl ?_
  refine s_end (hK _ ?_); clear hK K
  refine AWP_seq ?_
  refine AWP_reg_seq tok fun K hK => ?_
  refine s_assign rfl rfl rfl ?_
  refine s_end (hK _ ?_); clear hK K
  refine AWP_block (a_loop (α := Nat) (fun i => mk 100 [(1, .ptr 1 0), (4, ownN 200 1 i), (5, dI i)] [(1, some (.box g.cs)), (200, arrN 1 (((List.range i).map (lapR (m + 1) (lapM g.links))).map cM) i)] []) (fun i => i ≤ m + 1) (fun i => m + 1 - i) 0 ?_ (Nat.zero_le _) ?_)
  · exact Wk.mk' ⟨rfl, rfl, rfl, trivial⟩ ⟨rfl, rfl, trivial⟩
  intro i hi
  refine AWP_seq ?_
  refine AWP_reg_seq tok fun K hK => ?_
  refine s_move rfl rfl rfl ?_
  refine s_fieldAddr rfl rfl rfl ?_
  refine s_load rfl rfl rfl ?_
  refine s_blt rfl (len_m RW.dc rfl rfl) rfl ?_
  refine s_bin rfl rfl rfl ?_
  refine s_end (hK _ ?_); clear hK K
  refine a_cond rfl (fun hg => ?_) (fun hg => ?_)
  · have hg : i < m + 1 := by simp at hg; omega
    refine AWP_skip ?_
    show AWP _ _ _ _ _ _
    refine AWP_seq ?_
    refine AWP_block ?_
    refine AWP_reg_seq tok fun K hK => ?_
    refine s_assign rfl rfl rfl ?_
    refine s_end (hK _ ?_); clear hK K
    have hrow : lapR (m + 1) (lapM g.links) i = (List.range (m + 1)).map fun k => qzW (lapM g.links i k : Int) := rfl
    have n1 : ((List.range i).map (lapR (m + 1) (lapM g.links))).map cM ++ [cM (lapR (m + 1) (lapM g.links) i)] = ((List.range (i + 1)).map (lapR (m + 1) (lapM g.links))).map cM := by
      rw [List.range_succ, List.map_append, List.map_append]; rfl
    have z1 : (((List.range i).map (lapR (m + 1) (lapM g.links))).map cM).length = i := by simp
    generalize ((List.range i).map (lapR (m + 1) (lapM g.links))).map cM = es at n1 z1 ⊢
    refine AWP_seq ?_
    refine AWP_reg_seq tok fun K hK => ?_
    refine s_assign rfl rfl rfl ?_
    refine s_end (hK _ ?_); clear hK K
    refine AWP_block (a_loop (α := Nat) (fun k => mk 100 [(1, .ptr 1 0), (4, ownN 200 1 i), (5, dI i), (6, ownN 201 4 k), (7, dI k)] [(1, some (.box g.cs)), (200, arrN 1 es i), (201, arrN 4 (((List.range k).map fun k => qzW (lapM g.links i k : Int)).map RW.dc) k)] []) (fun k => k ≤ m + 1) (fun k => m + 1 - k) 0 ?_ (Nat.zero_le _) ?_)
    · exact Wk.mk' ⟨rfl, rfl, rfl, rfl, rfl, trivial⟩ ⟨rfl, rfl, rfl, trivial⟩
    intro k hk
    refine AWP_seq ?_
    refine AWP_reg_seq tok fun K hK => ?_
    refine s_move rfl rfl rfl ?_
    refine s_fieldAddr rfl rfl rfl ?_
    refine s_load rfl rfl rfl ?_
    refine s_blt rfl (len_m RW.dc rfl rfl) rfl ?_
    refine s_bin rfl rfl rfl ?_
    refine s_end (hK _ ?_); clear hK K
    refine a_cond rfl (fun hg' => ?_) (fun hg' => ?_)
    · have hg' : k < m + 1 := by simp at hg'; omega
      have n2 : ((List.range k).map fun k => qzW (lapM g.links i k : Int)).map RW.dc ++ [(qzW (lapM g.links i k : Int)).dc] = ((List.range (k + 1)).map fun k => qzW (lapM g.links i k : Int)).map RW.dc := by
        rw [List.range_succ, List.map_append, List.map_append]; rfl
      have z2 : (((List.range k).map fun k => qzW (lapM g.links i k : Int)).map RW.dc).length = k := by simp
      generalize ((List.range k).map fun k => qzW (lapM g.links i k : Int)).map RW.dc = rs at n2 z2 ⊢
      refine AWP_skip ?_
      show AWP _ _ _ _ _ _
      refine AWP_seq ?_
      refine AWP_block ?_
      refine AWP_reg_seq tok fun K hK => ?_
      refine s_assign rfl rfl rfl ?_
      refine s_end (hK _ ?_); clear hK K
      refine AWP_seq ?_
      refine AWP_reg_seq tok fun K hK => ?_
      refine s_assign rfl rfl rfl ?_
      refine s_end (hK _ ?_); clear hK K
      refine AWP_block (a_loop (α := Nat) (fun j => mk 100 [(1, .ptr 1 0), (4, ownN 200 1 i), (5, dI i), (6, ownN 201 4 k), (7, dI k), (8, dI (lapM (g.links.take j) i k)), (9, dI j)] [(1, some (.box g.cs)), (200, arrN 1 es i), (201, arrN 4 rs k)] []) (fun j => j ≤ g.links.length) (fun j => g.links.length - j) 0 ?_ (Nat.zero_le _) ?_)
      · exact Wk.mk' ⟨rfl, rfl, rfl, rfl, rfl, rfl, rfl, trivial⟩ ⟨rfl, rfl, rfl, trivial⟩
      intro j hj
      refine AWP_seq ?_
      refine AWP_reg_seq tok fun K hK => ?_
      refine s_move rfl rfl rfl ?_
      refine s_fieldAddr rfl rfl rfl ?_
      refine s_load rfl rfl rfl ?_
      refine s_blt rfl (len_m LK.dc rfl rfl) rfl ?_
      refine s_bin rfl rfl rfl ?_
      refine s_end (hK _ ?_); clear hK K
      refine a_cond rfl (fun hg'' => ?_) (fun hg'' => ?_)
      · have hg'' : j < g.links.length := by simp at hg''; omega
        have lv := hLV _ (List.getElem_mem hg'')
        have hs := lapM_snoc hg''
        have hst := lap_step (M := lapM (g.links.take j)) lv i k
        have hb := hM j i k
        have lw := lv.w
        obtain ⟨l, el⟩ : ∃ l, l = g.links[j] := ⟨_, rfl⟩
        rw [← hs, ← el] at hst
        rw [← el] at lw
        generalize lapM (g.links.take j) i k = a at hst hb ⊢
        refine AWP_skip ?_
        show AWP _ _ _ _ _ _
        refine AWP_seq ?_
        refine AWP_block ?_
        refine AWP_reg_seq tok fun K hK => ?_
        refine s_fieldAddr rfl rfl rfl ?_
        refine s_load rfl rfl rfl ?_
        refine s_move rfl rfl rfl ?_
        refine s_indexAddr rfl (x_m LK.dc rfl rfl rfl rfl hg'' rfl) rfl ?_
        refine s_load rfl rfl rfl ?_
        refine s_alloc rfl rfl rfl rfl rfl (by rcases k with _|k <;> rcases i with _|i <;> rfl) ?_
        refine s_store rfl rfl rfl rfl rfl ?_
        refine s_end (hK _ ?_); clear hK K
        rw [← el]
        refine a_join (α := Int) (fun b => mk 100 [(1, .ptr 1 0), (4, ownN 200 1 i), (5, dI i), (6, ownN 201 4 k), (7, dI k), (8, dI b), (9, dI j), (10, .ptr 10 0)] [(1, some (.box g.cs)), (200, arrN 1 es i), (201, arrN 4 rs k), (10, some (.box l.cs))] []) (fun b => b = a + (if ((i : Int) = k ∧ (l.f = i ∨ l.t = i)) then l.w else 0)) ?_ ?_
        · refine a_join (α := Bool) (fun c => mk 100 [(1, .ptr 1 0), (4, ownN 200 1 i), (5, dI i), (6, ownN 201 4 k), (7, dI k), (8, dI a), (9, dI j), (10, .ptr 10 0), (54, dB c)] [(1, some (.box g.cs)), (200, arrN 1 es i), (201, arrN 4 rs k), (10, some (.box l.cs))] []) (fun c => c = decide ((i : Int) = k ∧ (l.f = i ∨ l.t = i))) ?_ ?_
          · refine AWP_regW fun K hK => ?_
            refine w_step tok rfl ?_
            refine s_move rfl rfl rfl ?_
            refine s_end ?_
            refine w_step tok rfl ?_
            refine s_move rfl rfl rfl ?_
            refine s_end ?_
            refine w_step tok rfl ?_
            refine s_bin rfl rfl rfl ?_
            refine s_end ?_
            refine w_step tok rfl ?_
            refine s_move rfl rfl rfl ?_
            refine s_end ?_
            refine w_split (fun h0 => ?_) (fun h0 => ?_)
            · refine w_step tok rfl ?_
              refine s_fieldAddr rfl rfl rfl ?_
              refine s_end ?_
              refine w_step tok rfl ?_
              refine s_load rfl rfl rfl ?_
              refine s_end ?_
              refine w_step tok rfl ?_
              refine s_move rfl rfl rfl ?_
              refine s_end ?_
              refine w_step tok rfl ?_
              refine s_bin rfl rfl rfl ?_
              refine s_end ?_
              refine w_step tok rfl ?_
              refine s_move rfl rfl rfl ?_
              refine s_end ?_
              refine w_split (fun h1 => ?_) (fun h1 => ?_)
              · refine w_skip rfl rfl ?_
                refine w_skip rfl rfl ?_
                refine w_skip rfl rfl ?_
                refine w_skip rfl rfl ?_
                refine w_step tok rfl ?_
                refine s_pick rfl rfl rfl ?_
                refine s_end ?_
                refine w_step tok rfl ?_
                refine s_pick rfl rfl rfl ?_
                refine s_end ?_
                refine w_end rfl (hK _ ?_); clear hK K
                exact ⟨_, (by simp only [beq_iff_eq, beq_eq_false_iff_ne, ne_eq] at h0 h1; rw [Bool.eq_iff_iff]; simp only [beq_iff_eq, decide_eq_true_eq, Bool.false_eq_true, eq_self_iff_true, true_iff, false_iff]; omega), Wk.mk' ⟨rfl, rfl, rfl, rfl, rfl, rfl, rfl, rfl, rfl, trivial⟩ ⟨rfl, rfl, rfl, rfl, trivial⟩⟩
              · refine w_step tok rfl ?_
                refine s_fieldAddr rfl rfl rfl ?_
                refine s_end ?_
                refine w_step tok rfl ?_
                refine s_load rfl rfl rfl ?_
                refine s_end ?_
                refine w_step tok rfl ?_
                refine s_move rfl rfl rfl ?_
                refine s_end ?_
                refine w_step tok rfl ?_
                refine s_bin rfl rfl rfl ?_
                refine s_end ?_
                refine w_step tok rfl ?_
                refine s_pick rfl rfl rfl ?_
                refine s_end ?_
                refine w_step tok rfl ?_
                refine s_pick rfl rfl rfl ?_
                refine s_end ?_
                refine w_end rfl (hK _ ?_); clear hK K
                exact ⟨_, (by simp only [beq_iff_eq, beq_eq_false_iff_ne, ne_eq] at h0 h1; rw [Bool.eq_iff_iff]; simp only [beq_iff_eq, decide_eq_true_eq, Bool.false_eq_true, eq_self_iff_true, true_iff, false_iff]; omega), Wk.mk' ⟨rfl, rfl, rfl, rfl, rfl, rfl, rfl, rfl, rfl, trivial⟩ ⟨rfl, rfl, rfl, rfl, trivial⟩⟩
            · refine w_skip rfl rfl ?_
              refine w_skip rfl rfl ?_
              refine w_skip rfl rfl ?_
              refine w_skip rfl rfl ?_
              refine w_skip rfl rfl ?_
              refine w_skip2 rfl rfl rfl ?_
              refine w_skip2 rfl rfl rfl ?_
              refine w_skip2 rfl rfl rfl ?_
              refine w_skip2 rfl rfl rfl ?_
              refine w_skip rfl rfl ?_
              refine w_step tok rfl ?_
              refine s_pick rfl rfl rfl ?_
              refine s_end ?_
              refine w_end rfl (hK _ ?_); clear hK K
              exact ⟨_, (by simp only [beq_iff_eq, beq_eq_false_iff_ne, ne_eq] at h0; rw [Bool.eq_iff_iff]; simp only [beq_iff_eq, decide_eq_true_eq, Bool.false_eq_true, eq_self_iff_true, true_iff, false_iff]; omega), Wk.mk' ⟨rfl, rfl, rfl, rfl, rfl, rfl, rfl, rfl, rfl, trivial⟩ ⟨rfl, rfl, rfl, rfl, trivial⟩⟩
          rintro c rfl
          refine a_cond rfl (fun hd => ?_) (fun hd => ?_)
          · rw [decide_eq_true_eq] at hd
            refine AWP_reg tok fun K hK => ?_
            refine s_move rfl rfl rfl ?_
            refine s_fieldAddr rfl rfl rfl ?_
            refine s_load rfl rfl rfl ?_
            refine s_bin rfl (e_add rfl (by omega)) rfl ?_
            refine s_assign rfl rfl rfl ?_
            refine s_end (hK _ ?_); clear hK K
            exact ⟨_, by rw [if_pos hd], Wk.mk' ⟨rfl, rfl, rfl, rfl, rfl, rfl, rfl, rfl, trivial⟩ ⟨rfl, rfl, rfl, rfl, trivial⟩⟩
          · rw [decide_eq_false_iff_not] at hd
            refine AWP_skip ?_
            exact ⟨_, by rw [if_neg hd, Int.add_zero], Wk.mk' ⟨rfl, rfl, rfl, rfl, rfl, rfl, rfl, rfl, trivial⟩ ⟨rfl, rfl, rfl, rfl, trivial⟩⟩
        intro b hbe
        have hb' : -51380224 ≤ b ∧ b ≤ 51380224 := by split at hbe <;> omega
        rw [← hbe] at hst
        refine a_join (α := Bool) (fun c => mk 100 [(1, .ptr 1 0), (4, ownN 200 1 i), (5, dI i), (6, ownN 201 4 k), (7, dI k), (8, dI b), (9, dI j), (10, .ptr 10 0), (85, dB c)] [(1, some (.box g.cs)), (200, arrN 1 es i), (201, arrN 4 rs k), (10, some (.box l.cs))] []) (fun c => c = decide ((i : Int) ≠ k ∧ ((l.f = i ∧ l.t = k) ∨ (l.f = k ∧ l.t = i)))) ?_ ?_
        · refine AWP_regW fun K hK => ?_
          refine w_step tok rfl ?_
          refine s_move rfl rfl rfl ?_
          refine s_end ?_
          refine w_step tok rfl ?_
          refine s_move rfl rfl rfl ?_
          refine s_end ?_
          refine w_step tok rfl ?_
          refine s_bin rfl rfl rfl ?_
          refine s_end ?_
          refine w_step tok rfl ?_
          refine s_move rfl rfl rfl ?_
          refine s_end ?_
          refine w_split (fun h0 => ?_) (fun h0 => ?_)
          · refine w_step tok rfl ?_
            refine s_fieldAddr rfl rfl rfl ?_
            refine s_end ?_
            refine w_step tok rfl ?_
            refine s_load rfl rfl rfl ?_
            refine s_end ?_
            refine w_step tok rfl ?_
            refine s_move rfl rfl rfl ?_
            refine s_end ?_
            refine w_step tok rfl ?_
            refine s_bin rfl rfl rfl ?_
            refine s_end ?_
            refine w_step tok rfl ?_
            refine s_move rfl rfl rfl ?_
            refine s_end ?_
            refine w_split (fun h1 => ?_) (fun h1 => ?_)
            · refine w_step tok rfl ?_
              refine s_fieldAddr rfl rfl rfl ?_
              refine s_end ?_
              refine w_step tok rfl ?_
              refine s_load rfl rfl rfl ?_
              refine s_end ?_
              refine w_step tok rfl ?_
              refine s_move rfl rfl rfl ?_
              refine s_end ?_
              refine w_step tok rfl ?_
              refine s_bin rfl rfl rfl ?_
              refine s_end ?_
              refine w_step tok rfl ?_
              refine s_pick rfl rfl rfl ?_
              refine s_end ?_
              refine w_step tok rfl ?_
              refine s_move rfl rfl rfl ?_
              refine s_end ?_
              refine w_split (fun h2 => ?_) (fun h2 => ?_)
              · refine w_skip rfl rfl ?_
                refine w_skip rfl rfl ?_
                refine w_skip rfl rfl ?_
                refine w_skip rfl rfl ?_
                refine w_skip rfl rfl ?_
                refine w_skip2 rfl rfl rfl ?_
                refine w_skip2 rfl rfl rfl ?_
                refine w_skip2 rfl rfl rfl ?_
                refine w_skip2 rfl rfl rfl ?_
                refine w_skip rfl rfl ?_
                refine w_step tok rfl ?_
                refine s_pick rfl rfl rfl ?_
                refine s_end ?_
                refine w_step tok rfl ?_
                refine s_pick rfl rfl rfl ?_
                refine s_end ?_
                refine w_end rfl (hK _ ?_); clear hK K
                exact ⟨_, (by simp only [beq_iff_eq, beq_eq_false_iff_ne, ne_eq, bne_iff_ne, bne_eq_false_iff_eq] at h0 h1 h2; rw [Bool.eq_iff_iff]; simp only [beq_iff_eq, decide_eq_true_eq, Bool.false_eq_true, eq_self_iff_true, true_iff, false_iff, ne_eq]; omega), Wk.mk' ⟨rfl, rfl, rfl, rfl, rfl, rfl, rfl, rfl, rfl, trivial⟩ ⟨rfl, rfl, rfl, rfl, trivial⟩⟩
              · refine w_step tok rfl ?_
                refine s_fieldAddr rfl rfl rfl ?_
                refine s_end ?_
                refine w_step tok rfl ?_
                refine s_load rfl rfl rfl ?_
                refine s_end ?_
                refine w_step tok rfl ?_
                refine s_move rfl rfl rfl ?_
                refine s_end ?_
                refine w_step tok rfl ?_
                refine s_bin rfl rfl rfl ?_
                refine s_end ?_
                refine w_step tok rfl ?_
                refine s_move rfl rfl rfl ?_
                refine s_end ?_
                refine w_split (fun h3 => ?_) (fun h3 => ?_)
                · refine w_step tok rfl ?_
                  refine s_fieldAddr rfl rfl rfl ?_
                  refine s_end ?_
                  refine w_step tok rfl ?_
                  refine s_load rfl rfl rfl ?_
                  refine s_end ?_
                  refine w_step tok rfl ?_
                  refine s_move rfl rfl rfl ?_
                  refine s_end ?_
                  refine w_step tok rfl ?_
                  refine s_bin rfl rfl rfl ?_
                  refine s_end ?_
                  refine w_step tok rfl ?_
                  refine s_pick rfl rfl rfl ?_
                  refine s_end ?_
                  refine w_step tok rfl ?_
                  refine s_pick rfl rfl rfl ?_
                  refine s_end ?_
                  refine w_step tok rfl ?_
                  refine s_pick rfl rfl rfl ?_
                  refine s_end ?_
                  refine w_end rfl (hK _ ?_); clear hK K
                  exact ⟨_, (by simp only [beq_iff_eq, beq_eq_false_iff_ne, ne_eq, bne_iff_ne, bne_eq_false_iff_eq] at h0 h1 h2 h3; rw [Bool.eq_iff_iff]; simp only [beq_iff_eq, decide_eq_true_eq, Bool.false_eq_true, eq_self_iff_true, true_iff, false_iff, ne_eq]; omega), Wk.mk' ⟨rfl, rfl, rfl, rfl, rfl, rfl, rfl, rfl, rfl, trivial⟩ ⟨rfl, rfl, rfl, rfl, trivial⟩⟩
                · refine w_skip rfl rfl ?_
                  refine w_skip rfl rfl ?_
                  refine w_skip rfl rfl ?_
                  refine w_skip rfl rfl ?_
                  refine w_step tok rfl ?_
                  refine s_pick rfl rfl rfl ?_
                  refine s_end ?_
                  refine w_step tok rfl ?_
                  refine s_pick rfl rfl rfl ?_
                  refine s_end ?_
                  refine w_step tok rfl ?_
                  refine s_pick rfl rfl rfl ?_
                  refine s_end ?_
                  refine w_end rfl (hK _ ?_); clear hK K
                  exact ⟨_, (by simp only [beq_iff_eq, beq_eq_false_iff_ne, ne_eq, bne_iff_ne, bne_eq_false_iff_eq] at h0 h1 h2 h3; rw [Bool.eq_iff_iff]; simp only [beq_iff_eq, decide_eq_true_eq, Bool.false_eq_true, eq_self_iff_true, true_iff, false_iff, ne_eq]; omega), Wk.mk' ⟨rfl, rfl, rfl, rfl, rfl, rfl, rfl, rfl, rfl, trivial⟩ ⟨rfl, rfl, rfl, rfl, trivial⟩⟩
            · refine w_skip rfl rfl ?_
              refine w_skip rfl rfl ?_
              refine w_skip rfl rfl ?_
              refine w_skip rfl rfl ?_
              refine w_step tok rfl ?_
              refine s_pick rfl rfl rfl ?_
              refine s_end ?_
              refine w_step tok rfl ?_
              refine s_move rfl rfl rfl ?_
              refine s_end ?_
              refine w_step tok rfl ?_
              refine s_fieldAddr rfl rfl rfl ?_
              refine s_end ?_
              refine w_step tok rfl ?_
              refine s_load rfl rfl rfl ?_
              refine s_end ?_
              refine w_step tok rfl ?_
              refine s_move rfl rfl rfl ?_
              refine s_end ?_
              refine w_step tok rfl ?_
              refine s_bin rfl rfl rfl ?_
              refine s_end ?_
              refine w_step tok rfl ?_
              refine s_move rfl rfl rfl ?_
              refine s_end ?_
              refine w_split (fun h2 => ?_) (fun h2 => ?_)
              · refine w_step tok rfl ?_
                refine s_fieldAddr rfl rfl rfl ?_
                refine s_end ?_
                refine w_step tok rfl ?_
                refine s_load rfl rfl rfl ?_
                refine s_end ?_
                refine w_step tok rfl ?_
                refine s_move rfl rfl rfl ?_
                refine s_end ?_
                refine w_step tok rfl ?_
                refine s_bin rfl rfl rfl ?_
                refine s_end ?_
                refine w_step tok rfl ?_
                refine s_pick rfl rfl rfl ?_
                refine s_end ?_
                refine w_step tok rfl ?_
                refine s_pick rfl rfl rfl ?_
                refine s_end ?_
                refine w_step tok rfl ?_
                refine s_pick rfl rfl rfl ?_
                refine s_end ?_
                refine w_end rfl (hK _ ?_); clear hK K
                exact ⟨_, (by simp only [beq_iff_eq, beq_eq_false_iff_ne, ne_eq, bne_iff_ne, bne_eq_false_iff_eq] at h0 h1 h2; rw [Bool.eq_iff_iff]; simp only [beq_iff_eq, decide_eq_true_eq, Bool.false_eq_true, eq_self_iff_true, true_iff, false_iff, ne_eq]; omega), Wk.mk' ⟨rfl, rfl, rfl, rfl, rfl, rfl, rfl, rfl, rfl, trivial⟩ ⟨rfl, rfl, rfl, rfl, trivial⟩⟩
              · refine w_skip rfl rfl ?_
                refine w_skip rfl rfl ?_
                refine w_skip rfl rfl ?_
                refine w_skip rfl rfl ?_
                refine w_step tok rfl ?_
                refine s_pick rfl rfl rfl ?_
                refine s_end ?_
                refine w_step tok rfl ?_
                refine s_pick rfl rfl rfl ?_
                refine s_end ?_
                refine w_step tok rfl ?_
                refine s_pick rfl rfl rfl ?_
                refine s_end ?_
                refine w_end rfl (hK _ ?_); clear hK K
                exact ⟨_, (by simp only [beq_iff_eq, beq_eq_false_iff_ne, ne_eq, bne_iff_ne, bne_eq_false_iff_eq] at h0 h1 h2; rw [Bool.eq_iff_iff]; simp only [beq_iff_eq, decide_eq_true_eq, Bool.false_eq_true, eq_self_iff_true, true_iff, false_iff, ne_eq]; omega), Wk.mk' ⟨rfl, rfl, rfl, rfl, rfl, rfl, rfl, rfl, rfl, trivial⟩ ⟨rfl, rfl, rfl, rfl, trivial⟩⟩
          · refine w_skip rfl rfl ?_
            refine w_skip rfl rfl ?_
            refine w_skip rfl rfl ?_
            refine w_skip rfl rfl ?_
            refine w_skip rfl rfl ?_
            refine w_skip2 rfl rfl rfl ?_
            refine w_skip2 rfl rfl rfl ?_
            refine w_skip2 rfl rfl rfl ?_
            refine w_skip2 rfl rfl rfl ?_
            refine w_skip rfl rfl ?_
            refine w_skip rfl rfl ?_
            refine w_skip2 rfl rfl rfl ?_
            refine w_skip2 rfl rfl rfl ?_
            refine w_skip2 rfl rfl rfl ?_
            refine w_skip2 rfl rfl rfl ?_
            refine w_skip2 rfl rfl rfl ?_
            refine w_skip2 rfl rfl rfl ?_
            refine w_skip2 rfl rfl rfl ?_
            refine w_skip2 rfl rfl rfl ?_
            refine w_skip2 rfl rfl rfl ?_
            refine w_skip2 rfl rfl rfl ?_
            refine w_skip rfl rfl ?_
            refine w_step tok rfl ?_
            refine s_pick rfl rfl rfl ?_
            refine s_end ?_
            refine w_end rfl (hK _ ?_); clear hK K
            exact ⟨_, (by simp only [beq_iff_eq, beq_eq_false_iff_ne, ne_eq, bne_iff_ne, bne_eq_false_iff_eq] at h0; rw [Bool.eq_iff_iff]; simp only [beq_iff_eq, decide_eq_true_eq, Bool.false_eq_true, eq_self_iff_true, true_iff, false_iff, ne_eq]; omega), Wk.mk' ⟨rfl, rfl, rfl, rfl, rfl, rfl, rfl, rfl, rfl, trivial⟩ ⟨rfl, rfl, rfl, rfl, trivial⟩⟩
        rintro c rfl
        refine a_cond rfl (fun hd => ?_) (fun hd => ?_)
        · rw [decide_eq_true_eq] at hd
          rw [if_pos hd] at hst
          refine AWP_reg tok fun K hK => ?_
          refine s_move rfl rfl rfl ?_
          refine s_fieldAddr rfl rfl rfl ?_
          refine s_load rfl rfl rfl ?_
          refine s_bin rfl (e_sub hst.symm (by have := hM (j + 1) i k; omega)) rfl ?_
          refine s_assign rfl rfl rfl ?_
          refine s_end (hK _ ?_); clear hK K
          show AWP _ _ _ _ _ _
          refine AWP_reg tok fun K hK => ?_
          refine s_move rfl rfl rfl ?_
          refine s_bin rfl (e_add (c := ((j + 1 : Nat) : Int)) (by omega) (by omega)) rfl ?_
          refine s_assign rfl rfl rfl ?_
          refine s_end (hK _ ?_); clear hK K
          exact ⟨j + 1, by omega, hg'', Wk.mk' ⟨rfl, rfl, rfl, rfl, rfl, rfl, rfl, trivial⟩ ⟨rfl, rfl, rfl, trivial⟩⟩
        · rw [decide_eq_false_iff_not] at hd
          rw [if_neg hd, Int.sub_zero] at hst
          refine AWP_skip ?_
          show AWP _ _ _ _ _ _
          rw [← hst]
          refine AWP_reg tok fun K hK => ?_
          refine s_move rfl rfl rfl ?_
          refine s_bin rfl (e_add (c := ((j + 1 : Nat) : Int)) (by omega) (by omega)) rfl ?_
          refine s_assign rfl rfl rfl ?_
          refine s_end (hK _ ?_); clear hK K
          exact ⟨j + 1, by omega, hg'', Wk.mk' ⟨rfl, rfl, rfl, rfl, rfl, rfl, rfl, trivial⟩ ⟨rfl, rfl, rfl, trivial⟩⟩
      have hj' : j = g.links.length := by simp at hg''; omega
      subst hj'
      have hb := hM g.links.length i k
      rw [eall] at hb ⊢
      have co := r2OfI_c (lapM g.links i k) ⟨by omega, by omega⟩
      refine AWP_exit ?_
      show AWP _ _ _ _ _ _
      rcases k with _ | k
      · refine AWP_reg tok fun K hK => ?_
        refine s_move rfl rfl rfl ?_
        refine s_move rfl rfl rfl ?_
        refine s_call rfl rfl (co) rfl rfl rfl rfl ?_
        refine s_buildSlice rfl rfl (by rcases i with _|i <;> rfl) rfl ?_
        refine s_append rfl (ap_nil rfl rfl rfl rfl rfl (by decide) (Nat.le_of_ble_eq_true rfl) rfl (by simp) rfl (by simp) (by simp)) (by rcases i with _|i <;> rfl) rfl ?_
        refine s_assign rfl rfl rfl ?_
        refine s_end (hK _ ?_); clear hK K
        show AWP _ _ _ _ _ _
        refine AWP_reg tok fun K hK => ?_
        refine s_move rfl rfl rfl ?_
        refine s_bin rfl (e_add (c := ((0 + 1 : Nat) : Int)) (by omega) (by omega)) rfl ?_
        refine s_assign rfl rfl rfl ?_
        refine s_end (hK _ ?_); clear hK K
        refine ⟨0 + 1, by omega, hg', Wk.rn [1, 4, 5, 7, 6] [1, 200, 94] 94 201 rfl rfl (by rcases i with _ | i <;> rfl) ⟨rfl, (by rcases i with _ | i <;> rfl), rfl, ?_, rfl, trivial⟩ ⟨rfl, (by rcases i with _ | i <;> rfl), ?_, trivial⟩⟩
        · first
            | rfl
            | (show SV.val (.one (.own 201 4 0 _)) = _
               rw [List.length_append, z2]; rfl)
        · first
            | (rw [← n2, List.length_eq_zero_iff.1 z2]; rfl)
            | (rw [← n2]; rfl)
      · refine AWP_reg tok fun K hK => ?_
        refine s_move rfl rfl rfl ?_
        refine s_move rfl rfl rfl ?_
        refine s_call rfl rfl (co) rfl rfl rfl rfl ?_
        refine s_buildSlice rfl rfl (by rcases i with _|i <;> rfl) rfl ?_
        refine s_append rfl (ap_o rfl rfl rfl rfl rfl rfl (by decide) (Nat.le_of_ble_eq_true rfl) rfl (by simp) rfl rfl z2.symm (by simp <;> omega)) (by rcases i with _|i <;> rfl) rfl ?_
        refine s_assign rfl rfl rfl ?_
        refine s_end (hK _ ?_); clear hK K
        show AWP _ _ _ _ _ _
        refine AWP_reg tok fun K hK => ?_
        refine s_move rfl rfl rfl ?_
        refine s_bin rfl (e_add (c := ((k + 1 + 1 : Nat) : Int)) (by omega) (by omega)) rfl ?_
        refine s_assign rfl rfl rfl ?_
        refine s_end (hK _ ?_); clear hK K
        refine ⟨k + 1 + 1, by omega, hg', Wk.rn [1, 4, 5, 7, 6] [1, 200, 94] 94 201 rfl rfl (by rcases i with _ | i <;> rfl) ⟨rfl, (by rcases i with _ | i <;> rfl), rfl, ?_, rfl, trivial⟩ ⟨rfl, (by rcases i with _ | i <;> rfl), ?_, trivial⟩⟩
        · first
            | rfl
            | (show SV.val (.one (.own 201 4 0 _)) = _
               rw [List.length_append, z2]; rfl)
        · first
            | (rw [← n2, List.length_eq_zero_iff.1 z2]; rfl)
            | (rw [← n2]; rfl)
    have hk' : k = m + 1 := by simp at hg'; omega
    subst hk'
    refine AWP_exit ?_
    show AWP _ _ _ _ _ _
    rcases i with _ | i
    · refine a_fz [1, 4, 5, 6] [1, 200, 201] 201 [(1, .ptr 1 0), (4, ownN 200 1 (0)), (5, dI (0 : Nat)), (6, V1 (dRs (lapR (m + 1) (lapM g.links) (0))))] [(1, some (.box g.cs)), (200, arrN 1 es (0))] rfl ⟨rfl, rfl, rfl, ?_, trivial⟩ ⟨rfl, rfl, trivial⟩ ?_
      · exact frz_own rfl (by simp [lapR])
      refine AWP_reg tok fun K hK => ?_
      refine s_move rfl rfl rfl ?_
      refine s_move rfl rfl rfl ?_
      refine s_buildSlice rfl rfl rfl rfl ?_
      refine s_append rfl (ap_nil rfl rfl rfl rfl rfl (by decide) (Nat.le_of_ble_eq_true rfl) rfl (by simp) rfl (by simp) (by simp)) rfl rfl ?_
      refine s_assign rfl rfl rfl ?_
      refine s_end (hK _ ?_); clear hK K
      show AWP _ _ _ _ _ _
      refine AWP_reg tok fun K hK => ?_
      refine s_move rfl rfl rfl ?_
      refine s_bin rfl (e_add (c := ((0 + 1 : Nat) : Int)) (by omega) (by omega)) rfl ?_
      refine s_assign rfl rfl rfl ?_
      refine s_end (hK _ ?_); clear hK K
      refine ⟨0 + 1, by omega, hg, Wk.rn [1, 5, 4] [1, 98] 98 200 rfl rfl rfl ⟨rfl, ?_, rfl, trivial⟩ ⟨rfl, ?_, trivial⟩⟩
      · first
          | rfl
          | (show SV.val (.one (.own 200 1 0 _)) = _
             rw [List.length_append, z1]; rfl)
      · first
          | (rw [← n1, List.length_eq_zero_iff.1 z1]; rfl)
          | (rw [← n1]; rfl)
    · refine a_fz [1, 4, 5, 6] [1, 200, 201] 201 [(1, .ptr 1 0), (4, ownN 200 1 (i + 1)), (5, dI (i + 1 : Nat)), (6, V1 (dRs (lapR (m + 1) (lapM g.links) (i + 1))))] [(1, some (.box g.cs)), (200, arrN 1 es (i + 1))] rfl ⟨rfl, rfl, rfl, ?_, trivial⟩ ⟨rfl, rfl, trivial⟩ ?_
      · exact frz_own rfl (by simp [lapR])
      refine AWP_reg tok fun K hK => ?_
      refine s_move rfl rfl rfl ?_
      refine s_move rfl rfl rfl ?_
      refine s_buildSlice rfl rfl rfl rfl ?_
      refine s_append rfl (ap_o rfl rfl rfl rfl rfl rfl (by decide) (Nat.le_of_ble_eq_true rfl) rfl (by simp) rfl rfl z1.symm (by simp <;> omega)) rfl rfl ?_
      refine s_assign rfl rfl rfl ?_
      refine s_end (hK _ ?_); clear hK K
      show AWP _ _ _ _ _ _
      refine AWP_reg tok fun K hK => ?_
      refine s_move rfl rfl rfl ?_
      refine s_bin rfl (e_add (c := ((i + 1 + 1 : Nat) : Int)) (by omega) (by omega)) rfl ?_
      refine s_assign rfl rfl rfl ?_
      refine s_end (hK _ ?_); clear hK K
      refine ⟨i + 1 + 1, by omega, hg, Wk.rn [1, 5, 4] [1, 98] 98 200 rfl rfl rfl ⟨rfl, ?_, rfl, trivial⟩ ⟨rfl, ?_, trivial⟩⟩
      · first
          | rfl
          | (show SV.val (.one (.own 200 1 0 _)) = _
             rw [List.length_append, z1]; rfl)
      · first
          | (rw [← n1, List.length_eq_zero_iff.1 z1]; rfl)
          | (rw [← n1]; rfl)
  have hi' : i = m + 1 := by simp at hg; omega
  subst hi'
  refine AWP_exit ?_
  show AWP _ _ _ _ _ _
  refine a_fz [4] [200] 200 [(4, V1 (dMs (lapQ (m + 1) (lapM g.links))))] [] rfl ⟨?_, trivial⟩ trivial ?_
  · exact frz_own rfl (by simp [lapQ])
  refine AWP_reg_seq tok fun K hK => ?_
  refine s_move rfl rfl rfl ?_
  refine s_assign rfl rfl rfl ?_
  refine s_assign rfl rfl rfl ?_
  refine s_end (hK _ ?_); clear hK K
  refine AWP_ret ?_
  repeat (with_reducible refine tq_ret ?_)
  exact post_ret (fin_mk (by rfl) (by rfl) (by rfl))

theorem e_neI {T : Tab} {t : TypeId} {a b : Int} (h : a = b) : effBin T .neq t (dI a) (dI b) = .set (dB false) := by
  subst h
  show Eff.set (dB (a != a)) = _
  rw [show (a != a) = false by simp]
theorem lapQ_len (n : Nat) (M : Nat → Nat → Int) : (lapQ n M).length = n := by simp [lapQ]
theorem lapR_len (n : Nat) (M : Nat → Nat → Int) (i : Nat) : (lapR n M i).length = n := by simp [lapR]
theorem lapQ_get {n : Nat} {M : Nat → Nat → Int} {i : Nat} (h : i < (lapQ n M).length) : (lapQ n M)[i] = lapR n M i := by simp [lapQ]
theorem lapR_get {n : Nat} {M : Nat → Nat → Int} {i k : Nat} (h : k < (lapR n M i).length) : (lapR n M i)[k] = qzW (M i k : Int) := by simp [lapR]
theorem lapV_form (g : GR) : ∃ (n : Nat) (M : Nat → Nat → Int), (lapV g).1 = lapQ n M ∧ n ≤ 16 ∧ (∀ i k, M i k = M k i) ∧ (∀ i, sumI (M i) n = 0) ∧ ∀ i k, -50331648 ≤ M i k ∧ M i k ≤ 50331648 := by
  cases hv : validB g with
  | false => exact ⟨0, fun _ _ => 0, by rw [lapV, if_neg (by rw [hv]; simp)]; rfl, by decide, fun _ _ => rfl, fun _ => rfl, fun _ _ => (⟨by decide, by decide⟩ : (-50331648 : Int) ≤ 0 ∧ (0 : Int) ≤ 50331648)⟩
  | true =>
    have gv := validB_iff.1 hv
    have hLV : ∀ l ∈ g.links, LV g.nodes.length l := fun l hl => linkB_iff.1 (gv.lk l hl)
    refine ⟨g.nodes.length, lapM g.links, by rw [lapV, if_pos hv], gv.n2, lapM_symm g.links hLV, lapM_sum g.links hLV, fun i k => ?_⟩
    have := lapM_take_le hLV gv.l g.links.length i k
    rwa [List.take_length] at this
theorem sumI_le {F : Nat → Int} {c : Int} (h : ∀ i, -c ≤ F i ∧ F i ≤ c) (k : Nat) : -(c * k) ≤ sumI F k ∧ sumI F k ≤ c * k := by
  induction k with
  | zero => simp [sumI]
  | succ k ih =>
    have := h k
    rw [sumI, show c * ((k + 1 : Nat) : Int) = c * k + c by rw [Int.natCast_add, Int.mul_add]; simp]
    omega

end Go.Proofs.YtcafppnjemgkiaaGreat

/- The reference's displacements, residuals and costs. No condition. -/
namespace Go.Proofs.YtcafppnjemgkiaaGreat
attribute [local irreducible] lexA

theorem r3Turn_r (r : RW) (x y u v : Rat) (ok : r.OK 1048576) (hx : ql x ≤ 1048576) (hy : ql y ≤ 1048576) (hu : cosR r.p r.q * x - sinR r.p r.q * y = u) (hv : sinR r.p r.q * x + cosR r.p r.q * y = v) :
    Con Tryz.prog 36 [AG r.cs, AG (qzW x).cs, AG (qzW y).cs] { v := .tup [.agg (qzW u).cs, .agg (qzW v).cs] } := by
  subst hu hv
  have hx' := qzW_ok hx
  have hy' := qzW_ok hy
  have c := r3Turn_c r.np r.nq (qzW x).np (qzW x).nq (qzW y).np (qzW y).nq r.wp r.wq (qzW x).wp (qzW x).wq (qzW y).wp (qzW y).wq ok.op ok.oq hx'.op hx'.oq hy'.op hy'.oq ok.lp ok.lq hx'.lp hx'.lq hy'.lp hy'.lq
  have e1 : qv (qzW x).np (qzW x).wp (qzW x).nq (qzW x).wq = x := qzW_v x
  have e2 : qv (qzW y).np (qzW y).wp (qzW y).nq (qzW y).wq = y := qzW_v y
  rw [e1, e2] at c
  exact c

theorem r2Sub_r (a b : RW) (z : Rat) (ha : a.OK 16777215) (hb : b.OK 16777215) (h : a.v - b.v = z) : Con Tryz.prog 48 [AG a.cs, AG b.cs] { v := AG (qzW z).cs } := by
  subst h
  exact r2Sub_q a.v b.v _ _ _ _ _ _ _ _ ha.op ha.oq hb.op hb.oq ha.lp ha.lq hb.lp hb.lq rfl rfl

theorem r28Along_c (g : GR) (k : Int) (ok : ∀ r ∈ g.nodes, r.OK 1048576) (hl : g.links.length ≤ 9223372036854775806) :
    Con Tryz.prog 11 [AG g.cs, dI k] { v := .tup [.agg (alongV g k).1.cs, .one (.d (lI (alongV g k).2))] } := by
  refine con_intro (fn := Tryz.f11) tok Tryz.func11 (by kernel_rfl) rfl ?_
  intro w0 X
  rw [entry_mkE _ _ [(0, AG g.cs), (1, dI k)] rfl rfl]
  refine AWP_reg_seq tok fun K hK => ?_
  refine s_box rfl rfl rfl rfl rfl rfl ?_
  refine s_alloc rfl rfl rfl rfl rfl rfl ?_
  refine s_assign rfl rfl rfl ?_
  refine s_end (hK _ ?_); clear hK K
  refine AWP_seq ?_
  refine AWP_reg_seq tok fun K hK => ?_
  refine s_load rfl rfl rfl ?_
  refine s_call rfl rfl (r28Valid_c g hl) rfl rfl rfl rfl ?_
  refine s_un rfl rfl rfl ?_
  refine s_end (hK _ ?_); clear hK K
  refine a_cond rfl (fun hc => ?_) (fun hc => ?_)
  · rw [Bool.not_eq_true'] at hc
    have e : alongV g k = (sp0, 1) := by rw [alongV, if_neg (by rw [hc]; simp)]
    rw [e]
    refine AWP_reg_seq tok fun K hK => ?_
    refine s_build rfl rfl rfl ?_
    refine s_store rfl rfl rfl rfl rfl ?_
    refine s_assign rfl rfl rfl ?_
    refine s_end (hK _ ?_); clear hK K
    refine AWP_ret ?_
    repeat (with_reducible refine tq_ret ?_)
    exact post_ret (fin_mk (by rfl) (by rfl) (by rfl))
  rw [Bool.not_eq_false'] at hc
  have gv := validB_iff.1 hc
  have l48 := gv.l
  refine AWP_skip ?_
  show AWP _ _ _ _ _ _
  refine AWP_seq ?_
  refine a_join (α := Bool) (fun c => mk 47 [(1, dI k), (2, .ptr 2 0), (4, .ptr 4 0), (21, dB c)] [(2, some (.box g.cs)), (4, some (.box [.d (.lit (.bool false)), .nil, .d (.lit (.bool false)), .nil, .d (.lit (.bool false)), .nil, .d (.lit (.bool false)), .nil]))] []) (fun c => c = !decide (0 ≤ k ∧ k.toNat < g.links.length)) ?_ ?_
  · refine AWP_regW fun K hK => ?_
    refine w_step tok rfl ?_
    refine s_move rfl rfl rfl ?_
    refine s_end ?_
    refine w_step tok rfl ?_
    refine s_bin rfl rfl rfl ?_
    refine s_end ?_
    refine w_step tok rfl ?_
    refine s_move rfl rfl rfl ?_
    refine s_end ?_
    refine w_split (fun h0 => ?_) (fun h0 => ?_)
    · refine w_skip rfl rfl ?_
      refine w_skip rfl rfl ?_
      refine w_skip rfl rfl ?_
      refine w_skip rfl rfl ?_
      refine w_skip rfl rfl ?_
      refine w_step tok rfl ?_
      refine s_pick rfl rfl rfl ?_
      refine s_end ?_
      refine w_end rfl (hK _ ?_); clear hK K
      exact ⟨_, (by simp only [decide_eq_true_eq, decide_eq_false_iff_not] at h0; rw [Bool.eq_iff_iff]; simp only [Bool.not_eq_true', decide_eq_false_iff_not, decide_eq_true_eq, true_iff]; omega), Wk.mk' ⟨rfl, rfl, rfl, rfl, trivial⟩ ⟨rfl, rfl, trivial⟩⟩
    · refine w_step tok rfl ?_
      refine s_move rfl rfl rfl ?_
      refine s_end ?_
      refine w_step tok rfl ?_
      refine s_fieldAddr rfl rfl rfl ?_
      refine s_end ?_
      refine w_step tok rfl ?_
      refine s_load rfl rfl rfl ?_
      refine s_end ?_
      refine w_step tok rfl ?_
      refine s_blt rfl (len_m LK.dc rfl rfl) rfl ?_
      refine s_end ?_
      refine w_step tok rfl ?_
      refine s_bin rfl rfl rfl ?_
      refine s_end ?_
      refine w_step tok rfl ?_
      refine s_pick rfl rfl rfl ?_
      refine s_end ?_
      refine w_end rfl (hK _ ?_); clear hK K
      exact ⟨_, (by simp only [decide_eq_true_eq, decide_eq_false_iff_not] at h0; rw [Bool.eq_iff_iff]; simp only [Bool.not_eq_true', decide_eq_false_iff_not, decide_eq_true_eq, true_iff]; omega), Wk.mk' ⟨rfl, rfl, rfl, rfl, trivial⟩ ⟨rfl, rfl, trivial⟩⟩
  rintro c rfl
  refine a_cond rfl (fun hd => ?_) (fun hd => ?_)
  · rw [Bool.not_eq_true', decide_eq_false_iff_not] at hd
    have e : alongV g k = (sp0, 2) := by rw [alongV, if_pos hc, dif_neg hd]
    rw [e]
    refine AWP_reg_seq tok fun K hK => ?_
    refine s_build rfl rfl rfl ?_
    refine s_store rfl rfl rfl rfl rfl ?_
    refine s_assign rfl rfl rfl ?_
    refine s_end (hK _ ?_); clear hK K
    refine AWP_ret ?_
    repeat (with_reducible refine tq_ret ?_)
    exact post_ret (fin_mk (by rfl) (by rfl) (by rfl))
  rw [Bool.not_eq_false', decide_eq_true_eq] at hd
  have e : alongV g k = (alS (frN g g.links[k.toNat]) g.links[k.toNat], 0) := by rw [alongV, if_pos hc, dif_pos hd]
  rw [e]
  have lv := linkB_iff.1 (gv.lk _ (List.getElem_mem hd.2))
  obtain ⟨l, el⟩ : ∃ l, l = g.links[k.toNat] := ⟨_, rfl⟩
  rw [← el] at lv ⊢
  obtain ⟨i, j, hi, hj, e1, e2, _⟩ := lv.lt
  have hr : g.nodes[i] = frN g l := by rw [frN, e1, Int.toNat_natCast, List.getD_eq_getElem?_getD, List.getElem?_eq_getElem hi]; rfl
  have or := ok _ (frN_mem lv)
  have c1 := r2OfI_c l.x lv.ix
  have c2 := r2OfI_c l.y lv.iy
  have c3 := r3Turn_r (frN g l) l.x l.y _ _ or (Nat.le_trans (ql_i64 lv.ix) (by decide)) (Nat.le_trans (ql_i64 lv.iy) (by decide)) rfl rfl
  rw [show (alS (frN g l) l).cs = (SP.mk (qzW (alX (frN g l) l)) (qzW (alY (frN g l) l))).cs from rfl]
  refine AWP_skip ?_
  show AWP _ _ _ _ _ _
  refine AWP_reg_seq tok fun K hK => ?_
  refine s_fieldAddr rfl rfl rfl ?_
  refine s_load rfl rfl rfl ?_
  refine s_move rfl rfl rfl ?_
  refine s_indexAddr rfl (x_m LK.dc rfl rfl rfl (by omega) hd.2 rfl) rfl ?_
  refine s_load rfl (by rw [← el]; rfl) rfl ?_
  refine s_alloc rfl rfl rfl rfl rfl rfl ?_
  refine s_store rfl rfl rfl rfl rfl ?_
  refine s_end (hK _ ?_); clear hK K
  refine a_draw tok mixed (A := [[], [], [], [], [0, 2], [0, 1, 2, 3], [], [], [6], [], [], [6, 7, 9], [0, 1, 2, 3, 4, 6, 7, 9, 10], [0, 1, 2, 3, 4, 5, 6, 7, 8, 9, 10, 11], [0, 1, 2, 3, 4, 5, 6, 7, 8, 9, 10, 11, 12], [0, 1, 2, 3, 4, 5, 6, 7, 8, 9, 10, 11, 12], [], [], [], []]) (an := [{}, {}, {}, {}, {}, {}, {}, {}, {}, { c := [37] }, { c := [37] }, {}, {}, {}, {}, {}, { c := [37, 40, 41] }, { c := [37, 40, 41, 7] }, {}, {}]) rfl (by kernel_rfl) rfl fun K hK => ?_
  refine s_fieldAddr rfl rfl rfl ?_
  refine s_load rfl rfl rfl ?_
  refine s_fieldAddr rfl rfl rfl ?_
  refine s_load rfl rfl rfl ?_
  refine s_indexAddr rfl (x_m RW.dc rfl rfl rfl e1 hi rfl) rfl ?_
  refine s_load rfl (by rw [hr]; rfl) rfl ?_
  refine s_fieldAddr rfl rfl rfl ?_
  refine s_load rfl rfl rfl ?_
  refine s_call rfl rfl (c1) rfl rfl rfl rfl ?_
  refine s_fieldAddr rfl rfl rfl ?_
  refine s_load rfl rfl rfl ?_
  refine s_call rfl rfl (c2) rfl rfl rfl rfl ?_
  refine s_call rfl rfl (c3) rfl rfl rfl rfl ?_
  refine s_move rfl rfl rfl ?_
  refine s_extract rfl rfl rfl ?_
  refine s_extract rfl rfl rfl ?_
  refine s_alloc rfl rfl rfl rfl rfl rfl ?_
  refine s_alloc rfl rfl rfl rfl rfl rfl ?_
  refine s_store rfl rfl rfl rfl rfl ?_
  refine s_store rfl rfl rfl rfl rfl ?_
  refine s_end (hK _ ?_); clear hK K
  refine AWP_reg_seq tok fun K hK => ?_
  refine s_load rfl rfl rfl ?_
  refine s_load rfl rfl rfl ?_
  refine s_build rfl rfl rfl ?_
  refine s_store rfl rfl rfl rfl rfl ?_
  refine s_assign rfl rfl rfl ?_
  refine s_end (hK _ ?_); clear hK K
  refine AWP_ret ?_
  repeat (with_reducible refine tq_ret ?_)
  exact post_ret (fin_mk (by rfl) (by rfl) (by rfl))

theorem r28Residual_c (g : GR) (s : List SP) (k : Int) (ok : ∀ r ∈ g.nodes, r.OK 4096) (os : ∀ p ∈ s, p.OK 4096) (hl : g.links.length ≤ 9223372036854775806) :
    Con Tryz.prog 22 [AG g.cs, V1 (dSs s), dI k] { v := .tup [.agg (resV g s k).1.cs, .one (.d (lI (resV g s k).2))] } := by
  refine con_intro (fn := Tryz.f22) tok Tryz.func22 (by kernel_rfl) rfl ?_
  intro w0 X
  rw [entry_mkE _ _ [(0, AG g.cs), (1, V1 (dSs s)), (2, dI k)] rfl rfl]
  refine AWP_reg_seq tok fun K hK => ?_
  refine s_box rfl rfl rfl rfl rfl rfl ?_
  refine s_alloc rfl rfl rfl rfl rfl rfl ?_
  refine s_assign rfl rfl rfl ?_
  refine s_end (hK _ ?_); clear hK K
  refine AWP_seq ?_
  refine a_join (α := Bool) (fun c => mk 75 [(1, V1 (dSs s)), (2, dI k), (3, .ptr 3 0), (6, .ptr 6 0), (23, dB c)] [(3, some (.box g.cs)), (6, some (.box [.d (.lit (.bool false)), .nil, .d (.lit (.bool false)), .nil, .d (.lit (.bool false)), .nil, .d (.lit (.bool false)), .nil]))] []) (fun c => c = !costB g s) ?_ ?_
  · refine AWP_regW fun K hK => ?_
    refine w_step tok rfl ?_
    refine s_load rfl rfl rfl ?_
    refine s_end ?_
    refine w_step tok rfl ?_
    refine s_call rfl rfl (r28Valid_c g hl) rfl rfl rfl rfl ?_
    refine s_end ?_
    refine w_step tok rfl ?_
    refine s_un rfl rfl rfl ?_
    refine s_end ?_
    refine w_step tok rfl ?_
    refine s_move rfl rfl rfl ?_
    refine s_end ?_
    refine w_split (fun h0 => ?_) (fun h0 => ?_)
    · refine w_skip rfl rfl ?_
      refine w_skip rfl rfl ?_
      refine w_skip rfl rfl ?_
      refine w_skip rfl rfl ?_
      refine w_skip rfl rfl ?_
      refine w_skip rfl rfl ?_
      refine w_step tok rfl ?_
      refine s_pick rfl rfl rfl ?_
      refine s_end ?_
      refine w_end rfl (hK _ ?_); clear hK K
      exact ⟨_, (by simp only [Bool.not_eq_true', Bool.not_eq_false'] at h0; simp only [costB, h0, Bool.false_and, Bool.true_and, Bool.not_false, e_ne]; try (rw [Bool.eq_iff_iff]; simp only [decide_eq_true_eq, Bool.not_eq_true', decide_eq_false_iff_not]; omega)), Wk.mk' ⟨rfl, rfl, rfl, rfl, rfl, trivial⟩ ⟨rfl, rfl, trivial⟩⟩
    · refine w_step tok rfl ?_
      refine s_move rfl rfl rfl ?_
      refine s_end ?_
      refine w_step tok rfl ?_
      refine s_blt rfl (len_m SP.dc rfl rfl) rfl ?_
      refine s_end ?_
      refine w_step tok rfl ?_
      refine s_fieldAddr rfl rfl rfl ?_
      refine s_end ?_
      refine w_step tok rfl ?_
      refine s_load rfl rfl rfl ?_
      refine s_end ?_
      refine w_step tok rfl ?_
      refine s_blt rfl (len_m RW.dc rfl rfl) rfl ?_
      refine s_end ?_
      refine w_step tok rfl ?_
      refine s_bin rfl rfl rfl ?_
      refine s_end ?_
      refine w_step tok rfl ?_
      refine s_pick rfl rfl rfl ?_
      refine s_end ?_
      refine w_end rfl (hK _ ?_); clear hK K
      exact ⟨_, (by simp only [Bool.not_eq_true', Bool.not_eq_false'] at h0; simp only [costB, h0, Bool.false_and, Bool.true_and, Bool.not_false, e_ne]; try (rw [Bool.eq_iff_iff]; simp only [decide_eq_true_eq, Bool.not_eq_true', decide_eq_false_iff_not]; omega)), Wk.mk' ⟨rfl, rfl, rfl, rfl, rfl, trivial⟩ ⟨rfl, rfl, trivial⟩⟩
  rintro c rfl
  refine a_cond rfl (fun hc => ?_) (fun hc => ?_)
  · rw [Bool.not_eq_true'] at hc
    have e : resV g s k = (sp0, 1) := by rw [resV, if_neg (by rw [hc]; simp)]
    rw [e]
    refine AWP_reg_seq tok fun K hK => ?_
    refine s_build rfl rfl rfl ?_
    refine s_store rfl rfl rfl rfl rfl ?_
    refine s_assign rfl rfl rfl ?_
    refine s_end (hK _ ?_); clear hK K
    refine AWP_ret ?_
    repeat (with_reducible refine tq_ret ?_)
    exact post_ret (fin_mk (by rfl) (by rfl) (by rfl))
  rw [Bool.not_eq_false'] at hc
  have gs := costB_iff.1 hc
  have l48 := gs.gv.l
  have ca := r28Along_c g k (fun r hr => (ok r hr).mono rfl) hl
  refine AWP_skip ?_
  show AWP _ _ _ _ _ _
  by_cases hd : 0 ≤ k ∧ k.toNat < g.links.length
  · have e : resV g s k = (rsG g s g.links[k.toNat], 0) := by rw [resV, if_pos hc, dif_pos hd]
    have ea : alongV g k = (alS (frN g g.links[k.toNat]) g.links[k.toNat], 0) := by rw [alongV, if_pos (validB_iff.2 gs.gv), dif_pos hd]
    rw [ea] at ca
    rw [e]
    have lv := linkB_iff.1 (gs.gv.lk _ (List.getElem_mem hd.2))
    obtain ⟨l, el⟩ : ∃ l, l = g.links[k.toNat] := ⟨_, rfl⟩
    rw [← el] at lv ca ⊢
    obtain ⟨i, j, hi, hj, e1, e2, _⟩ := lv.lt
    have hi' : i < s.length := by rw [gs.hs]; exact hi
    have hj' : j < s.length := by rw [gs.hs]; exact hj
    have eF := atS_get e1 hi'
    have eT := atS_get e2 hj'
    have oF := os _ (atS_mem lv.f gs.hs)
    have oT := os _ (atS_mem lv.t gs.hs)
    have oa : (alS (frN g l) l).OK 16391 := alS_ok (ok _ (frN_mem lv)) rfl lv.ix lv.iy rfl
    have hrs : rsG g s l = szW ((atS s l.t).vx - (atS s l.f).vx - (alS (frN g l) l).vx) ((atS s l.t).vy - (atS s l.f).vy - (alS (frN g l) l).vy) := by
      rw [rsG, rsS, alS, szW_vx, szW_vy]
      have q1 : rsX (frN g l) l (atS s l.f) (atS s l.t) = (atS s l.t).vx - (atS s l.f).vx - alX (frN g l) l := by unfold rsX; grind
      have q2 : rsY (frN g l) l (atS s l.f) (atS s l.t) = (atS s l.t).vy - (atS s l.f).vy - alY (frN g l) l := by unfold rsY; grind
      rw [q1, q2]
    rw [hrs]
    generalize alS (frN g l) l = d at ca oa hrs ⊢
    have x1 := ql_sub_le (oT.qx rfl) (oF.qx rfl)
    have y1 := ql_sub_le (oT.qy rfl) (oF.qy rfl)
    have c1 := r2Sub_r (atS s l.t).x (atS s l.f).x ((atS s l.t).vx - (atS s l.f).vx) (oT.x.mono rfl) (oF.x.mono rfl) rfl
    have c2 := r2Sub_r (qzW ((atS s l.t).vx - (atS s l.f).vx)) d.x ((atS s l.t).vx - (atS s l.f).vx - d.vx) ((qzW_ok x1).mono rfl) (oa.x.mono rfl) (by rw [qzW_v]; rfl)
    have c3 := r2Sub_r (atS s l.t).y (atS s l.f).y ((atS s l.t).vy - (atS s l.f).vy) (oT.y.mono rfl) (oF.y.mono rfl) rfl
    have c4 := r2Sub_r (qzW ((atS s l.t).vy - (atS s l.f).vy)) d.y ((atS s l.t).vy - (atS s l.f).vy - d.vy) ((qzW_ok y1).mono rfl) (oa.y.mono rfl) (by rw [qzW_v]; rfl)
    generalize (atS s l.t).vx - (atS s l.f).vx - d.vx = ux at c2 ⊢
    generalize (atS s l.t).vy - (atS s l.f).vy - d.vy = uy at c4 ⊢
    generalize (atS s l.t).vx - (atS s l.f).vx = vx at c1 c2
    generalize (atS s l.t).vy - (atS s l.f).vy = vy at c3 c4
    rw [show (szW ux uy).cs = (SP.mk (qzW ux) (qzW uy)).cs from rfl]
    generalize atS s l.f = pf at eF c1 c3
    generalize atS s l.t = pt at eT c1 c3
    refine AWP_reg_seq tok fun K hK => ?_
    refine s_load rfl rfl rfl ?_
    refine s_move rfl rfl rfl ?_
    refine s_call rfl rfl (ca) rfl rfl rfl rfl ?_
    refine s_move rfl rfl rfl ?_
    refine s_extract rfl rfl rfl ?_
    refine s_extract rfl rfl rfl ?_
    refine s_alloc rfl rfl rfl rfl rfl rfl ?_
    refine s_store rfl rfl rfl rfl rfl ?_
    refine s_assign rfl rfl rfl ?_
    refine s_end (hK _ ?_); clear hK K
    refine AWP_seq ?_
    refine AWP_reg_seq tok fun K hK => ?_
    refine s_move rfl rfl rfl ?_
    refine s_bin rfl rfl rfl ?_
    refine s_end (hK _ ?_); clear hK K
    refine a_cond rfl (fun hx => ?_) (fun hx => ?_)
    · exact absurd (show ((0 : Int) != 0) = true from hx) (by decide)
    refine AWP_skip ?_
    show AWP _ _ _ _ _ _
    refine AWP_reg_seq tok fun K hK => ?_
    refine s_fieldAddr rfl rfl rfl ?_
    refine s_load rfl rfl rfl ?_
    refine s_move rfl rfl rfl ?_
    refine s_indexAddr rfl (x_m LK.dc rfl rfl rfl (by omega) hd.2 rfl) rfl ?_
    refine s_load rfl (by rw [← el]; rfl) rfl ?_
    refine s_alloc rfl rfl rfl rfl rfl rfl ?_
    refine s_store rfl rfl rfl rfl rfl ?_
    refine s_end (hK _ ?_); clear hK K
    refine a_draw tok mixed (A := [[], [], [], [1], [0, 1, 2], [0, 1, 2, 3], [], [], [], [7], [6, 7, 8], [6, 7, 8, 9], [0, 1, 2, 3, 4, 6, 7, 8, 9, 10], [], [], [0, 1, 2, 3, 4, 5, 6, 7, 8, 9, 10, 11, 13], [], []]) (an := [{}, {}, {}, {}, {}, {}, {}, {}, {}, {}, {}, {}, {}, { c := [52] }, { c := [52] }, {}, { c := [52, 55] }, {}]) rfl (by kernel_rfl) rfl fun K hK => ?_
    refine s_move rfl rfl rfl ?_
    refine s_fieldAddr rfl rfl rfl ?_
    refine s_load rfl rfl rfl ?_
    refine s_indexAddr rfl (x_m SP.dc rfl rfl rfl e2 hj' rfl) rfl ?_
    refine s_fieldAddr rfl rfl rfl ?_
    refine s_load rfl (by rw [← eT]; rfl) rfl ?_
    refine s_move rfl rfl rfl ?_
    refine s_fieldAddr rfl rfl rfl ?_
    refine s_load rfl rfl rfl ?_
    refine s_indexAddr rfl (x_m SP.dc rfl rfl rfl e1 hi' rfl) rfl ?_
    refine s_fieldAddr rfl rfl rfl ?_
    refine s_load rfl (by rw [← eF]; rfl) rfl ?_
    refine s_call rfl rfl (c1) rfl rfl rfl rfl ?_
    refine s_fieldAddr rfl rfl rfl ?_
    refine s_load rfl rfl rfl ?_
    refine s_call rfl rfl (c2) rfl rfl rfl rfl ?_
    refine s_alloc rfl rfl rfl rfl rfl rfl ?_
    refine s_store rfl rfl rfl rfl rfl ?_
    refine s_end (hK _ ?_); clear hK K
    refine a_draw tok mixed (A := [[], [], [], [1], [0, 1, 2], [0, 1, 2, 3], [], [], [], [7], [6, 7, 8], [6, 7, 8, 9], [0, 1, 2, 3, 4, 6, 7, 8, 9, 10], [], [], [0, 1, 2, 3, 4, 5, 6, 7, 8, 9, 10, 11, 13], [], []]) (an := [{}, {}, {}, {}, {}, {}, {}, {}, {}, {}, {}, {}, {}, { c := [68] }, { c := [68] }, {}, { c := [68, 71] }, {}]) rfl (by kernel_rfl) rfl fun K hK => ?_
    refine s_move rfl rfl rfl ?_
    refine s_fieldAddr rfl rfl rfl ?_
    refine s_load rfl rfl rfl ?_
    refine s_indexAddr rfl (x_m SP.dc rfl rfl rfl e2 hj' rfl) rfl ?_
    refine s_fieldAddr rfl rfl rfl ?_
    refine s_load rfl (by rw [← eT]; rfl) rfl ?_
    refine s_move rfl rfl rfl ?_
    refine s_fieldAddr rfl rfl rfl ?_
    refine s_load rfl rfl rfl ?_
    refine s_indexAddr rfl (x_m SP.dc rfl rfl rfl e1 hi' rfl) rfl ?_
    refine s_fieldAddr rfl rfl rfl ?_
    refine s_load rfl (by rw [← eF]; rfl) rfl ?_
    refine s_call rfl rfl (c3) rfl rfl rfl rfl ?_
    refine s_fieldAddr rfl rfl rfl ?_
    refine s_load rfl rfl rfl ?_
    refine s_call rfl rfl (c4) rfl rfl rfl rfl ?_
    refine s_alloc rfl rfl rfl rfl rfl rfl ?_
    refine s_store rfl rfl rfl rfl rfl ?_
    refine s_end (hK _ ?_); clear hK K
    refine AWP_reg_seq tok fun K hK => ?_
    refine s_load rfl rfl rfl ?_
    refine s_load rfl rfl rfl ?_
    refine s_build rfl rfl rfl ?_
    refine s_store rfl rfl rfl rfl rfl ?_
    refine s_assign rfl rfl rfl ?_
    refine s_end (hK _ ?_); clear hK K
    refine AWP_ret ?_
    repeat (with_reducible refine tq_ret ?_)
    exact post_ret (fin_mk (by rfl) (by rfl) (by rfl))
  · have e : resV g s k = (sp0, 2) := by rw [resV, if_pos hc, dif_neg hd]
    have ea : alongV g k = (sp0, 2) := by rw [alongV, if_pos (validB_iff.2 gs.gv), dif_neg hd]
    rw [ea] at ca
    rw [e]
    refine AWP_reg_seq tok fun K hK => ?_
    refine s_load rfl rfl rfl ?_
    refine s_move rfl rfl rfl ?_
    refine s_call rfl rfl (ca) rfl rfl rfl rfl ?_
    refine s_move rfl rfl rfl ?_
    refine s_extract rfl rfl rfl ?_
    refine s_extract rfl rfl rfl ?_
    refine s_alloc rfl rfl rfl rfl rfl rfl ?_
    refine s_store rfl rfl rfl rfl rfl ?_
    refine s_assign rfl rfl rfl ?_
    refine s_end (hK _ ?_); clear hK K
    refine AWP_seq ?_
    refine AWP_reg_seq tok fun K hK => ?_
    refine s_move rfl rfl rfl ?_
    refine s_bin rfl rfl rfl ?_
    refine s_end (hK _ ?_); clear hK K
    refine a_cond rfl (fun hx => ?_) (fun hx => ?_)
    · refine AWP_reg_seq tok fun K hK => ?_
      refine s_build rfl rfl rfl ?_
      refine s_move rfl rfl rfl ?_
      refine s_store rfl rfl rfl rfl rfl ?_
      refine s_assign rfl rfl rfl ?_
      refine s_end (hK _ ?_); clear hK K
      refine AWP_ret ?_
      repeat (with_reducible refine tq_ret ?_)
      exact post_ret (fin_mk (by rfl) (by rfl) (by rfl))
    · exact absurd (show ((2 : Int) != 0) = false from hx) (by decide)

theorem cs_comm (a w x : Rat) : a + w * x = a + x * w := by grind
theorem r28Cost_c (g : GR) (s : List SP) (ok : ∀ r ∈ g.nodes, r.OK 4096) (os : ∀ p ∈ s, p.OK 4096) (hl : g.links.length ≤ 9223372036854775806) :
    Con Tryz.prog 24 [AG g.cs, V1 (dSs s)] { v := .tup [.agg (costV g s).1.cs, .one (.d (lI (costV g s).2))] } := by
  refine con_intro (fn := Tryz.f24) tok Tryz.func24 (by kernel_rfl) rfl ?_
  intro w0 X
  rw [entry_mkE _ _ [(0, AG g.cs), (1, V1 (dSs s))] rfl rfl]
  refine AWP_reg_seq tok fun K hK => ?_
  refine s_box rfl rfl rfl rfl rfl rfl ?_
  refine s_alloc rfl rfl rfl rfl rfl rfl ?_
  refine s_assign rfl rfl rfl ?_
  refine s_end (hK _ ?_); clear hK K
  refine AWP_seq ?_
  refine a_join (α := Bool) (fun c => mk 61 [(1, V1 (dSs s)), (2, .ptr 2 0), (4, .ptr 4 0), (21, dB c)] [(2, some (.box g.cs)), (4, some (.box [.d (.lit (.bool false)), .nil, .d (.lit (.bool false)), .nil]))] []) (fun c => c = !costB g s) ?_ ?_
  · refine AWP_regW fun K hK => ?_
    refine w_step tok rfl ?_
    refine s_load rfl rfl rfl ?_
    refine s_end ?_
    refine w_step tok rfl ?_
    refine s_call rfl rfl (r28Valid_c g hl) rfl rfl rfl rfl ?_
    refine s_end ?_
    refine w_step tok rfl ?_
    refine s_un rfl rfl rfl ?_
    refine s_end ?_
    refine w_step tok rfl ?_
    refine s_move rfl rfl rfl ?_
    refine s_end ?_
    refine w_split (fun h0 => ?_) (fun h0 => ?_)
    · refine w_skip rfl rfl ?_
      refine w_skip rfl rfl ?_
      refine w_skip rfl rfl ?_
      refine w_skip rfl rfl ?_
      refine w_skip rfl rfl ?_
      refine w_skip rfl rfl ?_
      refine w_step tok rfl ?_
      refine s_pick rfl rfl rfl ?_
      refine s_end ?_
      refine w_end rfl (hK _ ?_); clear hK K
      exact ⟨_, (by simp only [Bool.not_eq_true', Bool.not_eq_false'] at h0; simp only [costB, h0, Bool.false_and, Bool.true_and, Bool.not_false, e_ne]; try (rw [Bool.eq_iff_iff]; simp only [decide_eq_true_eq, Bool.not_eq_true', decide_eq_false_iff_not]; omega)), Wk.mk' ⟨rfl, rfl, rfl, rfl, trivial⟩ ⟨rfl, rfl, trivial⟩⟩
    · refine w_step tok rfl ?_
      refine s_move rfl rfl rfl ?_
      refine s_end ?_
      refine w_step tok rfl ?_
      refine s_blt rfl (len_m SP.dc rfl rfl) rfl ?_
      refine s_end ?_
      refine w_step tok rfl ?_
      refine s_fieldAddr rfl rfl rfl ?_
      refine s_end ?_
      refine w_step tok rfl ?_
      refine s_load rfl rfl rfl ?_
      refine s_end ?_
      refine w_step tok rfl ?_
      refine s_blt rfl (len_m RW.dc rfl rfl) rfl ?_
      refine s_end ?_
      refine w_step tok rfl ?_
      refine s_bin rfl rfl rfl ?_
      refine s_end ?_
      refine w_step tok rfl ?_
      refine s_pick rfl rfl rfl ?_
      refine s_end ?_
      refine w_end rfl (hK _ ?_); clear hK K
      exact ⟨_, (by simp only [Bool.not_eq_true', Bool.not_eq_false'] at h0; simp only [costB, h0, Bool.false_and, Bool.true_and, Bool.not_false, e_ne]; try (rw [Bool.eq_iff_iff]; simp only [decide_eq_true_eq, Bool.not_eq_true', decide_eq_false_iff_not]; omega)), Wk.mk' ⟨rfl, rfl, rfl, rfl, trivial⟩ ⟨rfl, rfl, trivial⟩⟩
  rintro c rfl
  refine a_cond rfl (fun hc => ?_) (fun hc => ?_)
  · rw [Bool.not_eq_true'] at hc
    have e : costV g s = (rw00, 1) := by rw [costV, if_neg (by rw [hc]; simp)]
    rw [e]
    refine AWP_reg_seq tok fun K hK => ?_
    refine s_build rfl rfl rfl ?_
    refine s_store rfl rfl rfl rfl rfl ?_
    refine s_assign rfl rfl rfl ?_
    refine s_end (hK _ ?_); clear hK K
    refine AWP_ret ?_
    repeat (with_reducible refine tq_ret ?_)
    exact post_ret (fin_mk (by rfl) (by rfl) (by rfl))
  rw [Bool.not_eq_false'] at hc
  have gs := costB_iff.1 hc
  have l48 := gs.gv.l
  have e : costV g s = (qzW (csR g s g.links), 0) := by rw [costV, if_pos hc]
  have e0 := r2OfI_c 0 ⟨by decide, by decide⟩
  rw [e]
  refine AWP_skip ?_
  show AWP _ _ _ _ _ _
  refine AWP_reg_seq tok fun K hK => ?_
  refine s_call rfl rfl (e0) rfl rfl rfl rfl ?_
  refine s_alloc rfl rfl rfl rfl rfl rfl ?_
  refine s_store rfl rfl rfl rfl rfl ?_
  refine s_end (hK _ ?_); clear hK K
  refine AWP_seq ?_
  refine AWP_reg_seq tok fun K hK => ?_
  refine s_assign rfl rfl rfl ?_
  refine s_end (hK _ ?_); clear hK K
  refine AWP_block (a_loop (α := Nat) (fun i => mk 61 [(1, V1 (dSs s)), (2, .ptr 2 0), (4, .ptr 4 0), (6, .ptr 6 0), (7, dI i)] [(2, some (.box g.cs)), (4, some (.box [.d (.lit (.bool false)), .nil, .d (.lit (.bool false)), .nil])), (6, some (.box (qzW (csR g s (g.links.take i))).cs))] []) (fun i => i ≤ g.links.length) (fun i => g.links.length - i) 0 ?_ (Nat.zero_le _) ?_)
  · exact Wk.mk' ⟨rfl, rfl, rfl, rfl, rfl, trivial⟩ ⟨rfl, rfl, rfl, trivial⟩
  intro i hi
  refine AWP_seq ?_
  refine AWP_reg_seq tok fun K hK => ?_
  refine s_move rfl rfl rfl ?_
  refine s_fieldAddr rfl rfl rfl ?_
  refine s_load rfl rfl rfl ?_
  refine s_blt rfl (len_m LK.dc rfl rfl) rfl ?_
  refine s_bin rfl rfl rfl ?_
  refine s_end (hK _ ?_); clear hK K
  refine a_cond rfl (fun hg => ?_) (fun hg => ?_)
  · have hg : i < g.links.length := by simp at hg; omega
    have hm : g.links[i] ∈ g.links := List.getElem_mem hg
    have lv := linkB_iff.1 (gs.gv.lk _ hm)
    have o := rsG_ok gs hm ok os
    have t1 := csT_le gs hm ok os
    have t2 := csR_le gs ok os (g.links.take i) (fun l hl => List.mem_of_mem_take hl) 0
    have t3 : ql (csR g s (g.links.take i)) ≤ 8388608 := Nat.le_trans t2 (by rw [List.length_take]; have := ql_zero; omega)
    have er : resV g s (i : Int) = (rsG g s g.links[i], 0) := by
      rw [resV, if_pos hc, dif_pos ⟨by omega, by omega⟩]; rfl
    have cr := r28Residual_c g s (i : Int) ok os hl
    rw [er] at cr
    have hsn := csR_snoc g s hg
    obtain ⟨l, el⟩ : ∃ l, l = g.links[i] := ⟨_, rfl⟩
    rw [← el] at cr o lv hsn t1
    have q1 := ql_mul_le (o.qx rfl) (o.qx rfl)
    have q2 := ql_mul_le (o.qy rfl) (o.qy rfl)
    have c1 := r2Mul_r (rsG g s l).x (rsG g s l).x ((rsG g s l).vx * (rsG g s l).vx) (o.x.mono rfl) (o.x.mono rfl) rfl
    have c2 := r2Mul_r (rsG g s l).y (rsG g s l).y ((rsG g s l).vy * (rsG g s l).vy) (o.y.mono rfl) (o.y.mono rfl) rfl
    have c3 := r2Add_r (qzW ((rsG g s l).vx * (rsG g s l).vx)) (qzW ((rsG g s l).vy * (rsG g s l).vy)) ((rsG g s l).vx * (rsG g s l).vx + (rsG g s l).vy * (rsG g s l).vy) ((qzW_ok q1).mono rfl) ((qzW_ok q2).mono rfl) (by rw [qzW_v, qzW_v])
    have c4 := r2OfI_c l.w lv.iw
    have q3 := ql_add_le q1 q2
    have q4 := ql_i64 lv.iw
    have q5 := ql_mul_le q4 q3
    have c5 := r2Mul_r (qzW (l.w : Int)) (qzW ((rsG g s l).vx * (rsG g s l).vx + (rsG g s l).vy * (rsG g s l).vy)) ((l.w : Rat) * ((rsG g s l).vx * (rsG g s l).vx + (rsG g s l).vy * (rsG g s l).vy)) ((qzW_ok q4).mono rfl) ((qzW_ok q3).mono rfl) (by rw [qzW_v, qzW_v])
    have c6 := r2Add_r (qzW (csR g s (g.links.take i))) (qzW ((l.w : Rat) * ((rsG g s l).vx * (rsG g s l).vx + (rsG g s l).vy * (rsG g s l).vy))) (csR g s (g.links.take (i + 1))) ((qzW_ok t3).mono rfl) ((qzW_ok q5).mono rfl) (by rw [qzW_v, qzW_v, hsn, csT]; exact cs_comm _ _ _)
    generalize csR g s (g.links.take i) = cs at c6 ⊢
    generalize rsG g s l = r at cr c1 c2 c3 c5 c6
    refine AWP_skip ?_
    show AWP _ _ _ _ _ _
    refine AWP_seq ?_
    refine AWP_block ?_
    refine AWP_reg_seq tok fun K hK => ?_
    refine s_load rfl rfl rfl ?_
    refine s_move rfl rfl rfl ?_
    refine s_move rfl rfl rfl ?_
    refine s_call rfl rfl (cr) rfl rfl rfl rfl ?_
    refine s_move rfl rfl rfl ?_
    refine s_extract rfl rfl rfl ?_
    refine s_extract rfl rfl rfl ?_
    refine s_alloc rfl rfl rfl rfl rfl rfl ?_
    refine s_store rfl rfl rfl rfl rfl ?_
    refine s_assign rfl rfl rfl ?_
    refine s_end (hK _ ?_); clear hK K
    refine a_draw tok mixed (A := [[], [], [], [], [0, 2], [], [], [], [], [0, 1, 2, 3, 5, 7], [0, 1, 2, 3, 5, 6, 7, 8], [], []]) (an := [{}, {}, {}, {}, {}, { c := [42] }, { c := [42] }, { c := [42] }, { c := [42] }, {}, {}, { c := [42, 47, 48] }, {}]) rfl (by kernel_rfl) rfl fun K hK => ?_
    refine s_fieldAddr rfl rfl rfl ?_
    refine s_load rfl rfl rfl ?_
    refine s_fieldAddr rfl rfl rfl ?_
    refine s_load rfl rfl rfl ?_
    refine s_call rfl rfl (c1) rfl rfl rfl rfl ?_
    refine s_fieldAddr rfl rfl rfl ?_
    refine s_load rfl rfl rfl ?_
    refine s_fieldAddr rfl rfl rfl ?_
    refine s_load rfl rfl rfl ?_
    refine s_call rfl rfl (c2) rfl rfl rfl rfl ?_
    refine s_call rfl rfl (c3) rfl rfl rfl rfl ?_
    refine s_alloc rfl rfl rfl rfl rfl rfl ?_
    refine s_store rfl rfl rfl rfl rfl ?_
    refine s_end (hK _ ?_); clear hK K
    refine a_draw1 tok mixed (A := [[], [], [], [], [1], [1, 2, 3], [1, 2, 3, 4], [1, 2, 3, 4, 5], [], [1, 2, 3, 4, 5, 6], [1, 2, 3, 4, 5, 6, 7, 8], []]) (an := [{}, {}, {}, {}, {}, {}, {}, {}, { c := [56] }, {}, {}, {}]) rfl (by kernel_rfl) rfl fun K hK => ?_
    refine s_load rfl rfl rfl ?_
    refine s_fieldAddr rfl rfl rfl ?_
    refine s_load rfl rfl rfl ?_
    refine s_move rfl rfl rfl ?_
    refine s_indexAddr rfl (x_m LK.dc rfl rfl rfl rfl hg rfl) rfl ?_
    refine s_fieldAddr rfl rfl rfl ?_
    refine s_load rfl (by rw [← el]; rfl) rfl ?_
    refine s_call rfl rfl (c4) rfl rfl rfl rfl ?_
    refine s_load rfl rfl rfl ?_
    refine s_call rfl rfl (c5) rfl rfl rfl rfl ?_
    refine s_call rfl rfl (c6) rfl rfl rfl rfl ?_
    refine s_store rfl rfl rfl rfl rfl ?_
    refine s_end (hK _ ?_); clear hK K
    show AWP _ _ _ _ _ _
    refine AWP_reg tok fun K hK => ?_
    refine s_move rfl rfl rfl ?_
    refine s_bin rfl (e_add (c := ((i + 1 : Nat) : Int)) (by omega) (by omega)) rfl ?_
    refine s_assign rfl rfl rfl ?_
    refine s_end (hK _ ?_); clear hK K
    exact ⟨i + 1, by omega, hg, Wk.mk' ⟨rfl, rfl, rfl, rfl, rfl, trivial⟩ ⟨rfl, rfl, rfl, trivial⟩⟩
  · have hg : i = g.links.length := by simp at hg; omega
    subst hg
    refine AWP_exit ?_
    show AWP _ _ _ _ _ _
    rw [List.take_length]
    generalize csR g s g.links = cs
    refine AWP_reg_seq tok fun K hK => ?_
    refine s_load rfl rfl rfl ?_
    refine s_store rfl rfl rfl rfl rfl ?_
    refine s_assign rfl rfl rfl ?_
    refine s_end (hK _ ?_); clear hK K
    refine AWP_ret ?_
    repeat (with_reducible refine tq_ret ?_)
    exact post_ret (fin_mk (by rfl) (by rfl) (by rfl))

theorem sq_nn (x : Rat) : 0 ≤ x * x := by
  rcases Rat.le_total (a := 0) (b := x) with h | h
  · exact Rat.mul_nonneg h h
  · have hn : 0 ≤ -x := by grind
    have := Rat.mul_nonneg hn hn
    rwa [Rat.neg_mul, Rat.mul_neg, Rat.neg_neg] at this
theorem csT_nn {g : GR} {s : List SP} {l : LK} (h : 1 ≤ l.w) : 0 ≤ csT g s l := by
  have h1 := sq_nn (rsG g s l).vx
  have h2 := sq_nn (rsG g s l).vy
  have h3 : (0 : Rat) ≤ (l.w : Rat) := by
    have : (0 : Int) ≤ l.w := by omega
    exact_mod_cast this
  exact Rat.mul_nonneg (Rat.add_nonneg h1 h2) h3
theorem csR_nn {g : GR} {s : List SP} : ∀ {ls : List LK}, (∀ l ∈ ls, 1 ≤ l.w) → 0 ≤ csR g s ls := by
  have : ∀ (ls : List LK) (a : Rat), 0 ≤ a → (∀ l ∈ ls, 1 ≤ l.w) → 0 ≤ ls.foldl (fun a l => a + csT g s l) a := by
    intro ls
    induction ls with
    | nil => intro a ha _; exact ha
    | cons l ls ih =>
      intro a ha hh
      rw [List.foldl_cons]
      exact ih _ (Rat.add_nonneg ha (csT_nn (hh l (List.mem_cons_self ..)))) fun l hl => hh l (List.mem_cons_of_mem _ hl)
  exact fun {ls} hh => this ls 0 (by decide) hh
theorem num_nn {q : Rat} (h : 0 ≤ q) : 0 ≤ q.num := Rat.num_nonneg.2 h

theorem lCosts_c (g : GR) (s : List SP) (k : Int) (hg : ∀ r ∈ g.nodes, r.W) (hs : ∀ p ∈ s, p.W) : Con Tryz.prog 5 [AG g.cs, V1 (dSs s), dI k] { v := dB true } := by
  refine con_intro (fn := Tryz.f5) tok Tryz.func5 (by kernel_rfl) rfl ?_
  intro w0 X
  rw [entry_mkE _ _ [(0, AG g.cs), (1, V1 (dSs s)), (2, dI k)] rfl rfl]
  refine AWP_reg_seq tok fun K hK => ?_
  refine s_box rfl rfl rfl rfl rfl rfl ?_
  refine s_assign rfl rfl rfl ?_
  refine s_end (hK _ ?_); clear hK K
  refine AWP_seq ?_
  refine a_join (α := Bool) (fun c => mk 77 [(1, V1 (dSs s)), (2, dI k), (3, .ptr 3 0), (6, dB false), (26, dB c)] [(3, some (.box g.cs))] []) (fun c => c = !(fewB g && fewS s)) ?_ ?_
  · refine AWP_regW fun K hK => ?_
    refine w_step tok rfl ?_
    refine s_call rfl rfl (awake_c) rfl rfl rfl rfl ?_
    refine s_end ?_
    refine w_step tok rfl ?_
    refine s_un rfl rfl rfl ?_
    refine s_end ?_
    refine w_step tok rfl ?_
    refine s_move rfl rfl rfl ?_
    refine s_end ?_
    refine w_split (fun h0 => ?_) (fun h0 => ?_)
    · refine w_skip rfl rfl ?_
      refine w_skip rfl rfl ?_
      refine w_skip rfl rfl ?_
      refine w_step tok rfl ?_
      refine s_pick rfl rfl rfl ?_
      refine s_end ?_
      refine w_step tok rfl ?_
      refine s_move rfl rfl rfl ?_
      refine s_end ?_
      refine w_skip rfl rfl ?_
      refine w_skip rfl rfl ?_
      refine w_skip rfl rfl ?_
      refine w_step tok rfl ?_
      refine s_pick rfl rfl rfl ?_
      refine s_end ?_
      refine w_end rfl (hK _ ?_); clear hK K
      first|(exact absurd h0 (by decide))|exact ⟨_, (by simp only [Bool.not_eq_true', Bool.not_eq_false'] at h0; simp only [h0, Bool.false_and, Bool.true_and, Bool.not_false, Bool.not_true]), Wk.mk' ⟨rfl, rfl, rfl, rfl, rfl, trivial⟩ ⟨rfl, trivial⟩⟩
    · refine w_step tok rfl ?_
      refine s_load rfl rfl rfl ?_
      refine s_end ?_
      refine w_step tok rfl ?_
      refine s_call rfl rfl (few_c g) rfl rfl rfl rfl ?_
      refine s_end ?_
      refine w_step tok rfl ?_
      refine s_un rfl rfl rfl ?_
      refine s_end ?_
      refine w_step tok rfl ?_
      refine s_pick rfl rfl rfl ?_
      refine s_end ?_
      refine w_step tok rfl ?_
      refine s_move rfl rfl rfl ?_
      refine s_end ?_
      refine w_split (fun h1 => ?_) (fun h1 => ?_)
      · refine w_skip rfl rfl ?_
        refine w_skip rfl rfl ?_
        refine w_skip rfl rfl ?_
        refine w_step tok rfl ?_
        refine s_pick rfl rfl rfl ?_
        refine s_end ?_
        refine w_end rfl (hK _ ?_); clear hK K
        first|(exact absurd h0 (by decide))|exact ⟨_, (by simp only [Bool.not_eq_true', Bool.not_eq_false'] at h0 h1; simp only [h0, h1, Bool.false_and, Bool.true_and, Bool.not_false, Bool.not_true]), Wk.mk' ⟨rfl, rfl, rfl, rfl, rfl, trivial⟩ ⟨rfl, trivial⟩⟩
      · refine w_step tok rfl ?_
        refine s_move rfl rfl rfl ?_
        refine s_end ?_
        refine w_step tok rfl ?_
        refine s_call rfl rfl (fewS_c s) rfl rfl rfl rfl ?_
        refine s_end ?_
        refine w_step tok rfl ?_
        refine s_un rfl rfl rfl ?_
        refine s_end ?_
        refine w_step tok rfl ?_
        refine s_pick rfl rfl rfl ?_
        refine s_end ?_
        refine w_end rfl (hK _ ?_); clear hK K
        first|(exact absurd h0 (by decide))|exact ⟨_, (by simp only [Bool.not_eq_true', Bool.not_eq_false'] at h0 h1; simp only [h0, h1, Bool.false_and, Bool.true_and, Bool.not_false, Bool.not_true]), Wk.mk' ⟨rfl, rfl, rfl, rfl, rfl, trivial⟩ ⟨rfl, trivial⟩⟩
  rintro c rfl
  refine a_cond rfl (fun hc => ?_) (fun hc => ?_)
  · refine AWP_reg_seq tok fun K hK => ?_
    refine s_call rfl rfl (awake_c) rfl rfl rfl rfl ?_
    refine s_assign rfl rfl rfl ?_
    refine s_end (hK _ ?_); clear hK K
    refine AWP_ret ?_
    repeat (with_reducible refine tq_ret ?_)
    exact post_ret (fin_mk (by rfl) (by rfl) (by rfl))
  rw [Bool.not_eq_false', Bool.and_eq_true] at hc
  obtain ⟨h1, h2⟩ := hc
  obtain ⟨ok, l1, l2⟩ := fewB_ok h1 hg
  obtain ⟨os, l3⟩ := fewS_ok h2 hs
  have ok' : ∀ r ∈ g.nodes, r.OK 4096 := fun r hr => (ok r hr).mono rfl
  have os' : ∀ p ∈ s, p.OK 4096 := fun p hp => (os p hp).mono rfl
  have c1 := gResidual_c g s k (fun r hr => (ok r hr).mono rfl) (fun r hr => (os r hr).mono rfl)
  have c2 := r28Residual_c g s k ok' os' (by omega)
  have c3 := gCost_c g s ok' os'
  have c4 := r28Cost_c g s ok' os' (by omega)
  have hRS : RS (costV g s).1 := costV_RS ok' os'
  have hres : RS (resV g s k).1.x ∧ RS (resV g s k).1.y := by
    have h0 : RS sp0.x ∧ RS sp0.y := ⟨⟨by decide, by decide⟩, ⟨by decide, by decide⟩⟩
    unfold resV
    split
    · rename_i hcb
      split
      · rename_i hd
        have o := rsG_ok (costB_iff.1 hcb) (List.getElem_mem hd.2) ok' os'
        exact ⟨o.x.RS rfl, o.y.RS rfl⟩
      · exact h0
    · exact h0
  have csg : ∃ n : Int, 0 ≤ n ∧ Con Tryz.prog 26 [AG (costV g s).1.cs] { v := dI n } := by
    unfold costV
    cases hcb : costB g s with
    | false =>
      rw [if_neg Bool.false_ne_true]
      have := r2Sign_c false false [] [] wOK.nil wOK.nil (by simp) (by simp)
      exact ⟨_, by decide, this⟩
    | true =>
      rw [if_pos rfl]
      have gs := costB_iff.1 hcb
      have t2 := csR_le gs ok' os' g.links (fun l hl => hl) 0
      have l48 := gs.gv.l
      have t3 : ql (csR g s g.links) ≤ 268435456 := Nat.le_trans t2 (by have := ql_zero; omega)
      refine ⟨_, ?_, r2SignZ_c _ t3⟩
      have hn := num_nn (csR_nn (g := g) (s := s) (ls := g.links) fun l hl => (linkB_iff.1 (gs.gv.lk l hl)).w.1)
      rcases Int.lt_or_eq_of_le hn with h | h
      · rw [Int.sign_eq_one_of_pos h]; decide
      · rw [← h]; decide
  obtain ⟨n, hn, csg⟩ := csg
  generalize resV g s k = u at c1 c2 hres
  generalize costV g s = v at c3 c4 hRS csg
  obtain ⟨u, e⟩ := u
  obtain ⟨v, f⟩ := v
  have hge : ∀ (T : Tab) (t : TypeId), effBin T .geq t (dI n) (dI 0) = .set (dB true) := by
    intro T t
    show Eff.set (dB (decide (n ≥ 0))) = _
    rw [decide_eq_true hn]
  refine AWP_skip ?_
  show AWP _ _ _ _ _ _
  refine AWP_reg_seq tok fun K hK => ?_
  refine s_load rfl rfl rfl ?_
  refine s_move rfl rfl rfl ?_
  refine s_move rfl rfl rfl ?_
  refine s_call rfl rfl (c1) rfl rfl rfl rfl ?_
  refine s_move rfl rfl rfl ?_
  refine s_extract rfl rfl rfl ?_
  refine s_extract rfl rfl rfl ?_
  refine s_alloc rfl rfl rfl rfl rfl rfl ?_
  refine s_store rfl rfl rfl rfl rfl ?_
  refine s_assign rfl rfl rfl ?_
  refine s_end (hK _ ?_); clear hK K
  refine AWP_reg_seq tok fun K hK => ?_
  refine s_load rfl rfl rfl ?_
  refine s_move rfl rfl rfl ?_
  refine s_move rfl rfl rfl ?_
  refine s_call rfl rfl (c2) rfl rfl rfl rfl ?_
  refine s_move rfl rfl rfl ?_
  refine s_extract rfl rfl rfl ?_
  refine s_extract rfl rfl rfl ?_
  refine s_alloc rfl rfl rfl rfl rfl rfl ?_
  refine s_store rfl rfl rfl rfl rfl ?_
  refine s_assign rfl rfl rfl ?_
  refine s_end (hK _ ?_); clear hK K
  refine AWP_reg_seq tok fun K hK => ?_
  refine s_load rfl rfl rfl ?_
  refine s_move rfl rfl rfl ?_
  refine s_call rfl rfl (c3) rfl rfl rfl rfl ?_
  refine s_move rfl rfl rfl ?_
  refine s_extract rfl rfl rfl ?_
  refine s_extract rfl rfl rfl ?_
  refine s_alloc rfl rfl rfl rfl rfl rfl ?_
  refine s_store rfl rfl rfl rfl rfl ?_
  refine s_assign rfl rfl rfl ?_
  refine s_end (hK _ ?_); clear hK K
  refine AWP_reg_seq tok fun K hK => ?_
  refine s_load rfl rfl rfl ?_
  refine s_move rfl rfl rfl ?_
  refine s_call rfl rfl (c4) rfl rfl rfl rfl ?_
  refine s_move rfl rfl rfl ?_
  refine s_extract rfl rfl rfl ?_
  refine s_extract rfl rfl rfl ?_
  refine s_alloc rfl rfl rfl rfl rfl rfl ?_
  refine s_store rfl rfl rfl rfl rfl ?_
  refine s_assign rfl rfl rfl ?_
  refine s_end (hK _ ?_); clear hK K
  refine AWP_reg_seq tok fun K hK => ?_
  refine s_load rfl rfl rfl ?_
  refine s_load rfl rfl rfl ?_
  refine s_call rfl rfl (spot_same u hres.1 hres.2) rfl rfl rfl rfl ?_
  refine s_move rfl rfl rfl ?_
  refine s_move rfl rfl rfl ?_
  refine s_move rfl rfl rfl ?_
  refine s_bin rfl (e_eqI rfl) rfl ?_
  refine s_pick rfl rfl rfl ?_
  refine s_move rfl rfl rfl ?_
  refine s_load rfl rfl rfl ?_
  refine s_load rfl rfl rfl ?_
  refine s_call rfl rfl (rat_same v hRS) rfl rfl rfl rfl ?_
  refine s_pick rfl rfl rfl ?_
  refine s_move rfl rfl rfl ?_
  refine s_move rfl rfl rfl ?_
  refine s_move rfl rfl rfl ?_
  refine s_bin rfl (e_eqI rfl) rfl ?_
  refine s_pick rfl rfl rfl ?_
  refine s_move rfl rfl rfl ?_
  refine s_load rfl rfl rfl ?_
  refine s_call rfl rfl (csg) rfl rfl rfl rfl ?_
  refine s_bin rfl (hge _ _) rfl ?_
  refine s_pick rfl rfl rfl ?_
  refine s_assign rfl rfl rfl ?_
  refine s_end (hK _ ?_); clear hK K
  refine AWP_ret ?_
  repeat (with_reducible refine tq_ret ?_)
  exact post_ret (fin_mk (by rfl) (by rfl) (by rfl))
end Go.Proofs.YtcafppnjemgkiaaGreat

/- The reference's components. No condition. -/
namespace Go.Proofs.YtcafppnjemgkiaaGreat
attribute [local irreducible] lexA

def prs (ls : List LK) : List (Nat × Nat) := ls.map fun l => (l.f.toNat, l.t.toNat)
theorem partsL_uniL (n : Nat) (ls : List LK) : partsL n ls = uniL n (prs ls) := by
  rw [partsL, uniL, prs, List.foldl_map]
theorem rxs_snoc (ps : List (Nat × Nat)) (p : Nat × Nat) (L : List Nat) : rxs (ps ++ [p]) L = rx1 (rxs ps L) p := by
  rw [rxs, List.foldl_append]; rfl
theorem prs_snoc {ls : List LK} {j : Nat} (h : j < ls.length) : prs (ls.take (j + 1)) = prs (ls.take j) ++ [(ls[j].f.toNat, ls[j].t.toNat)] := by
  rw [prs, List.take_succ_eq_append_getElem h, List.map_append]; rfl

theorem r28Parts_c (g : GR) (hl : g.links.length ≤ 9223372036854775806) : Con Tryz.prog 9 [AG g.cs] { v := .tup [.one (.d (dNs (partsV g).1)), .one (.d (lI (partsV g).2))] } := by
  refine con_intro (fn := Tryz.f9) tok Tryz.func9 (by kernel_rfl) rfl ?_
  intro w0 X
  rw [entry_mkE _ _ [(0, AG g.cs)] rfl rfl]
  refine AWP_reg_seq tok fun K hK => ?_
  refine s_box rfl rfl rfl rfl rfl rfl ?_
  refine s_assign rfl rfl rfl ?_
  refine s_assign rfl rfl rfl ?_
  refine s_end (hK _ ?_); clear hK K
  refine AWP_seq ?_
  refine AWP_reg_seq tok fun K hK => ?_
  refine s_load rfl rfl rfl ?_
  refine s_call rfl rfl (r28Valid_c g hl) rfl rfl rfl rfl ?_
  refine s_un rfl rfl rfl ?_
  refine s_end (hK _ ?_); clear hK K
  refine a_cond rfl (fun hc => ?_) (fun hc => ?_)
  · rw [Bool.not_eq_true'] at hc
    have e : partsV g = ([], 1) := by rw [partsV, if_neg (by rw [hc]; simp)]
    rw [e]
    refine AWP_reg_seq tok fun K hK => ?_
    refine s_assign rfl rfl rfl ?_
    refine s_assign rfl rfl rfl ?_
    refine s_end (hK _ ?_); clear hK K
    refine AWP_ret ?_
    repeat (with_reducible refine tq_ret ?_)
    exact post_ret (fin_mk (by rfl) (by rfl) (by rfl))
  rw [Bool.not_eq_false'] at hc
  have gv := validB_iff.1 hc
  obtain ⟨m, hm⟩ : ∃ m, g.nodes.length = m + 1 := ⟨g.nodes.length - 1, by have := gv.n1; omega⟩
  have n16 := gv.n2
  have l48 := gv.l
  have hps : ∀ p ∈ prs g.links, p.1 < m + 1 ∧ p.2 < m + 1 := by
    intro p hp
    obtain ⟨l, hl', rfl⟩ := List.mem_map.1 hp
    have lv := (linkB_iff.1 (gv.lk l hl')).fn
    rw [hm] at lv
    exact lv.2
  have hmin := rxN_min (m + 1) (prs g.links) hps
  have hle : ∀ v, v < m + 1 → (rxN (prs g.links) (m + 1) (List.range (m + 1))).getD v 0 ≤ v := fun v hv => by
    rw [hmin v hv]; exact fd_le (uniL_ok _ _).1 v
  have e : partsV g = ((numF (fun v => (rxN (prs g.links) (m + 1) (List.range (m + 1))).getD v 0) (m + 1)).1, 0) := by
    rw [partsV, if_pos hc, partsR, hm, partsL_uniL, ← numF_fd, numF_congr fun u hu => (hmin u hu).symm]
  have hN : ∀ r, (rxN (prs g.links) r (List.range (m + 1))).length = m + 1 := fun r => by rw [rxN_length, List.length_range]
  have eall : g.links.take g.links.length = g.links := List.take_length
  rw [e]
  refine AWP_skip ?_
  show AWP _ _ _ _ _ _
  refine AWP_reg_seq tok fun K hK => ?_
  refine s_assign rfl rfl rfl ?_
  refine s_end (hK _ ?_); clear hK K
  refine AWP_seq ?_
  refine AWP_reg_seq tok fun K hK => ?_
  refine s_assign rfl rfl rfl ?_
  refine s_end (hK _ ?_); clear hK K
  refine AWP_block (a_loop (α := Nat) (fun i => mk 106 [(1, .ptr 1 0), (4, ownN 200 1 i), (5, dI i)] [(1, some (.box g.cs)), (200, arrN 1 ((List.range i).map cN) i)] []) (fun i => i ≤ m + 1) (fun i => m + 1 - i) 0 ?_ (Nat.zero_le _) ?_)
  · exact Wk.mk' ⟨rfl, rfl, rfl, trivial⟩ ⟨rfl, rfl, trivial⟩
  intro i hi
  refine AWP_seq ?_
  refine AWP_reg_seq tok fun K hK => ?_
  refine s_move rfl rfl rfl ?_
  refine s_fieldAddr rfl rfl rfl ?_
  refine s_load rfl rfl rfl ?_
  refine s_blt rfl (len_m RW.dc rfl rfl) rfl ?_
  refine s_bin rfl rfl rfl ?_
  refine s_end (hK _ ?_); clear hK K
  refine a_cond rfl (fun hg => ?_) (fun hg => ?_)
  · have hg : i < m + 1 := by simp at hg; omega
    have n1 : (List.range i).map cN ++ [cN i] = (List.range (i + 1)).map cN := by rw [List.range_succ, List.map_append]; rfl
    have z1 : ((List.range i).map cN).length = i := by simp
    generalize (List.range i).map cN = es at n1 z1 ⊢
    refine AWP_skip ?_
    show AWP _ _ _ _ _ _
    refine AWP_seq ?_
    refine AWP_block ?_
    rcases i with _ | i
    · refine AWP_reg tok fun K hK => ?_
      refine s_move rfl rfl rfl ?_
      refine s_move rfl rfl rfl ?_
      refine s_buildSlice rfl rfl rfl rfl ?_
      refine s_append rfl (ap_nil rfl rfl rfl rfl rfl (by decide) (Nat.le_of_ble_eq_true rfl) rfl (by simp) rfl (by simp) (by simp)) rfl rfl ?_
      refine s_assign rfl rfl rfl ?_
      refine s_end (hK _ ?_); clear hK K
      show AWP _ _ _ _ _ _
      refine AWP_reg tok fun K hK => ?_
      refine s_move rfl rfl rfl ?_
      refine s_bin rfl (e_add (c := ((0 + 1 : Nat) : Int)) (by omega) (by omega)) rfl ?_
      refine s_assign rfl rfl rfl ?_
      refine s_end (hK _ ?_); clear hK K
      refine ⟨0 + 1, by omega, hg, Wk.rn [1, 5, 4] [1, 25] 25 200 rfl rfl rfl ⟨rfl, ?_, rfl, trivial⟩ ⟨rfl, ?_, trivial⟩⟩
      · first
          | rfl
          | (show SV.val (.one (.own 200 1 0 _)) = _
             rw [List.length_append, z1]; rfl)
      · first
          | (rw [← n1, List.length_eq_zero_iff.1 z1]; rfl)
          | (rw [← n1]; rfl)
    · refine AWP_reg tok fun K hK => ?_
      refine s_move rfl rfl rfl ?_
      refine s_move rfl rfl rfl ?_
      refine s_buildSlice rfl rfl rfl rfl ?_
      refine s_append rfl (ap_o rfl rfl rfl rfl rfl rfl (by decide) (Nat.le_of_ble_eq_true rfl) rfl (by simp) rfl rfl z1.symm (by simp <;> omega)) rfl rfl ?_
      refine s_assign rfl rfl rfl ?_
      refine s_end (hK _ ?_); clear hK K
      show AWP _ _ _ _ _ _
      refine AWP_reg tok fun K hK => ?_
      refine s_move rfl rfl rfl ?_
      refine s_bin rfl (e_add (c := ((i + 1 + 1 : Nat) : Int)) (by omega) (by omega)) rfl ?_
      refine s_assign rfl rfl rfl ?_
      refine s_end (hK _ ?_); clear hK K
      refine ⟨i + 1 + 1, by omega, hg, Wk.rn [1, 5, 4] [1, 25] 25 200 rfl rfl rfl ⟨rfl, ?_, rfl, trivial⟩ ⟨rfl, ?_, trivial⟩⟩
      · first
          | rfl
          | (show SV.val (.one (.own 200 1 0 _)) = _
             rw [List.length_append, z1]; rfl)
      · first
          | (rw [← n1, List.length_eq_zero_iff.1 z1]; rfl)
          | (rw [← n1]; rfl)
  have hi' : i = m + 1 := by simp at hg; omega
  subst hi'
  clear hg hi
  refine AWP_exit ?_
  show AWP _ _ _ _ _ _
  refine AWP_seq ?_
  refine AWP_reg_seq tok fun K hK => ?_
  refine s_assign rfl rfl rfl ?_
  refine s_end (hK _ ?_); clear hK K
  refine AWP_block (a_loop (α := Nat) (fun r => mk 106 [(1, .ptr 1 0), (4, .val (.one (.own 200 1 0 (m + 1)))), (6, dI r)] [(1, some (.box g.cs)), (200, some (.arr 1 ((rxN (prs g.links) r (List.range (m + 1))).map cN)))] []) (fun r => r ≤ m + 1) (fun r => m + 1 - r) 0 ?_ (Nat.zero_le _) ?_)
  · exact Wk.mk' ⟨rfl, rfl, rfl, trivial⟩ ⟨rfl, rfl, trivial⟩
  intro r hr
  refine AWP_seq ?_
  refine AWP_reg_seq tok fun K hK => ?_
  refine s_move rfl rfl rfl ?_
  refine s_fieldAddr rfl rfl rfl ?_
  refine s_load rfl rfl rfl ?_
  refine s_blt rfl (len_m RW.dc rfl rfl) rfl ?_
  refine s_bin rfl rfl rfl ?_
  refine s_end (hK _ ?_); clear hK K
  refine a_cond rfl (fun hg => ?_) (fun hg => ?_)
  · have hg : r < m + 1 := by simp at hg; omega
    have hL := hN r
    have hR : rxN (prs g.links) (r + 1) (List.range (m + 1)) = rxs (prs g.links) (rxN (prs g.links) r (List.range (m + 1))) := rfl
    generalize rxN (prs g.links) r (List.range (m + 1)) = L0 at hL hR ⊢
    refine AWP_skip ?_
    show AWP _ _ _ _ _ _
    refine AWP_seq ?_
    refine AWP_block ?_
    refine AWP_reg_seq tok fun K hK => ?_
    refine s_assign rfl rfl rfl ?_
    refine s_end (hK _ ?_); clear hK K
    refine AWP_block (a_loop (α := Nat) (fun j => mk 106 [(1, .ptr 1 0), (4, .val (.one (.own 200 1 0 (m + 1)))), (6, dI r), (7, dI j)] [(1, some (.box g.cs)), (200, some (.arr 1 ((rxs (prs (g.links.take j)) L0).map cN)))] []) (fun j => j ≤ g.links.length) (fun j => g.links.length - j) 0 ?_ (Nat.zero_le _) ?_)
    · exact Wk.mk' ⟨rfl, rfl, rfl, rfl, trivial⟩ ⟨rfl, rfl, trivial⟩
    intro j hj
    refine AWP_seq ?_
    refine AWP_reg_seq tok fun K hK => ?_
    refine s_move rfl rfl rfl ?_
    refine s_fieldAddr rfl rfl rfl ?_
    refine s_load rfl rfl rfl ?_
    refine s_blt rfl (len_m LK.dc rfl rfl) rfl ?_
    refine s_bin rfl rfl rfl ?_
    refine s_end (hK _ ?_); clear hK K
    refine a_cond rfl (fun hx => ?_) (fun hx => ?_)
    · have hx : j < g.links.length := by simp at hx; omega
      have lv := linkB_iff.1 (gv.lk _ (List.getElem_mem hx))
      rw [hm] at lv
      have hsn : rxs (prs (g.links.take (j + 1))) L0 = rx1 (rxs (prs (g.links.take j)) L0) (g.links[j].f.toNat, g.links[j].t.toNat) := by
        rw [prs_snoc hx, rxs_snoc]
      obtain ⟨l, el⟩ : ∃ l, l = g.links[j] := ⟨_, rfl⟩
      rw [← el] at lv hsn
      have hlen : (rxs (prs (g.links.take j)) L0).length = m + 1 := by rw [rxs_length, hL]
      generalize rxs (prs (g.links.take j)) L0 = L at hsn hlen ⊢
      have e1 : l.f = ((l.f.toNat : Nat) : Int) := by have := lv.f; omega
      have e2 : l.t = ((l.t.toNat : Nat) : Int) := by have := lv.t; omega
      have hf : l.f.toNat < m + 1 := lv.fn.2.1
      have ht : l.t.toNat < m + 1 := lv.fn.2.2
      generalize l.f.toNat = f at hsn e1 hf
      generalize l.t.toNat = t at hsn e2 ht
      have hf' : f < L.length := by omega
      have ht' : t < L.length := by omega
      have ht2 : t < (L.set f (min (L.getD f 0) (L.getD t 0))).length := by rw [List.length_set]; exact ht'
      refine AWP_skip ?_
      show AWP _ _ _ _ _ _
      refine AWP_seq ?_
      refine AWP_block ?_
      refine a_draw tok mixed (A := [[], [], [], [], [1], [1, 2, 3], [1, 2, 3, 4], [1, 2, 3, 4, 5], [0, 1, 2, 3, 4, 5, 6], [], [], [], [], [10], [10, 11, 12], [10, 11, 12, 13], [10, 11, 12, 13, 14], [9, 10, 11, 12, 13, 14, 15], [0, 1, 2, 3, 4, 5, 6, 7, 9, 10, 11, 12, 13, 14, 15, 16], []]) (an := [{}, {}, {}, {}, {}, {}, {}, {}, {}, {}, {}, {}, {}, {}, {}, {}, {}, {}, {}, {}]) rfl (by kernel_rfl) rfl fun K hK => ?_
      refine s_move rfl rfl rfl ?_
      refine s_fieldAddr rfl rfl rfl ?_
      refine s_load rfl rfl rfl ?_
      refine s_move rfl rfl rfl ?_
      refine s_indexAddr rfl (x_m LK.dc rfl rfl rfl rfl hx rfl) rfl ?_
      refine s_fieldAddr rfl rfl rfl ?_
      refine s_load rfl (by rw [← el]; rfl) rfl ?_
      refine s_indexAddr rfl (x_o (i := f) (j := f) rfl rfl rfl rfl e1 hf (Nat.zero_add _)) rfl ?_
      refine s_load rfl (l_N rfl rfl rfl rfl hf') rfl ?_
      refine s_move rfl rfl rfl ?_
      refine s_fieldAddr rfl rfl rfl ?_
      refine s_load rfl rfl rfl ?_
      refine s_move rfl rfl rfl ?_
      refine s_indexAddr rfl (x_m LK.dc rfl rfl rfl rfl hx rfl) rfl ?_
      refine s_fieldAddr rfl rfl rfl ?_
      refine s_load rfl (by rw [← el]; rfl) rfl ?_
      refine s_indexAddr rfl (x_o (i := t) (j := t) rfl rfl rfl rfl e2 ht (Nat.zero_add _)) rfl ?_
      refine s_load rfl (l_N rfl rfl rfl rfl ht') rfl ?_
      refine s_blt rfl (mm_min _ _) rfl ?_
      refine s_assign rfl rfl rfl ?_
      refine s_end (hK _ ?_); clear hK K
      refine AWP_reg_seq tok fun K hK => ?_
      refine s_move rfl rfl rfl ?_
      refine s_fieldAddr rfl rfl rfl ?_
      refine s_load rfl rfl rfl ?_
      refine s_move rfl rfl rfl ?_
      refine s_indexAddr rfl (x_m LK.dc rfl rfl rfl rfl hx rfl) rfl ?_
      refine s_fieldAddr rfl rfl rfl ?_
      refine s_load rfl (by rw [← el]; rfl) rfl ?_
      refine s_move rfl rfl rfl ?_
      refine s_indexAddr rfl (x_o (i := f) (j := f) rfl rfl rfl rfl e1 hf (Nat.zero_add _)) rfl ?_
      refine s_store rfl (st_N rfl rfl rfl hf' rfl) rfl rfl rfl ?_
      refine s_end (hK _ ?_); clear hK K
      refine AWP_reg tok fun K hK => ?_
      refine s_move rfl rfl rfl ?_
      refine s_fieldAddr rfl rfl rfl ?_
      refine s_load rfl rfl rfl ?_
      refine s_move rfl rfl rfl ?_
      refine s_indexAddr rfl (x_m LK.dc rfl rfl rfl rfl hx rfl) rfl ?_
      refine s_fieldAddr rfl rfl rfl ?_
      refine s_load rfl (by rw [← el]; rfl) rfl ?_
      refine s_move rfl rfl rfl ?_
      refine s_indexAddr rfl (x_o (i := t) (j := t) rfl rfl rfl rfl e2 ht (Nat.zero_add _)) rfl ?_
      refine s_store rfl (st_N rfl rfl rfl ht2 rfl) rfl rfl rfl ?_
      refine s_end (hK _ ?_); clear hK K
      show AWP _ _ _ _ _ _
      refine AWP_reg tok fun K hK => ?_
      refine s_move rfl rfl rfl ?_
      refine s_bin rfl (e_add (c := ((j + 1 : Nat) : Int)) (by omega) (by omega)) rfl ?_
      refine s_assign rfl rfl rfl ?_
      refine s_end (hK _ ?_); clear hK K
      refine ⟨j + 1, by omega, hx, Wk.mk' ⟨rfl, rfl, rfl, rfl, trivial⟩ ⟨rfl, ?_, trivial⟩⟩
      rw [hsn]; rfl
    · have hx : j = g.links.length := by simp at hx; omega
      subst hx
      refine AWP_exit ?_
      show AWP _ _ _ _ _ _
      rw [eall]
      refine AWP_reg tok fun K hK => ?_
      refine s_move rfl rfl rfl ?_
      refine s_bin rfl (e_add (c := ((r + 1 : Nat) : Int)) (by omega) (by omega)) rfl ?_
      refine s_assign rfl rfl rfl ?_
      refine s_end (hK _ ?_); clear hK K
      exact ⟨r + 1, by omega, hg, Wk.mk' ⟨rfl, rfl, rfl, trivial⟩ ⟨rfl, by rw [hR]; rfl, trivial⟩⟩
  have hr' : r = m + 1 := by simp at hg; omega
  subst hr'
  clear hg hr
  have hL := hN (m + 1)
  clear hN hmin
  generalize rxN (prs g.links) (m + 1) (List.range (m + 1)) = L at hL hle ⊢
  refine AWP_exit ?_
  show AWP _ _ _ _ _ _
  refine AWP_reg_seq tok fun K hK => ?_
  refine s_assign rfl rfl rfl ?_
  refine s_end (hK _ ?_); clear hK K
  refine AWP_reg_seq tok fun K hK => ?_
  refine s_assign rfl rfl rfl ?_
  refine s_end (hK _ ?_); clear hK K
  refine AWP_seq ?_
  refine AWP_reg_seq tok fun K hK => ?_
  refine s_assign rfl rfl rfl ?_
  refine s_end (hK _ ?_); clear hK K
  have hnl : ∀ v, (numF (fun v => L.getD v 0) v).1.length = v := by
    intro v
    induction v with
    | zero => rfl
    | succ v ih =>
      rw [numF]
      split
      · show (_ ++ [_]).length = v + 1
        rw [List.length_append, ih]; rfl
      · show (_ ++ [_]).length = v + 1
        rw [List.length_append, ih]; rfl
  have hn2 : ∀ v, (numF (fun v => L.getD v 0) v).2 ≤ v := by
    intro v
    induction v with
    | zero => exact Nat.le_refl _
    | succ v ih =>
      rw [numF]
      split
      · show (numF _ v).2 + 1 ≤ v + 1; omega
      · show (numF _ v).2 ≤ v + 1; omega
  refine AWP_block (a_loop (α := Nat) (fun i => mk 106 [(4, .val (.one (.own 200 1 0 (m + 1)))), (9, ownN 201 1 i), (10, dI (numF (fun v => L.getD v 0) i).2), (11, dI i)] [(200, some (.arr 1 (L.map cN))), (201, arrN 1 ((numF (fun v => L.getD v 0) i).1.map cN) i)] []) (fun i => i ≤ m + 1) (fun i => m + 1 - i) 0 ?_ (Nat.zero_le _) ?_)
  · exact Wk.mk' ⟨rfl, rfl, rfl, rfl, trivial⟩ ⟨rfl, rfl, trivial⟩
  intro i hi
  refine AWP_seq ?_
  refine AWP_reg_seq tok fun K hK => ?_
  refine s_move rfl rfl rfl ?_
  refine s_move rfl rfl rfl ?_
  refine s_blt rfl rfl rfl ?_
  refine s_bin rfl rfl rfl ?_
  refine s_end (hK _ ?_); clear hK K
  refine a_cond rfl (fun hg => ?_) (fun hg => ?_)
  · have hg : i < m + 1 := by simp at hg; omega
    have hiL : i < L.length := by omega
    have z1 := hnl i
    have z2 := hn2 i
    have hlv := hle i hg
    have hstep : numF (fun v => L.getD v 0) (i + 1) = if L.getD i 0 = i then ((numF (fun v => L.getD v 0) i).1 ++ [(numF (fun v => L.getD v 0) i).2], (numF (fun v => L.getD v 0) i).2 + 1) else ((numF (fun v => L.getD v 0) i).1 ++ [(numF (fun v => L.getD v 0) i).1.getD (L.getD i 0) 0], (numF (fun v => L.getD v 0) i).2) := rfl
    generalize numF (fun v => L.getD v 0) i = q at z1 z2 hstep ⊢
    obtain ⟨os, nx⟩ := q
    simp only at z1 z2 hstep
    refine AWP_skip ?_
    show AWP _ _ _ _ _ _
    refine AWP_seq ?_
    refine AWP_block ?_
    refine AWP_reg_seq tok fun K hK => ?_
    refine s_move rfl rfl rfl ?_
    refine s_move rfl rfl rfl ?_
    refine s_indexAddr rfl (x_o (i := i) (j := i) rfl rfl rfl rfl rfl hg (Nat.zero_add _)) rfl ?_
    refine s_load rfl (l_N rfl rfl rfl rfl hiL) rfl ?_
    refine s_move rfl rfl rfl ?_
    refine s_bin rfl rfl rfl ?_
    refine s_end (hK _ ?_); clear hK K
    refine a_cond rfl (fun hx => ?_) (fun hx => ?_)
    · have hx : L.getD i 0 = i := by simp only [beq_iff_eq] at hx; omega
      rw [if_pos hx] at hstep
      rcases i with _ | i
      · refine AWP_reg_seq tok fun K hK => ?_
        refine s_move rfl rfl rfl ?_
        refine s_move rfl rfl rfl ?_
        refine s_buildSlice rfl rfl rfl rfl ?_
        refine s_append rfl (ap_nil rfl rfl rfl rfl rfl (by decide) (Nat.le_of_ble_eq_true rfl) rfl (by simp) rfl (by simp) (by simp)) rfl rfl ?_
        refine s_assign rfl rfl rfl ?_
        refine s_end (hK _ ?_); clear hK K
        refine AWP_reg tok fun K hK => ?_
        refine s_move rfl rfl rfl ?_
        refine s_bin rfl (e_add (c := ((nx + 1 : Nat) : Int)) (by omega) (by omega)) rfl ?_
        refine s_assign rfl rfl rfl ?_
        refine s_end (hK _ ?_); clear hK K
        show AWP _ _ _ _ _ _
        refine AWP_reg tok fun K hK => ?_
        refine s_move rfl rfl rfl ?_
        refine s_bin rfl (e_add (c := ((0 + 1 : Nat) : Int)) (by omega) (by omega)) rfl ?_
        refine s_assign rfl rfl rfl ?_
        refine s_end (hK _ ?_); clear hK K
        refine ⟨0 + 1, by omega, hg, Wk.rn [4, 10, 11, 9] [200, 92] 92 201 rfl rfl rfl ⟨rfl, ?_, ?_, rfl, trivial⟩ ⟨rfl, ?_, trivial⟩⟩
        · first
            | rfl
            | (show SV.val (.one (.own 201 1 0 _)) = _
               rw [List.length_append, List.length_map, z1]; rfl)
        · rw [hstep]; rfl
        · rw [hstep]
          first
            | (rw [List.length_eq_zero_iff.1 z1]; rfl)
            | (rw [List.map_append]; rfl)
      · refine AWP_reg_seq tok fun K hK => ?_
        refine s_move rfl rfl rfl ?_
        refine s_move rfl rfl rfl ?_
        refine s_buildSlice rfl rfl rfl rfl ?_
        refine s_append rfl (ap_o rfl rfl rfl rfl rfl rfl (by decide) (Nat.le_of_ble_eq_true rfl) rfl (by simp) rfl rfl (by rw [List.length_map, z1]) (by simp <;> omega)) rfl rfl ?_
        refine s_assign rfl rfl rfl ?_
        refine s_end (hK _ ?_); clear hK K
        refine AWP_reg tok fun K hK => ?_
        refine s_move rfl rfl rfl ?_
        refine s_bin rfl (e_add (c := ((nx + 1 : Nat) : Int)) (by omega) (by omega)) rfl ?_
        refine s_assign rfl rfl rfl ?_
        refine s_end (hK _ ?_); clear hK K
        show AWP _ _ _ _ _ _
        refine AWP_reg tok fun K hK => ?_
        refine s_move rfl rfl rfl ?_
        refine s_bin rfl (e_add (c := ((i + 1 + 1 : Nat) : Int)) (by omega) (by omega)) rfl ?_
        refine s_assign rfl rfl rfl ?_
        refine s_end (hK _ ?_); clear hK K
        refine ⟨i + 1 + 1, by omega, hg, Wk.rn [4, 10, 11, 9] [200, 92] 92 201 rfl rfl rfl ⟨rfl, ?_, ?_, rfl, trivial⟩ ⟨rfl, ?_, trivial⟩⟩
        · first
            | rfl
            | (show SV.val (.one (.own 201 1 0 _)) = _
               rw [List.length_append, List.length_map, z1]; rfl)
        · rw [hstep]; rfl
        · rw [hstep]
          first
            | (rw [List.length_eq_zero_iff.1 z1]; rfl)
            | (rw [List.map_append]; rfl)
    · have hx : ¬ L.getD i 0 = i := by simp only [beq_eq_false_iff_ne, ne_eq] at hx; omega
      rw [if_neg hx] at hstep
      rcases i with _ | i
      · omega
      have hlt : L.getD (i + 1) 0 < i + 1 := by omega
      have hlo : L.getD (i + 1) 0 < os.length := by omega
      refine AWP_reg tok fun K hK => ?_
      refine s_move rfl rfl rfl ?_
      refine s_move rfl rfl rfl ?_
      refine s_move rfl rfl rfl ?_
      refine s_move rfl rfl rfl ?_
      refine s_indexAddr rfl (x_o (i := i + 1) (j := i + 1) rfl rfl rfl rfl rfl hg (Nat.zero_add _)) rfl ?_
      refine s_load rfl (l_N rfl rfl rfl rfl hiL) rfl ?_
      refine s_indexAddr rfl (x_o (i := L.getD (i + 1) 0) (j := L.getD (i + 1) 0) rfl rfl rfl rfl rfl hlt (Nat.zero_add _)) rfl ?_
      refine s_load rfl (l_N rfl rfl rfl rfl hlo) rfl ?_
      refine s_buildSlice rfl rfl rfl rfl ?_
      refine s_append rfl (ap_o rfl rfl rfl rfl rfl rfl (by decide) (Nat.le_of_ble_eq_true rfl) rfl (by simp) rfl rfl (by rw [List.length_map, z1]) (by simp <;> omega)) rfl rfl ?_
      refine s_assign rfl rfl rfl ?_
      refine s_end (hK _ ?_); clear hK K
      show AWP _ _ _ _ _ _
      refine AWP_reg tok fun K hK => ?_
      refine s_move rfl rfl rfl ?_
      refine s_bin rfl (e_add (c := ((i + 1 + 1 : Nat) : Int)) (by omega) (by omega)) rfl ?_
      refine s_assign rfl rfl rfl ?_
      refine s_end (hK _ ?_); clear hK K
      refine ⟨i + 1 + 1, by omega, hg, Wk.rn [4, 10, 11, 9] [200, 104] 104 201 rfl rfl rfl ⟨rfl, ?_, ?_, rfl, trivial⟩ ⟨rfl, ?_, trivial⟩⟩
      · show SV.val (.one (.own 201 1 0 _)) = _
        rw [List.length_append, List.length_map, z1]; rfl
      · rw [hstep]; rfl
      · rw [hstep, List.map_append]; rfl
  have hi' : i = m + 1 := by simp at hg; omega
  subst hi'
  refine AWP_exit ?_
  show AWP _ _ _ _ _ _
  refine a_fz [9] [201] 201 [(9, V1 (dNs (numF (fun v => L.getD v 0) (m + 1)).1))] [] rfl ⟨?_, trivial⟩ trivial ?_
  · exact frz_own rfl (by rw [List.length_map, hnl])
  refine AWP_reg_seq tok fun K hK => ?_
  refine s_move rfl rfl rfl ?_
  refine s_assign rfl rfl rfl ?_
  refine s_assign rfl rfl rfl ?_
  refine s_end (hK _ ?_); clear hK K
  refine AWP_ret ?_
  repeat (with_reducible refine tq_ret ?_)
  exact post_ret (fin_mk (by rfl) (by rfl) (by rfl))

theorem e_eqB {T : Tab} {t : TypeId} {b : Bool} (h : isBoolT T t = true) : effBin T .eql t (dB b) (dB b) = .set (dB true) := by
  show (match binA .eql (.bool b) (.bool b) with
    | some v => setLit v
    | none => if isBoolT T t then setLit (.bool (b == b)) else .stuck) = _
  show (if isBoolT T t then setLit (.bool (b == b)) else Eff.stuck) = _
  rw [if_pos h, beq_self_eq_true]; rfl
theorem alongV_RS {g : GR} {k : Int} (ok : ∀ r ∈ g.nodes, r.OK 2) : RS (alongV g k).1.x ∧ RS (alongV g k).1.y := by
  have h0 : RS sp0.x ∧ RS sp0.y := ⟨⟨by decide, by decide⟩, ⟨by decide, by decide⟩⟩
  unfold alongV
  split
  · rename_i hv
    split
    · rename_i hd
      have lv := linkB_iff.1 ((validB_iff.1 hv).lk _ (List.getElem_mem hd.2))
      have o := alS_ok (ok _ (frN_mem lv)) rfl lv.ix lv.iy (m := 64) rfl
      exact ⟨o.x.RS rfl, o.y.RS rfl⟩
    · exact h0
  · exact h0

theorem lMatch_c (g : GR) (k : Int) (hg : ∀ r ∈ g.nodes, r.W) : Con Tryz.prog 3 [AG g.cs, dI k] { v := dB true } := by
  refine con_intro (fn := Tryz.f3) tok Tryz.func3 (by kernel_rfl) rfl ?_
  intro w0 X
  rw [entry_mkE _ _ [(0, AG g.cs), (1, dI k)] rfl rfl]
  refine AWP_reg_seq tok fun K hK => ?_
  refine s_box rfl rfl rfl rfl rfl rfl ?_
  refine s_assign rfl rfl rfl ?_
  refine s_end (hK _ ?_); clear hK K
  refine AWP_seq ?_
  refine a_join (α := Bool) (fun c => mk 68 [(1, dI k), (2, .ptr 2 0), (4, dB false), (19, dB c)] [(2, some (.box g.cs))] []) (fun c => c = !fewB g) ?_ ?_
  · refine AWP_regW fun K hK => ?_
    refine w_step tok rfl ?_
    refine s_call rfl rfl (awake_c) rfl rfl rfl rfl ?_
    refine s_end ?_
    refine w_step tok rfl ?_
    refine s_un rfl rfl rfl ?_
    refine s_end ?_
    refine w_step tok rfl ?_
    refine s_move rfl rfl rfl ?_
    refine s_end ?_
    refine w_split (fun h0 => ?_) (fun h0 => ?_)
    · refine w_skip rfl rfl ?_
      refine w_skip rfl rfl ?_
      refine w_skip rfl rfl ?_
      refine w_step tok rfl ?_
      refine s_pick rfl rfl rfl ?_
      refine s_end ?_
      refine w_end rfl (hK _ ?_); clear hK K
      first|(exact absurd h0 (by decide))|exact ⟨_, rfl, Wk.mk' ⟨rfl, rfl, rfl, rfl, trivial⟩ ⟨rfl, trivial⟩⟩
    · refine w_step tok rfl ?_
      refine s_load rfl rfl rfl ?_
      refine s_end ?_
      refine w_step tok rfl ?_
      refine s_call rfl rfl (few_c g) rfl rfl rfl rfl ?_
      refine s_end ?_
      refine w_step tok rfl ?_
      refine s_un rfl rfl rfl ?_
      refine s_end ?_
      refine w_step tok rfl ?_
      refine s_pick rfl rfl rfl ?_
      refine s_end ?_
      refine w_end rfl (hK _ ?_); clear hK K
      first|(exact absurd h0 (by decide))|exact ⟨_, rfl, Wk.mk' ⟨rfl, rfl, rfl, rfl, trivial⟩ ⟨rfl, trivial⟩⟩
  rintro c rfl
  refine a_cond rfl (fun hc => ?_) (fun hc => ?_)
  · refine AWP_reg_seq tok fun K hK => ?_
    refine s_call rfl rfl (awake_c) rfl rfl rfl rfl ?_
    refine s_assign rfl rfl rfl ?_
    refine s_end (hK _ ?_); clear hK K
    refine AWP_ret ?_
    repeat (with_reducible refine tq_ret ?_)
    exact post_ret (fin_mk (by rfl) (by rfl) (by rfl))
  rw [Bool.not_eq_false'] at hc
  obtain ⟨ok, l1, l2⟩ := fewB_ok hc hg
  have c1 := gParts_c g
  have c2 := r28Parts_c g (by omega)
  have c3 := gAlong_c g k (fun r hr => (ok r hr).mono rfl) (by omega)
  have c4 := r28Along_c g k (fun r hr => (ok r hr).mono rfl) (by omega)
  have hRS := alongV_RS (k := k) ok
  have hlen : (partsV g).1.length ≤ 9223372036854775806 := by
    unfold partsV
    split
    · rw [num_length]; omega
    · simp
  generalize partsV g = v at c1 c2 hlen
  obtain ⟨a, e⟩ := v
  generalize alongV g k = u at c3 c4 hRS
  obtain ⟨d, f⟩ := u
  refine AWP_skip ?_
  show AWP _ _ _ _ _ _
  refine AWP_reg_seq tok fun K hK => ?_
  refine s_load rfl rfl rfl ?_
  refine s_call rfl rfl (c1) rfl rfl rfl rfl ?_
  refine s_move rfl rfl rfl ?_
  refine s_extract rfl rfl rfl ?_
  refine s_extract rfl rfl rfl ?_
  refine s_assign rfl rfl rfl ?_
  refine s_assign rfl rfl rfl ?_
  refine s_end (hK _ ?_); clear hK K
  refine AWP_reg_seq tok fun K hK => ?_
  refine s_load rfl rfl rfl ?_
  refine s_call rfl rfl (c2) rfl rfl rfl rfl ?_
  refine s_move rfl rfl rfl ?_
  refine s_extract rfl rfl rfl ?_
  refine s_extract rfl rfl rfl ?_
  refine s_assign rfl rfl rfl ?_
  refine s_assign rfl rfl rfl ?_
  refine s_end (hK _ ?_); clear hK K
  refine AWP_reg_seq tok fun K hK => ?_
  refine s_load rfl rfl rfl ?_
  refine s_move rfl rfl rfl ?_
  refine s_call rfl rfl (c3) rfl rfl rfl rfl ?_
  refine s_move rfl rfl rfl ?_
  refine s_extract rfl rfl rfl ?_
  refine s_extract rfl rfl rfl ?_
  refine s_alloc rfl rfl rfl rfl rfl rfl ?_
  refine s_store rfl rfl rfl rfl rfl ?_
  refine s_assign rfl rfl rfl ?_
  refine s_end (hK _ ?_); clear hK K
  refine AWP_reg_seq tok fun K hK => ?_
  refine s_load rfl rfl rfl ?_
  refine s_move rfl rfl rfl ?_
  refine s_call rfl rfl (c4) rfl rfl rfl rfl ?_
  refine s_move rfl rfl rfl ?_
  refine s_extract rfl rfl rfl ?_
  refine s_extract rfl rfl rfl ?_
  refine s_alloc rfl rfl rfl rfl rfl rfl ?_
  refine s_store rfl rfl rfl rfl rfl ?_
  refine s_assign rfl rfl rfl ?_
  refine s_end (hK _ ?_); clear hK K
  refine a_draw tok mixed (A := [[], [], [], [0], [0, 2], [0, 1, 2], [0, 1, 2, 3, 4], [0, 1, 2, 3, 4], [0, 1, 2, 3, 4], [0, 1, 2, 3, 4, 6, 7], [0, 1, 2, 3, 4, 5, 6, 7], [0, 1, 2, 3, 4, 5, 6, 7, 8, 9], [0, 1, 2, 3, 4, 5, 6, 7, 8, 9], [0, 1, 2, 3, 4, 5, 6, 7, 8, 9], [0, 1, 2, 3, 4, 5, 6, 7, 8, 9, 11, 12], [0, 1, 2, 3, 4, 5, 6, 7, 8, 9, 11, 12, 13], [0, 1, 2, 3, 4, 5, 6, 7, 8, 9, 10, 11, 12, 13, 14], [0, 1, 2, 3, 4, 5, 6, 7, 8, 9, 10, 11, 12, 13, 14], [0, 1, 2, 3, 4, 5, 6, 7, 8, 9, 10, 11, 12, 13, 14], [0, 1, 2, 3, 4, 5, 6, 7, 8, 9, 10, 11, 12, 13, 14, 16, 17], [0, 1, 2, 3, 4, 5, 6, 7, 8, 9, 10, 11, 12, 13, 14, 15, 16, 17], [0, 1, 2, 3, 4, 5, 6, 7, 8, 9, 10, 11, 12, 13, 14, 15, 16, 17, 18, 19], [0, 1, 2, 3, 4, 5, 6, 7, 8, 9, 10, 11, 12, 13, 14, 15, 16, 17, 18, 19], [0, 1, 2, 3, 4, 5, 6, 7, 8, 9, 10, 11, 12, 13, 14, 15, 16, 17, 18, 19], [0, 1, 2, 3, 4, 5, 6, 7, 8, 9, 10, 11, 12, 13, 14, 15, 16, 17, 18, 19, 21, 22], []]) (an := [{}, {}, { c := [44] }, {}, {}, {}, {}, {}, {}, {}, {}, {}, {}, {}, {}, {}, {}, {}, {}, {}, {}, {}, {}, {}, {}, {}]) rfl (by kernel_rfl) rfl fun K hK => ?_
  refine s_load rfl rfl rfl ?_
  refine s_call rfl rfl (gValid_c g) rfl rfl rfl rfl ?_
  refine s_load rfl rfl rfl ?_
  refine s_call rfl rfl (r28Valid_c g (by omega)) rfl rfl rfl rfl ?_
  refine s_bin rfl (e_eqB rfl) rfl ?_
  refine s_move rfl rfl rfl ?_
  refine s_move rfl rfl rfl ?_
  refine s_move rfl rfl rfl ?_
  refine s_call rfl rfl (nats_same a hlen) rfl rfl rfl rfl ?_
  refine s_pick rfl rfl rfl ?_
  refine s_move rfl rfl rfl ?_
  refine s_move rfl rfl rfl ?_
  refine s_move rfl rfl rfl ?_
  refine s_bin rfl (e_eqI rfl) rfl ?_
  refine s_pick rfl rfl rfl ?_
  refine s_move rfl rfl rfl ?_
  refine s_load rfl rfl rfl ?_
  refine s_load rfl rfl rfl ?_
  refine s_call rfl rfl (spot_same d hRS.1 hRS.2) rfl rfl rfl rfl ?_
  refine s_pick rfl rfl rfl ?_
  refine s_move rfl rfl rfl ?_
  refine s_move rfl rfl rfl ?_
  refine s_move rfl rfl rfl ?_
  refine s_bin rfl (e_eqI rfl) rfl ?_
  refine s_pick rfl rfl rfl ?_
  refine s_assign rfl rfl rfl ?_
  refine s_end (hK _ ?_); clear hK K
  refine AWP_ret ?_
  repeat (with_reducible refine tq_ret ?_)
  exact post_ret (fin_mk (by rfl) (by rfl) (by rfl))
end Go.Proofs.YtcafppnjemgkiaaGreat
