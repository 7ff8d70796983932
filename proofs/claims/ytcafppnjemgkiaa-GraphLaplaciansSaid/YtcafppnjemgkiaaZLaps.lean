/- Part of a proof that a Go function answers true for every input. No condition. -/
import Derived.Test.YtcafppnjemgkiaaC5
import Derived.Test.YtcafppnjemgkiaaRows
import Derived.ProofKit
set_option linter.unusedVariables false
set_option linter.unusedSimpArgs false
set_option linter.unusedSectionVars false
/- The Laplacian of any graph is that of the reference, symmetric, with rows whose sums are 0. No condition. -/
namespace Go.Proofs.Ytcafppnjemgkiaa
attribute [local irreducible] lexA

/-- What Laplacian answers. -/
def lapV (g : GR) : List (List RW) × Int := if validB g then (lapQ g.nodes.length (lapM g.links), 0) else ([], 1)
theorem gLap_c (g : GR) : Con Try.prog 28 [AG g.cs] { v := .tup [.one (.d (dMs (lapV g).1)), .one (.d (lI (lapV g).2))] } := by
  refine con_intro (fn := Try.f28) tok Try.func28 (by kernel_rfl) rfl ?_
  intro w0 X
  rw [entry_mkE _ _ [(0, AG g.cs)] rfl rfl]
  refine AWP_reg_seq tok fun K hK => ?_
  refine s_box rfl rfl rfl rfl rfl rfl ?_
  refine s_assign rfl rfl rfl ?_
  refine s_assign rfl rfl rfl ?_
  refine s_end (hK _ ?_); clear hK K
  refine AWP_seq ?_
  refine AWP_reg_seq tok fun K hK => ?_
  refine s_load rfl rfl rfl ?_
  refine s_call rfl rfl (gValid_c g) rfl rfl rfl rfl ?_
  refine s_un rfl rfl rfl ?_
  refine s_end (hK _ ?_); clear hK K
  refine a_cond rfl (fun hc => ?_) (fun hc => ?_)
  · rw [Bool.not_eq_true'] at hc
    have e : lapV g = ([], 1) := by rw [lapV, if_neg (by rw [hc]; simp)]
    rw [e]
    refine AWP_reg_seq tok fun K hK => ?_
    refine s_assign rfl rfl rfl ?_
    refine s_assign rfl rfl rfl ?_
    refine s_end (hK _ ?_); clear hK K
    refine AWP_ret ?_
    repeat (with_reducible refine tq_ret ?_)
    exact post_ret (fin_mk (by rfl) (by rfl) (by rfl))
  · rw [Bool.not_eq_false'] at hc
    have e : lapV g = (lapQ g.nodes.length (lapM g.links), 0) := by rw [lapV, if_pos hc]
    have c := glap_c g (validB_iff.1 hc)
    rw [e]
    generalize lapQ g.nodes.length (lapM g.links) = m at c ⊢
    refine AWP_skip ?_
    show AWP _ _ _ _ _ _
    refine AWP_reg_seq tok fun K hK => ?_
    refine s_load rfl rfl rfl ?_
    refine s_call rfl rfl (c) rfl rfl rfl rfl ?_
    refine s_assign rfl rfl rfl ?_
    refine s_assign rfl rfl rfl ?_
    refine s_end (hK _ ?_); clear hK K
    refine AWP_ret ?_
    repeat (with_reducible refine tq_ret ?_)
    exact post_ret (fin_mk (by rfl) (by rfl) (by rfl))

theorem lapM_take_le {n : Nat} {ls : List LK} (h : ∀ l ∈ ls, LV n l) (h48 : ls.length ≤ 48) (j i k : Nat) : -50331648 ≤ lapM (ls.take j) i k ∧ lapM (ls.take j) i k ≤ 50331648 := by
  have h1 := lapM_le (n := n) (ls.take j) (fun l hl => h l (List.mem_of_mem_take hl)) i k
  have h2 : (ls.take j).length ≤ 48 := by rw [List.length_take]; omega
  omega
theorem lap_step {n : Nat} {M : Nat → Nat → Int} {l : LK} (lv : LV n l) (i k : Nat) :
    lapS M l.f.toNat l.t.toNat l.w i k = M i k + (if ((i : Int) = k ∧ (l.f = i ∨ l.t = i)) then l.w else 0) - (if ((i : Int) ≠ k ∧ ((l.f = i ∧ l.t = k) ∨ (l.f = k ∧ l.t = i))) then l.w else 0) := by
  rw [lapS_eq lv.fn.1]
  have h1 := lv.f; have h2 := lv.t
  simp only [lapD]
  repeat' split
  all_goals omega

theorem r28Lap_c (g : GR) (hl : g.links.length ≤ 9223372036854775806) : Con Try.prog 29 [AG g.cs] { v := .tup [.one (.d (dMs (lapV g).1)), .one (.d (lI (lapV g).2))] } := by
  refine con_intro (fn := Try.f29) tok Try.func29 (by kernel_rfl) rfl ?_
  intro w0 X
  rw [entry_mkE _ _ [(0, AG g.cs)] rfl rfl]
  refine AWP_reg_seq tok fun K hK => ?_
  refine s_box rfl rfl rfl rfl rfl rfl ?_
  refine s_assign rfl rfl rfl ?_
  refine s_assign rfl rfl rfl ?_
  refine s_end (hK _ ?_); clear hK K
  refine AWP_seq ?_
  refine AWP_reg_seq tok fun K hK => ?_
  refine s_load rfl rfl rfl ?_
  refine s_call rfl rfl (r28Valid_c g hl) rfl rfl rfl rfl ?_
  refine s_un rfl rfl rfl ?_
  refine s_end (hK _ ?_); clear hK K
  refine a_cond rfl (fun hc => ?_) (fun hc => ?_)
  · rw [Bool.not_eq_true'] at hc
    have e : lapV g = ([], 1) := by rw [lapV, if_neg (by rw [hc]; simp)]
    rw [e]
    refine AWP_reg_seq tok fun K hK => ?_
    refine s_assign rfl rfl rfl ?_
    refine s_assign rfl rfl rfl ?_
    refine s_end (hK _ ?_); clear hK K
    refine AWP_ret ?_
    repeat (with_reducible refine tq_ret ?_)
    exact post_ret (fin_mk (by rfl) (by rfl) (by rfl))
  rw [Bool.not_eq_false'] at hc
  have e : lapV g = (lapQ g.nodes.length (lapM g.links), 0) := by rw [lapV, if_pos hc]
  have gv := validB_iff.1 hc
  rw [e]
  obtain ⟨m, hm⟩ : ∃ m, g.nodes.length = m + 1 := ⟨g.nodes.length - 1, by have := gv.n1; omega⟩
  have n16 := gv.n2
  have l48 := gv.l
  have hLV : ∀ l ∈ g.links, LV (m + 1) l := fun l hl => hm ▸ linkB_iff.1 (gv.lk l hl)
  have hM := fun j i k => lapM_take_le hLV l48 j i k
  have eall : g.links.take g.links.length = g.links := List.take_length
  rw [hm]
  refine AWP_skip ?_
  show AWP _ _ _ _ _ _
  refine AWP_reg_seq tok fun K hK => ?_
  refine s_assign rfl rfl rfl ?_
  refine s_end (hK _ ?_); clear hK K
  refine AWP_seq ?_
  refine AWP_reg_seq tok fun K hK => ?_
  refine s_assign rfl rfl rfl ?_
  refine s_end (hK _ ?_); clear hK K
  refine AWP_block (a_loop (α := Nat) (fun i => mk 100 [(1, .ptr 1 0), (4, ownN 200 1 i), (5, dI i)] [(1, some (.box g.cs)), (200, arrN 1 (((List.range i).map (lapR (m + 1) (lapM g.links))).map cM) i)] []) (fun i => i ≤ m + 1) (fun i => m + 1 - i) 0 ?_ (Nat.zero_le _) ?_)
  · exact Wk.mk' ⟨rfl, rfl, rfl, trivial⟩ ⟨rfl, rfl, trivial⟩
  intro i hi
  refine AWP_seq ?_
  refine AWP_reg_seq tok fun K hK => ?_
  refine s_move rfl rfl rfl ?_
  refine s_fieldAddr rfl rfl rfl ?_
  refine s_load rfl rfl rfl ?_
  refine s_blt rfl (len_m RW.dc rfl rfl) rfl ?_
  refine s_bin rfl rfl rfl ?_
  refine s_end (hK _ ?_); clear hK K
  refine a_cond rfl (fun hg => ?_) (fun hg => ?_)
  · have hg : i < m + 1 := by simp at hg; omega
    refine AWP_skip ?_
    show AWP _ _ _ _ _ _
    refine AWP_seq ?_
    refine AWP_block ?_
    refine AWP_reg_seq tok fun K hK => ?_
    refine s_assign rfl rfl rfl ?_
    refine s_end (hK _ ?_); clear hK K
    have hrow : lapR (m + 1) (lapM g.links) i = (List.range (m + 1)).map fun k => qzW (lapM g.links i k : Int) := rfl
    have n1 : ((List.range i).map (lapR (m + 1) (lapM g.links))).map cM ++ [cM (lapR (m + 1) (lapM g.links) i)] = ((List.range (i + 1)).map (lapR (m + 1) (lapM g.links))).map cM := by
      rw [List.range_succ, List.map_append, List.map_append]; rfl
    have z1 : (((List.range i).map (lapR (m + 1) (lapM g.links))).map cM).length = i := by simp
    generalize ((List.range i).map (lapR (m + 1) (lapM g.links))).map cM = es at n1 z1 ⊢
    refine AWP_seq ?_
    refine AWP_reg_seq tok fun K hK => ?_
    refine s_assign rfl rfl rfl ?_
    refine s_end (hK _ ?_); clear hK K
    refine AWP_block (a_loop (α := Nat) (fun k => mk 100 [(1, .ptr 1 0), (4, ownN 200 1 i), (5, dI i), (6, ownN 201 4 k), (7, dI k)] [(1, some (.box g.cs)), (200, arrN 1 es i), (201, arrN 4 (((List.range k).map fun k => qzW (lapM g.links i k : Int)).map RW.dc) k)] []) (fun k => k ≤ m + 1) (fun k => m + 1 - k) 0 ?_ (Nat.zero_le _) ?_)
    · exact Wk.mk' ⟨rfl, rfl, rfl, rfl, rfl, trivial⟩ ⟨rfl, rfl, rfl, trivial⟩
    intro k hk
    refine AWP_seq ?_
    refine AWP_reg_seq tok fun K hK => ?_
    refine s_move rfl rfl rfl ?_
    refine s_fieldAddr rfl rfl rfl ?_
    refine s_load rfl rfl rfl ?_
    refine s_blt rfl (len_m RW.dc rfl rfl) rfl ?_
    refine s_bin rfl rfl rfl ?_
    refine s_end (hK _ ?_); clear hK K
    refine a_cond rfl (fun hg' => ?_) (fun hg' => ?_)
    · have hg' : k < m + 1 := by simp at hg'; omega
      have n2 : ((List.range k).map fun k => qzW (lapM g.links i k : Int)).map RW.dc ++ [(qzW (lapM g.links i k : Int)).dc] = ((List.range (k + 1)).map fun k => qzW (lapM g.links i k : Int)).map RW.dc := by
        rw [List.range_succ, List.map_append, List.map_append]; rfl
      have z2 : (((List.range k).map fun k => qzW (lapM g.links i k : Int)).map RW.dc).length = k := by simp
      generalize ((List.range k).map fun k => qzW (lapM g.links i k : Int)).map RW.dc = rs at n2 z2 ⊢
      refine AWP_skip ?_
      show AWP _ _ _ _ _ _
      refine AWP_seq ?_
      refine AWP_block ?_
      refine AWP_reg_seq tok fun K hK => ?_
      refine s_assign rfl rfl rfl ?_
      refine s_end (hK _ ?_); clear hK K
      refine AWP_seq ?_
      refine AWP_reg_seq tok fun K hK => ?_
      refine s_assign rfl rfl rfl ?_
      refine s_end (hK _ ?_); clear hK K
      refine AWP_block (a_loop (α := Nat) (fun j => mk 100 [(1, .ptr 1 0), (4, ownN 200 1 i), (5, dI i), (6, ownN 201 4 k), (7, dI k), (8, dI (lapM (g.links.take j) i k)), (9, dI j)] [(1, some (.box g.cs)), (200, arrN 1 es i), (201, arrN 4 rs k)] []) (fun j => j ≤ g.links.length) (fun j => g.links.length - j) 0 ?_ (Nat.zero_le _) ?_)
      · exact Wk.mk' ⟨rfl, rfl, rfl, rfl, rfl, rfl, rfl, trivial⟩ ⟨rfl, rfl, rfl, trivial⟩
      intro j hj
      refine AWP_seq ?_
      refine AWP_reg_seq tok fun K hK => ?_
      refine s_move rfl rfl rfl ?_
      refine s_fieldAddr rfl rfl rfl ?_
      refine s_load rfl rfl rfl ?_
      refine s_blt rfl (len_m LK.dc rfl rfl) rfl ?_
      refine s_bin rfl rfl rfl ?_
      refine s_end (hK _ ?_); clear hK K
      refine a_cond rfl (fun hg'' => ?_) (fun hg'' => ?_)
      · have hg'' : j < g.links.length := by simp at hg''; omega
        have lv := hLV _ (List.getElem_mem hg'')
        have hs := lapM_snoc hg''
        have hst := lap_step (M := lapM (g.links.take j)) lv i k
        have hb := hM j i k
        have lw := lv.w
        obtain ⟨l, el⟩ : ∃ l, l = g.links[j] := ⟨_, rfl⟩
        rw [← hs, ← el] at hst
        rw [← el] at lw
        generalize lapM (g.links.take j) i k = a at hst hb ⊢
        refine AWP_skip ?_
        show AWP _ _ _ _ _ _
        refine AWP_seq ?_
        refine AWP_block ?_
        refine AWP_reg_seq tok fun K hK => ?_
        refine s_fieldAddr rfl rfl rfl ?_
        refine s_load rfl rfl rfl ?_
        refine s_move rfl rfl rfl ?_
        refine s_indexAddr rfl (x_m LK.dc rfl rfl rfl rfl hg'' rfl) rfl ?_
        refine s_load rfl rfl rfl ?_
        refine s_alloc rfl rfl rfl rfl rfl (by rcases k with _|k <;> rcases i with _|i <;> rfl) ?_
        refine s_store rfl rfl rfl rfl rfl ?_
        refine s_end (hK _ ?_); clear hK K
        rw [← el]
        refine a_join (α := Int) (fun b => mk 100 [(1, .ptr 1 0), (4, ownN 200 1 i), (5, dI i), (6, ownN 201 4 k), (7, dI k), (8, dI b), (9, dI j), (10, .ptr 10 0)] [(1, some (.box g.cs)), (200, arrN 1 es i), (201, arrN 4 rs k), (10, some (.box l.cs))] []) (fun b => b = a + (if ((i : Int) = k ∧ (l.f = i ∨ l.t = i)) then l.w else 0)) ?_ ?_
        · refine a_join (α := Bool) (fun c => mk 100 [(1, .ptr 1 0), (4, ownN 200 1 i), (5, dI i), (6, ownN 201 4 k), (7, dI k), (8, dI a), (9, dI j), (10, .ptr 10 0), (54, dB c)] [(1, some (.box g.cs)), (200, arrN 1 es i), (201, arrN 4 rs k), (10, some (.box l.cs))] []) (fun c => c = decide ((i : Int) = k ∧ (l.f = i ∨ l.t = i))) ?_ ?_
          · refine AWP_regW fun K hK => ?_
            refine w_step tok rfl ?_
            refine s_move rfl rfl rfl ?_
            refine s_end ?_
            refine w_step tok rfl ?_
            refine s_move rfl rfl rfl ?_
            refine s_end ?_
            refine w_step tok rfl ?_
            refine s_bin rfl rfl rfl ?_
            refine s_end ?_
            refine w_step tok rfl ?_
            refine s_move rfl rfl rfl ?_
            refine s_end ?_
            refine w_split (fun h0 => ?_) (fun h0 => ?_)
            · refine w_step tok rfl ?_
              refine s_fieldAddr rfl rfl rfl ?_
              refine s_end ?_
              refine w_step tok rfl ?_
              refine s_load rfl rfl rfl ?_
              refine s_end ?_
              refine w_step tok rfl ?_
              refine s_move rfl rfl rfl ?_
              refine s_end ?_
              refine w_step tok rfl ?_
              refine s_bin rfl rfl rfl ?_
              refine s_end ?_
              refine w_step tok rfl ?_
              refine s_move rfl rfl rfl ?_
              refine s_end ?_
              refine w_split (fun h1 => ?_) (fun h1 => ?_)
              · refine w_skip rfl rfl ?_
                refine w_skip rfl rfl ?_
                refine w_skip rfl rfl ?_
                refine w_skip rfl rfl ?_
                refine w_step tok rfl ?_
                refine s_pick rfl rfl rfl ?_
                refine s_end ?_
                refine w_step tok rfl ?_
                refine s_pick rfl rfl rfl ?_
                refine s_end ?_
                refine w_end rfl (hK _ ?_); clear hK K
                exact ⟨_, (by simp only [beq_iff_eq, beq_eq_false_iff_ne, ne_eq] at h0 h1; rw [Bool.eq_iff_iff]; simp only [beq_iff_eq, decide_eq_true_eq, Bool.false_eq_true, eq_self_iff_true, true_iff, false_iff]; omega), Wk.mk' ⟨rfl, rfl, rfl, rfl, rfl, rfl, rfl, rfl, rfl, trivial⟩ ⟨rfl, rfl, rfl, rfl, trivial⟩⟩
              · refine w_step tok rfl ?_
                refine s_fieldAddr rfl rfl rfl ?_
                refine s_end ?_
                refine w_step tok rfl ?_
                refine s_load rfl rfl rfl ?_
                refine s_end ?_
                refine w_step tok rfl ?_
                refine s_move rfl rfl rfl ?_
                refine s_end ?_
                refine w_step tok rfl ?_
                refine s_bin rfl rfl rfl ?_
                refine s_end ?_
                refine w_step tok rfl ?_
                refine s_pick rfl rfl rfl ?_
                refine s_end ?_
                refine w_step tok rfl ?_
                refine s_pick rfl rfl rfl ?_
                refine s_end ?_
                refine w_end rfl (hK _ ?_); clear hK K
                exact ⟨_, (by simp only [beq_iff_eq, beq_eq_false_iff_ne, ne_eq] at h0 h1; rw [Bool.eq_iff_iff]; simp only [beq_iff_eq, decide_eq_true_eq, Bool.false_eq_true, eq_self_iff_true, true_iff, false_iff]; omega), Wk.mk' ⟨rfl, rfl, rfl, rfl, rfl, rfl, rfl, rfl, rfl, trivial⟩ ⟨rfl, rfl, rfl, rfl, trivial⟩⟩
            · refine w_skip rfl rfl ?_
              refine w_skip rfl rfl ?_
              refine w_skip rfl rfl ?_
              refine w_skip rfl rfl ?_
              refine w_skip rfl rfl ?_
              refine w_skip2 rfl rfl rfl ?_
              refine w_skip2 rfl rfl rfl ?_
              refine w_skip2 rfl rfl rfl ?_
              refine w_skip2 rfl rfl rfl ?_
              refine w_skip rfl rfl ?_
              refine w_step tok rfl ?_
              refine s_pick rfl rfl rfl ?_
              refine s_end ?_
              refine w_end rfl (hK _ ?_); clear hK K
              exact ⟨_, (by simp only [beq_iff_eq, beq_eq_false_iff_ne, ne_eq] at h0; rw [Bool.eq_iff_iff]; simp only [beq_iff_eq, decide_eq_true_eq, Bool.false_eq_true, eq_self_iff_true, true_iff, false_iff]; omega), Wk.mk' ⟨rfl, rfl, rfl, rfl, rfl, rfl, rfl, rfl, rfl, trivial⟩ ⟨rfl, rfl, rfl, rfl, trivial⟩⟩
          rintro c rfl
          refine a_cond rfl (fun hd => ?_) (fun hd => ?_)
          · rw [decide_eq_true_eq] at hd
            refine AWP_reg tok fun K hK => ?_
            refine s_move rfl rfl rfl ?_
            refine s_fieldAddr rfl rfl rfl ?_
            refine s_load rfl rfl rfl ?_
            refine s_bin rfl (e_add rfl (by omega)) rfl ?_
            refine s_assign rfl rfl rfl ?_
            refine s_end (hK _ ?_); clear hK K
            exact ⟨_, by rw [if_pos hd], Wk.mk' ⟨rfl, rfl, rfl, rfl, rfl, rfl, rfl, rfl, trivial⟩ ⟨rfl, rfl, rfl, rfl, trivial⟩⟩
          · rw [decide_eq_false_iff_not] at hd
            refine AWP_skip ?_
            exact ⟨_, by rw [if_neg hd, Int.add_zero], Wk.mk' ⟨rfl, rfl, rfl, rfl, rfl, rfl, rfl, rfl, trivial⟩ ⟨rfl, rfl, rfl, rfl, trivial⟩⟩
        intro b hbe
        have hb' : -51380224 ≤ b ∧ b ≤ 51380224 := by split at hbe <;> omega
        rw [← hbe] at hst
        refine a_join (α := Bool) (fun c => mk 100 [(1, .ptr 1 0), (4, ownN 200 1 i), (5, dI i), (6, ownN 201 4 k), (7, dI k), (8, dI b), (9, dI j), (10, .ptr 10 0), (85, dB c)] [(1, some (.box g.cs)), (200, arrN 1 es i), (201, arrN 4 rs k), (10, some (.box l.cs))] []) (fun c => c = decide ((i : Int) ≠ k ∧ ((l.f = i ∧ l.t = k) ∨ (l.f = k ∧ l.t = i)))) ?_ ?_
        · refine AWP_regW fun K hK => ?_
          refine w_step tok rfl ?_
          refine s_move rfl rfl rfl ?_
          refine s_end ?_
          refine w_step tok rfl ?_
          refine s_move rfl rfl rfl ?_
          refine s_end ?_
          refine w_step tok rfl ?_
          refine s_bin rfl rfl rfl ?_
          refine s_end ?_
          refine w_step tok rfl ?_
          refine s_move rfl rfl rfl ?_
          refine s_end ?_
          refine w_split (fun h0 => ?_) (fun h0 => ?_)
          · refine w_step tok rfl ?_
            refine s_fieldAddr rfl rfl rfl ?_
            refine s_end ?_
            refine w_step tok rfl ?_
            refine s_load rfl rfl rfl ?_
            refine s_end ?_
            refine w_step tok rfl ?_
            refine s_move rfl rfl rfl ?_
            refine s_end ?_
            refine w_step tok rfl ?_
            refine s_bin rfl rfl rfl ?_
            refine s_end ?_
            refine w_step tok rfl ?_
            refine s_move rfl rfl rfl ?_
            refine s_end ?_
            refine w_split (fun h1 => ?_) (fun h1 => ?_)
            · refine w_step tok rfl ?_
              refine s_fieldAddr rfl rfl rfl ?_
              refine s_end ?_
              refine w_step tok rfl ?_
              refine s_load rfl rfl rfl ?_
              refine s_end ?_
              refine w_step tok rfl ?_
              refine s_move rfl rfl rfl ?_
              refine s_end ?_
              refine w_step tok rfl ?_
              refine s_bin rfl rfl rfl ?_
              refine s_end ?_
              refine w_step tok rfl ?_
              refine s_pick rfl rfl rfl ?_
              refine s_end ?_
              refine w_step tok rfl ?_
              refine s_move rfl rfl rfl ?_
              refine s_end ?_
              refine w_split (fun h2 => ?_) (fun h2 => ?_)
              · refine w_skip rfl rfl ?_
                refine w_skip rfl rfl ?_
                refine w_skip rfl rfl ?_
                refine w_skip rfl rfl ?_
                refine w_skip rfl rfl ?_
                refine w_skip2 rfl rfl rfl ?_
                refine w_skip2 rfl rfl rfl ?_
                refine w_skip2 rfl rfl rfl ?_
                refine w_skip2 rfl rfl rfl ?_
                refine w_skip rfl rfl ?_
                refine w_step tok rfl ?_
                refine s_pick rfl rfl rfl ?_
                refine s_end ?_
                refine w_step tok rfl ?_
                refine s_pick rfl rfl rfl ?_
                refine s_end ?_
                refine w_end rfl (hK _ ?_); clear hK K
                exact ⟨_, (by simp only [beq_iff_eq, beq_eq_false_iff_ne, ne_eq, bne_iff_ne, bne_eq_false_iff_eq] at h0 h1 h2; rw [Bool.eq_iff_iff]; simp only [beq_iff_eq, decide_eq_true_eq, Bool.false_eq_true, eq_self_iff_true, true_iff, false_iff, ne_eq]; omega), Wk.mk' ⟨rfl, rfl, rfl, rfl, rfl, rfl, rfl, rfl, rfl, trivial⟩ ⟨rfl, rfl, rfl, rfl, trivial⟩⟩
              · refine w_step tok rfl ?_
                refine s_fieldAddr rfl rfl rfl ?_
                refine s_end ?_
                refine w_step tok rfl ?_
                refine s_load rfl rfl rfl ?_
                refine s_end ?_
                refine w_step tok rfl ?_
                refine s_move rfl rfl rfl ?_
                refine s_end ?_
                refine w_step tok rfl ?_
                refine s_bin rfl rfl rfl ?_
                refine s_end ?_
                refine w_step tok rfl ?_
                refine s_move rfl rfl rfl ?_
                refine s_end ?_
                refine w_split (fun h3 => ?_) (fun h3 => ?_)
                · refine w_step tok rfl ?_
                  refine s_fieldAddr rfl rfl rfl ?_
                  refine s_end ?_
                  refine w_step tok rfl ?_
                  refine s_load rfl rfl rfl ?_
                  refine s_end ?_
                  refine w_step tok rfl ?_
                  refine s_move rfl rfl rfl ?_
                  refine s_end ?_
                  refine w_step tok rfl ?_
                  refine s_bin rfl rfl rfl ?_
                  refine s_end ?_
                  refine w_step tok rfl ?_
                  refine s_pick rfl rfl rfl ?_
                  refine s_end ?_
                  refine w_step tok rfl ?_
                  refine s_pick rfl rfl rfl ?_
                  refine s_end ?_
                  refine w_step tok rfl ?_
                  refine s_pick rfl rfl rfl ?_
                  refine s_end ?_
                  refine w_end rfl (hK _ ?_); clear hK K
                  exact ⟨_, (by simp only [beq_iff_eq, beq_eq_false_iff_ne, ne_eq, bne_iff_ne, bne_eq_false_iff_eq] at h0 h1 h2 h3; rw [Bool.eq_iff_iff]; simp only [beq_iff_eq, decide_eq_true_eq, Bool.false_eq_true, eq_self_iff_true, true_iff, false_iff, ne_eq]; omega), Wk.mk' ⟨rfl, rfl, rfl, rfl, rfl, rfl, rfl, rfl, rfl, trivial⟩ ⟨rfl, rfl, rfl, rfl, trivial⟩⟩
                · refine w_skip rfl rfl ?_
                  refine w_skip rfl rfl ?_
                  refine w_skip rfl rfl ?_
                  refine w_skip rfl rfl ?_
                  refine w_step tok rfl ?_
                  refine s_pick rfl rfl rfl ?_
                  refine s_end ?_
                  refine w_step tok rfl ?_
                  refine s_pick rfl rfl rfl ?_
                  refine s_end ?_
                  refine w_step tok rfl ?_
                  refine s_pick rfl rfl rfl ?_
                  refine s_end ?_
                  refine w_end rfl (hK _ ?_); clear hK K
                  exact ⟨_, (by simp only [beq_iff_eq, beq_eq_false_iff_ne, ne_eq, bne_iff_ne, bne_eq_false_iff_eq] at h0 h1 h2 h3; rw [Bool.eq_iff_iff]; simp only [beq_iff_eq, decide_eq_true_eq, Bool.false_eq_true, eq_self_iff_true, true_iff, false_iff, ne_eq]; omega), Wk.mk' ⟨rfl, rfl, rfl, rfl, rfl, rfl, rfl, rfl, rfl, trivial⟩ ⟨rfl, rfl, rfl, rfl, trivial⟩⟩
            · refine w_skip rfl rfl ?_
              refine w_skip rfl rfl ?_
              refine w_skip rfl rfl ?_
              refine w_skip rfl rfl ?_
              refine w_step tok rfl ?_
              refine s_pick rfl rfl rfl ?_
              refine s_end ?_
              refine w_step tok rfl ?_
              refine s_move rfl rfl rfl ?_
              refine s_end ?_
              refine w_step tok rfl ?_
              refine s_fieldAddr rfl rfl rfl ?_
              refine s_end ?_
              refine w_step tok rfl ?_
              refine s_load rfl rfl rfl ?_
              refine s_end ?_
              refine w_step tok rfl ?_
              refine s_move rfl rfl rfl ?_
              refine s_end ?_
              refine w_step tok rfl ?_
              refine s_bin rfl rfl rfl ?_
              refine s_end ?_
              refine w_step tok rfl ?_
              refine s_move rfl rfl rfl ?_
              refine s_end ?_
              refine w_split (fun h2 => ?_) (fun h2 => ?_)
              · refine w_step tok rfl ?_
                refine s_fieldAddr rfl rfl rfl ?_
                refine s_end ?_
                refine w_step tok rfl ?_
                refine s_load rfl rfl rfl ?_
                refine s_end ?_
                refine w_step tok rfl ?_
                refine s_move rfl rfl rfl ?_
                refine s_end ?_
                refine w_step tok rfl ?_
                refine s_bin rfl rfl rfl ?_
                refine s_end ?_
                refine w_step tok rfl ?_
                refine s_pick rfl rfl rfl ?_
                refine s_end ?_
                refine w_step tok rfl ?_
                refine s_pick rfl rfl rfl ?_
                refine s_end ?_
                refine w_step tok rfl ?_
                refine s_pick rfl rfl rfl ?_
                refine s_end ?_
                refine w_end rfl (hK _ ?_); clear hK K
                exact ⟨_, (by simp only [beq_iff_eq, beq_eq_false_iff_ne, ne_eq, bne_iff_ne, bne_eq_false_iff_eq] at h0 h1 h2; rw [Bool.eq_iff_iff]; simp only [beq_iff_eq, decide_eq_true_eq, Bool.false_eq_true, eq_self_iff_true, true_iff, false_iff, ne_eq]; omega), Wk.mk' ⟨rfl, rfl, rfl, rfl, rfl, rfl, rfl, rfl, rfl, trivial⟩ ⟨rfl, rfl, rfl, rfl, trivial⟩⟩
              · refine w_skip rfl rfl ?_
                refine w_skip rfl rfl ?_
                refine w_skip rfl rfl ?_
                refine w_skip rfl rfl ?_
                refine w_step tok rfl ?_
                refine s_pick rfl rfl rfl ?_
                refine s_end ?_
                refine w_step tok rfl ?_
                refine s_pick rfl rfl rfl ?_
                refine s_end ?_
                refine w_step tok rfl ?_
                refine s_pick rfl rfl rfl ?_
                refine s_end ?_
                refine w_end rfl (hK _ ?_); clear hK K
                exact ⟨_, (by simp only [beq_iff_eq, beq_eq_false_iff_ne, ne_eq, bne_iff_ne, bne_eq_false_iff_eq] at h0 h1 h2; rw [Bool.eq_iff_iff]; simp only [beq_iff_eq, decide_eq_true_eq, Bool.false_eq_true, eq_self_iff_true, true_iff, false_iff, ne_eq]; omega), Wk.mk' ⟨rfl, rfl, rfl, rfl, rfl, rfl, rfl, rfl, rfl, trivial⟩ ⟨rfl, rfl, rfl, rfl, trivial⟩⟩
          · refine w_skip rfl rfl ?_
            refine w_skip rfl rfl ?_
            refine w_skip rfl rfl ?_
            refine w_skip rfl rfl ?_
            refine w_skip rfl rfl ?_
            refine w_skip2 rfl rfl rfl ?_
            refine w_skip2 rfl rfl rfl ?_
            refine w_skip2 rfl rfl rfl ?_
            refine w_skip2 rfl rfl rfl ?_
            refine w_skip rfl rfl ?_
            refine w_skip rfl rfl ?_
            refine w_skip2 rfl rfl rfl ?_
            refine w_skip2 rfl rfl rfl ?_
            refine w_skip2 rfl rfl rfl ?_
            refine w_skip2 rfl rfl rfl ?_
            refine w_skip2 rfl rfl rfl ?_
            refine w_skip2 rfl rfl rfl ?_
            refine w_skip2 rfl rfl rfl ?_
            refine w_skip2 rfl rfl rfl ?_
            refine w_skip2 rfl rfl rfl ?_
            refine w_skip2 rfl rfl rfl ?_
            refine w_skip rfl rfl ?_
            refine w_step tok rfl ?_
            refine s_pick rfl rfl rfl ?_
            refine s_end ?_
            refine w_end rfl (hK _ ?_); clear hK K
            exact ⟨_, (by simp only [beq_iff_eq, beq_eq_false_iff_ne, ne_eq, bne_iff_ne, bne_eq_false_iff_eq] at h0; rw [Bool.eq_iff_iff]; simp only [beq_iff_eq, decide_eq_true_eq, Bool.false_eq_true, eq_self_iff_true, true_iff, false_iff, ne_eq]; omega), Wk.mk' ⟨rfl, rfl, rfl, rfl, rfl, rfl, rfl, rfl, rfl, trivial⟩ ⟨rfl, rfl, rfl, rfl, trivial⟩⟩
        rintro c rfl
        refine a_cond rfl (fun hd => ?_) (fun hd => ?_)
        · rw [decide_eq_true_eq] at hd
          rw [if_pos hd] at hst
          refine AWP_reg tok fun K hK => ?_
          refine s_move rfl rfl rfl ?_
          refine s_fieldAddr rfl rfl rfl ?_
          refine s_load rfl rfl rfl ?_
          refine s_bin rfl (e_sub hst.symm (by have := hM (j + 1) i k; omega)) rfl ?_
          refine s_assign rfl rfl rfl ?_
          refine s_end (hK _ ?_); clear hK K
          show AWP _ _ _ _ _ _
          refine AWP_reg tok fun K hK => ?_
          refine s_move rfl rfl rfl ?_
          refine s_bin rfl (e_add (c := ((j + 1 : Nat) : Int)) (by omega) (by omega)) rfl ?_
          refine s_assign rfl rfl rfl ?_
          refine s_end (hK _ ?_); clear hK K
          exact ⟨j + 1, by omega, hg'', Wk.mk' ⟨rfl, rfl, rfl, rfl, rfl, rfl, rfl, trivial⟩ ⟨rfl, rfl, rfl, trivial⟩⟩
        · rw [decide_eq_false_iff_not] at hd
          rw [if_neg hd, Int.sub_zero] at hst
          refine AWP_skip ?_
          show AWP _ _ _ _ _ _
          rw [← hst]
          refine AWP_reg tok fun K hK => ?_
          refine s_move rfl rfl rfl ?_
          refine s_bin rfl (e_add (c := ((j + 1 : Nat) : Int)) (by omega) (by omega)) rfl ?_
          refine s_assign rfl rfl rfl ?_
          refine s_end (hK _ ?_); clear hK K
          exact ⟨j + 1, by omega, hg'', Wk.mk' ⟨rfl, rfl, rfl, rfl, rfl, rfl, rfl, trivial⟩ ⟨rfl, rfl, rfl, trivial⟩⟩
      have hj' : j = g.links.length := by simp at hg''; omega
      subst hj'
      have hb := hM g.links.length i k
      rw [eall] at hb ⊢
      have co := r2OfI_c (lapM g.links i k) ⟨by omega, by omega⟩
      refine AWP_exit ?_
      show AWP _ _ _ _ _ _
      rcases k with _ | k
      · refine AWP_reg tok fun K hK => ?_
        refine s_move rfl rfl rfl ?_
        refine s_move rfl rfl rfl ?_
        refine s_call rfl rfl (co) rfl rfl rfl rfl ?_
        refine s_buildSlice rfl rfl (by rcases i with _|i <;> rfl) rfl ?_
        refine s_append rfl (ap_nil rfl rfl rfl rfl rfl (by decide) (Nat.le_of_ble_eq_true rfl) rfl (by simp) rfl (by simp) (by simp)) (by rcases i with _|i <;> rfl) rfl ?_
        refine s_assign rfl rfl rfl ?_
        refine s_end (hK _ ?_); clear hK K
        show AWP _ _ _ _ _ _
        refine AWP_reg tok fun K hK => ?_
        refine s_move rfl rfl rfl ?_
        refine s_bin rfl (e_add (c := ((0 + 1 : Nat) : Int)) (by omega) (by omega)) rfl ?_
        refine s_assign rfl rfl rfl ?_
        refine s_end (hK _ ?_); clear hK K
        refine ⟨0 + 1, by omega, hg', Wk.rn [1, 4, 5, 7, 6] [1, 200, 94] 94 201 rfl rfl (by rcases i with _ | i <;> rfl) ⟨rfl, (by rcases i with _ | i <;> rfl), rfl, ?_, rfl, trivial⟩ ⟨rfl, (by rcases i with _ | i <;> rfl), ?_, trivial⟩⟩
        · first
            | rfl
            | (show SV.val (.one (.own 201 4 0 _)) = _
               rw [List.length_append, z2]; rfl)
        · first
            | (rw [← n2, List.length_eq_zero_iff.1 z2]; rfl)
            | (rw [← n2]; rfl)
      · refine AWP_reg tok fun K hK => ?_
        refine s_move rfl rfl rfl ?_
        refine s_move rfl rfl rfl ?_
        refine s_call rfl rfl (co) rfl rfl rfl rfl ?_
        refine s_buildSlice rfl rfl (by rcases i with _|i <;> rfl) rfl ?_
        refine s_append rfl (ap_o rfl rfl rfl rfl rfl rfl (by decide) (Nat.le_of_ble_eq_true rfl) rfl (by simp) rfl rfl z2.symm (by simp <;> omega)) (by rcases i with _|i <;> rfl) rfl ?_
        refine s_assign rfl rfl rfl ?_
        refine s_end (hK _ ?_); clear hK K
        show AWP _ _ _ _ _ _
        refine AWP_reg tok fun K hK => ?_
        refine s_move rfl rfl rfl ?_
        refine s_bin rfl (e_add (c := ((k + 1 + 1 : Nat) : Int)) (by omega) (by omega)) rfl ?_
        refine s_assign rfl rfl rfl ?_
        refine s_end (hK _ ?_); clear hK K
        refine ⟨k + 1 + 1, by omega, hg', Wk.rn [1, 4, 5, 7, 6] [1, 200, 94] 94 201 rfl rfl (by rcases i with _ | i <;> rfl) ⟨rfl, (by rcases i with _ | i <;> rfl), rfl, ?_, rfl, trivial⟩ ⟨rfl, (by rcases i with _ | i <;> rfl), ?_, trivial⟩⟩
        · first
            | rfl
            | (show SV.val (.one (.own 201 4 0 _)) = _
               rw [List.length_append, z2]; rfl)
        · first
            | (rw [← n2, List.length_eq_zero_iff.1 z2]; rfl)
            | (rw [← n2]; rfl)
    have hk' : k = m + 1 := by simp at hg'; omega
    subst hk'
    refine AWP_exit ?_
    show AWP _ _ _ _ _ _
    rcases i with _ | i
    · refine a_fz [1, 4, 5, 6] [1, 200, 201] 201 [(1, .ptr 1 0), (4, ownN 200 1 (0)), (5, dI (0 : Nat)), (6, V1 (dRs (lapR (m + 1) (lapM g.links) (0))))] [(1, some (.box g.cs)), (200, arrN 1 es (0))] rfl ⟨rfl, rfl, rfl, ?_, trivial⟩ ⟨rfl, rfl, trivial⟩ ?_
      · exact frz_own rfl (by simp [lapR])
      refine AWP_reg tok fun K hK => ?_
      refine s_move rfl rfl rfl ?_
      refine s_move rfl rfl rfl ?_
      refine s_buildSlice rfl rfl rfl rfl ?_
      refine s_append rfl (ap_nil rfl rfl rfl rfl rfl (by decide) (Nat.le_of_ble_eq_true rfl) rfl (by simp) rfl (by simp) (by simp)) rfl rfl ?_
      refine s_assign rfl rfl rfl ?_
      refine s_end (hK _ ?_); clear hK K
      show AWP _ _ _ _ _ _
      refine AWP_reg tok fun K hK => ?_
      refine s_move rfl rfl rfl ?_
      refine s_bin rfl (e_add (c := ((0 + 1 : Nat) : Int)) (by omega) (by omega)) rfl ?_
      refine s_assign rfl rfl rfl ?_
      refine s_end (hK _ ?_); clear hK K
      refine ⟨0 + 1, by omega, hg, Wk.rn [1, 5, 4] [1, 98] 98 200 rfl rfl rfl ⟨rfl, ?_, rfl, trivial⟩ ⟨rfl, ?_, trivial⟩⟩
      · first
          | rfl
          | (show SV.val (.one (.own 200 1 0 _)) = _
             rw [List.length_append, z1]; rfl)
      · first
          | (rw [← n1, List.length_eq_zero_iff.1 z1]; rfl)
          | (rw [← n1]; rfl)
    · refine a_fz [1, 4, 5, 6] [1, 200, 201] 201 [(1, .ptr 1 0), (4, ownN 200 1 (i + 1)), (5, dI (i + 1 : Nat)), (6, V1 (dRs (lapR (m + 1) (lapM g.links) (i + 1))))] [(1, some (.box g.cs)), (200, arrN 1 es (i + 1))] rfl ⟨rfl, rfl, rfl, ?_, trivial⟩ ⟨rfl, rfl, trivial⟩ ?_
      · exact frz_own rfl (by simp [lapR])
      refine AWP_reg tok fun K hK => ?_
      refine s_move rfl rfl rfl ?_
      refine s_move rfl rfl rfl ?_
      refine s_buildSlice rfl rfl rfl rfl ?_
      refine s_append rfl (ap_o rfl rfl rfl rfl rfl rfl (by decide) (Nat.le_of_ble_eq_true rfl) rfl (by simp) rfl rfl z1.symm (by simp <;> omega)) rfl rfl ?_
      refine s_assign rfl rfl rfl ?_
      refine s_end (hK _ ?_); clear hK K
      show AWP _ _ _ _ _ _
      refine AWP_reg tok fun K hK => ?_
      refine s_move rfl rfl rfl ?_
      refine s_bin rfl (e_add (c := ((i + 1 + 1 : Nat) : Int)) (by omega) (by omega)) rfl ?_
      refine s_assign rfl rfl rfl ?_
      refine s_end (hK _ ?_); clear hK K
      refine ⟨i + 1 + 1, by omega, hg, Wk.rn [1, 5, 4] [1, 98] 98 200 rfl rfl rfl ⟨rfl, ?_, rfl, trivial⟩ ⟨rfl, ?_, trivial⟩⟩
      · first
          | rfl
          | (show SV.val (.one (.own 200 1 0 _)) = _
             rw [List.length_append, z1]; rfl)
      · first
          | (rw [← n1, List.length_eq_zero_iff.1 z1]; rfl)
          | (rw [← n1]; rfl)
  have hi' : i = m + 1 := by simp at hg; omega
  subst hi'
  refine AWP_exit ?_
  show AWP _ _ _ _ _ _
  refine a_fz [4] [200] 200 [(4, V1 (dMs (lapQ (m + 1) (lapM g.links))))] [] rfl ⟨?_, trivial⟩ trivial ?_
  · exact frz_own rfl (by simp [lapQ])
  refine AWP_reg_seq tok fun K hK => ?_
  refine s_move rfl rfl rfl ?_
  refine s_assign rfl rfl rfl ?_
  refine s_assign rfl rfl rfl ?_
  refine s_end (hK _ ?_); clear hK K
  refine AWP_ret ?_
  repeat (with_reducible refine tq_ret ?_)
  exact post_ret (fin_mk (by rfl) (by rfl) (by rfl))

theorem e_neI {T : Tab} {t : TypeId} {a b : Int} (h : a = b) : effBin T .neq t (dI a) (dI b) = .set (dB false) := by
  subst h
  show Eff.set (dB (a != a)) = _
  rw [show (a != a) = false by simp]
theorem lapQ_len (n : Nat) (M : Nat → Nat → Int) : (lapQ n M).length = n := by simp [lapQ]
theorem lapR_len (n : Nat) (M : Nat → Nat → Int) (i : Nat) : (lapR n M i).length = n := by simp [lapR]
theorem lapQ_get {n : Nat} {M : Nat → Nat → Int} {i : Nat} (h : i < (lapQ n M).length) : (lapQ n M)[i] = lapR n M i := by simp [lapQ]
theorem lapR_get {n : Nat} {M : Nat → Nat → Int} {i k : Nat} (h : k < (lapR n M i).length) : (lapR n M i)[k] = qzW (M i k : Int) := by simp [lapR]
theorem lapV_form (g : GR) : ∃ (n : Nat) (M : Nat → Nat → Int), (lapV g).1 = lapQ n M ∧ n ≤ 16 ∧ (∀ i k, M i k = M k i) ∧ (∀ i, sumI (M i) n = 0) ∧ ∀ i k, -50331648 ≤ M i k ∧ M i k ≤ 50331648 := by
  cases hv : validB g with
  | false => exact ⟨0, fun _ _ => 0, by rw [lapV, if_neg (by rw [hv]; simp)]; rfl, by decide, fun _ _ => rfl, fun _ => rfl, fun _ _ => (⟨by decide, by decide⟩ : (-50331648 : Int) ≤ 0 ∧ (0 : Int) ≤ 50331648)⟩
  | true =>
    have gv := validB_iff.1 hv
    have hLV : ∀ l ∈ g.links, LV g.nodes.length l := fun l hl => linkB_iff.1 (gv.lk l hl)
    refine ⟨g.nodes.length, lapM g.links, by rw [lapV, if_pos hv], gv.n2, lapM_symm g.links hLV, lapM_sum g.links hLV, fun i k => ?_⟩
    have := lapM_take_le hLV gv.l g.links.length i k
    rwa [List.take_length] at this
theorem sumI_le {F : Nat → Int} {c : Int} (h : ∀ i, -c ≤ F i ∧ F i ≤ c) (k : Nat) : -(c * k) ≤ sumI F k ∧ sumI F k ≤ c * k := by
  induction k with
  | zero => simp [sumI]
  | succ k ih =>
    have := h k
    rw [sumI, show c * ((k + 1 : Nat) : Int) = c * k + c by rw [Int.natCast_add, Int.mul_add]; simp]
    omega

theorem lLaps_c (g : GR) (hg : ∀ r ∈ g.nodes, r.W) : Con Try.prog 8 [AG g.cs] { v := dB true } := by
  refine con_intro (fn := Try.f8) tok Try.func8 (by kernel_rfl) rfl ?_
  intro w0 X
  rw [entry_mkE _ _ [(0, AG g.cs)] rfl rfl]
  refine AWP_reg_seq tok fun K hK => ?_
  refine s_box rfl rfl rfl rfl rfl rfl ?_
  refine s_assign rfl rfl rfl ?_
  refine s_end (hK _ ?_); clear hK K
  refine AWP_seq ?_
  refine a_join (α := Bool) (fun c => mk 78 [(1, .ptr 1 0), (2, dB false), (16, dB c)] [(1, some (.box g.cs))] []) (fun c => c = !fewB g) ?_ ?_
  · refine AWP_regW fun K hK => ?_
    refine w_step tok rfl ?_
    refine s_call rfl rfl (awake_c) rfl rfl rfl rfl ?_
    refine s_end ?_
    refine w_step tok rfl ?_
    refine s_un rfl rfl rfl ?_
    refine s_end ?_
    refine w_step tok rfl ?_
    refine s_move rfl rfl rfl ?_
    refine s_end ?_
    refine w_split (fun h0 => ?_) (fun h0 => ?_)
    · refine w_skip rfl rfl ?_
      refine w_skip rfl rfl ?_
      refine w_skip rfl rfl ?_
      refine w_step tok rfl ?_
      refine s_pick rfl rfl rfl ?_
      refine s_end ?_
      refine w_end rfl (hK _ ?_); clear hK K
      first|(exact absurd h0 (by decide))|exact ⟨_, rfl, Wk.mk' ⟨rfl, rfl, rfl, trivial⟩ ⟨rfl, trivial⟩⟩
    · refine w_step tok rfl ?_
      refine s_load rfl rfl rfl ?_
      refine s_end ?_
      refine w_step tok rfl ?_
      refine s_call rfl rfl (few_c g) rfl rfl rfl rfl ?_
      refine s_end ?_
      refine w_step tok rfl ?_
      refine s_un rfl rfl rfl ?_
      refine s_end ?_
      refine w_step tok rfl ?_
      refine s_pick rfl rfl rfl ?_
      refine s_end ?_
      refine w_end rfl (hK _ ?_); clear hK K
      first|(exact absurd h0 (by decide))|exact ⟨_, rfl, Wk.mk' ⟨rfl, rfl, rfl, trivial⟩ ⟨rfl, trivial⟩⟩
  rintro c rfl
  refine a_cond rfl (fun hc => ?_) (fun hc => ?_)
  · refine AWP_reg_seq tok fun K hK => ?_
    refine s_call rfl rfl (awake_c) rfl rfl rfl rfl ?_
    refine s_assign rfl rfl rfl ?_
    refine s_end (hK _ ?_); clear hK K
    refine AWP_ret ?_
    repeat (with_reducible refine tq_ret ?_)
    exact post_ret (fin_mk (by rfl) (by rfl) (by rfl))
  rw [Bool.not_eq_false'] at hc
  obtain ⟨ok, l1, l2⟩ := fewB_ok hc hg
  have c1 := gLap_c g
  have c2 := r28Lap_c g (by omega)
  obtain ⟨n, M, ha, hn, hsy, hsum, hb⟩ := lapV_form g
  obtain ⟨e, he⟩ : ∃ e, (lapV g).2 = e := ⟨_, rfl⟩
  rw [ha, he] at c1 c2
  have hI : ∀ i k, I64 (M i k) := fun i k => by have := hb i k; exact ⟨by omega, by omega⟩
  have hrs : ∀ r ∈ lapQ n M, r.length ≤ 9223372036854775806 ∧ ∀ x ∈ r, RS x := by
    intro r hr
    obtain ⟨i, _, rfl⟩ := List.mem_map.1 hr
    refine ⟨by rw [lapR_len]; omega, fun x hx => ?_⟩
    obtain ⟨k, _, rfl⟩ := List.mem_map.1 hx
    exact RS_int _ (hI i k)
  have cm := matrix_same (lapQ n M) (by rw [lapQ_len]; omega) hrs
  have cz := r2OfI_c 0 ⟨by decide, by decide⟩
  refine AWP_skip ?_
  show AWP _ _ _ _ _ _
  refine AWP_reg_seq tok fun K hK => ?_
  refine s_load rfl rfl rfl ?_
  refine s_call rfl rfl (c1) rfl rfl rfl rfl ?_
  refine s_move rfl rfl rfl ?_
  refine s_extract rfl rfl rfl ?_
  refine s_extract rfl rfl rfl ?_
  refine s_assign rfl rfl rfl ?_
  refine s_assign rfl rfl rfl ?_
  refine s_end (hK _ ?_); clear hK K
  refine AWP_reg_seq tok fun K hK => ?_
  refine s_load rfl rfl rfl ?_
  refine s_call rfl rfl (c2) rfl rfl rfl rfl ?_
  refine s_move rfl rfl rfl ?_
  refine s_extract rfl rfl rfl ?_
  refine s_extract rfl rfl rfl ?_
  refine s_assign rfl rfl rfl ?_
  refine s_assign rfl rfl rfl ?_
  refine s_end (hK _ ?_); clear hK K
  refine AWP_seq ?_
  refine AWP_reg_seq tok fun K hK => ?_
  refine s_move rfl rfl rfl ?_
  refine s_move rfl rfl rfl ?_
  refine s_call rfl rfl (cm) rfl rfl rfl rfl ?_
  refine s_un rfl rfl rfl ?_
  refine s_move rfl rfl rfl ?_
  refine s_move rfl rfl rfl ?_
  refine s_move rfl rfl rfl ?_
  refine s_bin rfl (e_neI rfl) rfl ?_
  refine s_pick rfl rfl rfl ?_
  refine s_end (hK _ ?_); clear hK K
  refine a_cond rfl (fun hd => ?_) (fun hd => ?_)
  · cases hd
  refine AWP_skip ?_
  show AWP _ _ _ _ _ _
  refine AWP_seq ?_
  refine AWP_reg_seq tok fun K hK => ?_
  refine s_assign rfl rfl rfl ?_
  refine s_end (hK _ ?_); clear hK K
  refine AWP_block (a_loop (α := Nat) (fun i => mk 78 [(2, dB false), (3, V1 (dMs (lapQ n M))), (7, dI i)] [] []) (fun i => i ≤ n) (fun i => n - i) 0 ?_ (Nat.zero_le _) ?_)
  · exact Wk.mk' ⟨rfl, rfl, rfl, trivial⟩ trivial
  intro i hi
  refine AWP_seq ?_
  refine AWP_reg_seq tok fun K hK => ?_
  refine s_move rfl rfl rfl ?_
  refine s_move rfl rfl rfl ?_
  refine s_blt rfl (len_m cM rfl rfl) rfl ?_
  refine s_bin rfl rfl rfl ?_
  refine s_end (hK _ ?_); clear hK K
  rw [lapQ_len]
  refine a_cond rfl (fun hx => ?_) (fun hx => ?_)
  · have hx : i < n := by simp at hx; omega
    have hiQ : i < (lapQ n M).length := by rw [lapQ_len]; exact hx
    refine AWP_skip ?_
    show AWP _ _ _ _ _ _
    refine AWP_seq ?_
    refine AWP_block ?_
    refine AWP_reg_seq tok fun K hK => ?_
    refine s_call rfl rfl (cz) rfl rfl rfl rfl ?_
    refine s_alloc rfl rfl rfl rfl rfl rfl ?_
    refine s_store rfl rfl rfl rfl rfl ?_
    refine s_end (hK _ ?_); clear hK K
    refine AWP_seq ?_
    refine AWP_reg_seq tok fun K hK => ?_
    refine s_assign rfl rfl rfl ?_
    refine s_end (hK _ ?_); clear hK K
    refine AWP_block (a_loop (α := Nat) (fun k => mk 78 [(2, dB false), (3, V1 (dMs (lapQ n M))), (7, dI i), (8, .ptr 8 0), (9, dI k)] [(8, some (.box (qzW (sumI (M i) k : Int)).cs))] []) (fun k => k ≤ n) (fun k => n - k) 0 ?_ (Nat.zero_le _) ?_)
    · exact Wk.mk' ⟨rfl, rfl, rfl, rfl, rfl, trivial⟩ ⟨rfl, trivial⟩
    intro k hk
    refine AWP_seq ?_
    refine AWP_reg_seq tok fun K hK => ?_
    refine s_move rfl rfl rfl ?_
    refine s_move rfl rfl rfl ?_
    refine s_blt rfl (len_m cM rfl rfl) rfl ?_
    refine s_bin rfl rfl rfl ?_
    refine s_end (hK _ ?_); clear hK K
    rw [lapQ_len]
    refine a_cond rfl (fun hy => ?_) (fun hy => ?_)
    · have hy : k < n := by simp at hy; omega
      have hkQ : k < (lapQ n M).length := by rw [lapQ_len]; exact hy
      have hkR : k < (lapR n M i).length := by rw [lapR_len]; exact hy
      have hiR : i < (lapR n M k).length := by rw [lapR_len]; exact hx
      have s1 := sumI_le (fun j => hb i j) k
      have s2 := sumI_le (fun j => hb i j) (k + 1)
      have q1 : ql ((sumI (M i) k : Int) : Rat) ≤ 2 := ql_i64 ⟨by omega, by omega⟩
      have d := r2Add_r (qzW (sumI (M i) k : Int)) (qzW (M i k : Int)) ((sumI (M i) (k + 1) : Int) : Rat) ((qzW_ok q1).mono rfl) ((qzW_ok (ql_i64 (hI i k))).mono rfl) (by rw [qzW_v, qzW_v, sumI, Rat.intCast_add])
      refine AWP_skip ?_
      show AWP _ _ _ _ _ _
      refine AWP_seq ?_
      refine AWP_block ?_
      refine a_draw tok mixed (A := [[], [], [], [], [1, 2], [], [1, 2, 3], [1, 2, 3, 4, 5], [1, 2, 3, 4, 5, 6], []]) (an := [{}, {}, {}, {}, {}, {}, {}, {}, {}, {}]) rfl (by kernel_rfl) rfl fun K hK => ?_
      refine s_load rfl rfl rfl ?_
      refine s_move rfl rfl rfl ?_
      refine s_move rfl rfl rfl ?_
      refine s_indexAddr rfl (x_m cM rfl rfl rfl rfl hiQ rfl) rfl ?_
      refine s_load rfl (by rw [lapQ_get hiQ]; rfl) rfl ?_
      refine s_move rfl rfl rfl ?_
      refine s_indexAddr rfl (x_m (l := lapR n M i) RW.dc rfl rfl rfl rfl hkR rfl) rfl ?_
      refine s_load rfl (by rw [lapR_get hkR]; rfl) rfl ?_
      refine s_call rfl rfl (d) rfl rfl rfl rfl ?_
      refine s_store rfl rfl rfl rfl rfl ?_
      refine s_end (hK _ ?_); clear hK K
      refine a_draw tok mixed (A := [[], [], [], [0, 1], [], [0, 1, 2], [0, 1, 2, 3, 4], [], [], [], [7, 8], [], [7, 8, 9], [7, 8, 9, 10, 11], [0, 1, 2, 3, 4, 5, 7, 8, 9, 10, 11, 12], [0, 1, 2, 3, 4, 5, 6, 7, 8, 9, 10, 11, 12, 13]]) (an := [{}, {}, {}, {}, {}, {}, {}, {}, {}, {}, {}, {}, {}, {}, {}, {}]) rfl (by kernel_rfl) rfl fun K hK => ?_
      refine s_move rfl rfl rfl ?_
      refine s_move rfl rfl rfl ?_
      refine s_indexAddr rfl (x_m cM rfl rfl rfl rfl hiQ rfl) rfl ?_
      refine s_load rfl (by rw [lapQ_get hiQ]; rfl) rfl ?_
      refine s_move rfl rfl rfl ?_
      refine s_indexAddr rfl (x_m (l := lapR n M i) RW.dc rfl rfl rfl rfl hkR rfl) rfl ?_
      refine s_load rfl (by rw [lapR_get hkR]; rfl) rfl ?_
      refine s_move rfl rfl rfl ?_
      refine s_move rfl rfl rfl ?_
      refine s_indexAddr rfl (x_m cM rfl rfl rfl rfl hkQ rfl) rfl ?_
      refine s_load rfl (by rw [lapQ_get hkQ]; rfl) rfl ?_
      refine s_move rfl rfl rfl ?_
      refine s_indexAddr rfl (x_m (l := lapR n M k) RW.dc rfl rfl rfl rfl hiR rfl) rfl ?_
      refine s_load rfl (by rw [lapR_get hiR, hsy k i]; rfl) rfl ?_
      refine s_call rfl rfl (rat_same _ (RS_int _ (hI i k))) rfl rfl rfl rfl ?_
      refine s_un rfl rfl rfl ?_
      refine s_end (hK _ ?_); clear hK K
      refine a_cond rfl (fun hz => ?_) (fun hz => ?_)
      · cases hz
      refine AWP_skip ?_
      show AWP _ _ _ _ _ _
      refine AWP_reg tok fun K hK => ?_
      refine s_move rfl rfl rfl ?_
      refine s_bin rfl (e_add (c := ((k + 1 : Nat) : Int)) (by omega) (by omega)) rfl ?_
      refine s_assign rfl rfl rfl ?_
      refine s_end (hK _ ?_); clear hK K
      exact ⟨k + 1, by omega, hy, Wk.mk' ⟨rfl, rfl, rfl, rfl, rfl, trivial⟩ ⟨rfl, trivial⟩⟩
    · have hy : k = n := by simp at hy; omega
      subst hy
      refine AWP_exit ?_
      show AWP _ _ _ _ _ _
      rw [hsum i]
      refine AWP_reg_seq tok fun K hK => ?_
      refine s_load rfl rfl rfl ?_
      refine s_call rfl rfl (r2SignZ_c 0 (by decide)) rfl rfl rfl rfl ?_
      refine s_bin rfl (e_neI rfl) rfl ?_
      refine s_end (hK _ ?_); clear hK K
      refine a_cond rfl (fun hz => ?_) (fun hz => ?_)
      · cases hz
      refine AWP_skip ?_
      show AWP _ _ _ _ _ _
      refine AWP_reg tok fun K hK => ?_
      refine s_move rfl rfl rfl ?_
      refine s_bin rfl (e_add (c := ((i + 1 : Nat) : Int)) (by omega) (by omega)) rfl ?_
      refine s_assign rfl rfl rfl ?_
      refine s_end (hK _ ?_); clear hK K
      exact ⟨i + 1, by omega, hx, Wk.mk' ⟨rfl, rfl, rfl, trivial⟩ trivial⟩
  · refine AWP_exit ?_
    show AWP _ _ _ _ _ _
    refine AWP_reg_seq tok fun K hK => ?_
    refine s_assign rfl rfl rfl ?_
    refine s_end (hK _ ?_); clear hK K
    refine AWP_ret ?_
    repeat (with_reducible refine tq_ret ?_)
    exact post_ret (fin_mk (by rfl) (by rfl) (by rfl))
end Go.Proofs.Ytcafppnjemgkiaa

/- For every input GraphLaplacians answers true, and its arguments read behind the call as before. No condition. -/
namespace Go.Proofs.Ytcafppnjemgkiaa
open Go.ChangeShapes Go.WideShapes Go.ChangeAt Go.RowKit
theorem graphLaplacians_own : ownKnob Try.prog.godebug = none := by kernel_rfl
theorem graphLaplacians_laid : laidOutB Try.prog = true := by kernel_rfl
set_option maxRecDepth 100000 in
theorem graphLaplacians_lifted (os : Os) (started : os.Started) (H : Type) (enc : TypeId × Value → H) :
    ReturnsInHanded {} Try.checked os 8 .any (Rows.graphLaplaciansSpec.pre6 enc Try.prog Try.f8 Rows.graphLaplaciansRow.domain false) (Rows.graphLaplaciansSpec.post enc Try.prog Try.f8 false true false false) := by
  refine returnsInHanded_of_change (C := Try.checked) graphLaplacians_own started (by kernel_rfl) Try.func8
    (ChangeSpec.witness6 (enc := enc) (C := Try.checked) false ⟨#[], #[.agg #[.slice none 0 0, .slice none 0 0]], []⟩ 8 (by kernel_rfl) (by kernel_rfl) (by kernel_rfl) (by kernel_rfl)) ?_
  intro W base args ds gs before hval0 hW _ _
  have hval : ∀ (j : Nat) t v, Try.f8.params[j]? = some t → args[j]? = some v → Value.okWide Try.prog W .any base t v := hval0
  have hW' := hW
  obtain ⟨p, q, hA0, _⟩ := hW'
  have hA : DataW.TrodAll enc Try.prog W 0 (fun _ => true) true Try.f8.params.toList args.toList ds p := hA0
  rw [Try.params8] at hA hval
  obtain ⟨v0, vs0, d0, ds0, p0, q0, hargs, rfl, _, t0, r0⟩ := trodAll_cons hA
  obtain ⟨rfl, rfl, _⟩ := trodAll_nil r0
  obtain rfl : args = #[v0] := by cases args; simp_all
  obtain ⟨x0, h0, s0⟩ := arg_G (hval 0 28 v0 rfl rfl) t0
  refine law_run (tb := 4) graphLaplacians_laid (by kernel_rfl) (by kernel_rfl) (by kernel_rfl) rfl ⟨rfl, rfl, rfl⟩ hW ⟨[AG x0.cs], lLaps_c x0 h0.1, rfl, fun i x hx => ?_⟩
  match i, hx with
  | 0, hx => exact ⟨v0, rfl, by cases hx; exact s0⟩
  | i + 1, hx => cases hx

theorem graphLaplacians_holds : Rows.GraphLaplaciansSaid :=
  OpenClaim.holds_of_wide 8 Try.f8 rfl rfl rfl rfl rfl rfl rfl ⟨rfl, rfl, rfl, rfl, rfl⟩ rfl rfl rfl rfl rfl (by kernel_rfl) Try.func8 (by kernel_rfl)
    (of_decide_eq_true (by kernel_rfl)) (by unfold Func.isWrapper; first | (rw [if_pos (by decide +kernel)]; kernel_rfl) | (rw [if_neg (by decide +kernel)]; exact ⟨rfl, rfl⟩))
    (fun os started H enc _ => graphLaplacians_lifted os started H enc)
#print axioms graphLaplacians_holds
end Go.Proofs.Ytcafppnjemgkiaa
