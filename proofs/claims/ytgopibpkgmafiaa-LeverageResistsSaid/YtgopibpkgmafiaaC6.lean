/- Part of a proof that a Go function answers true for every input. No condition. -/
import Derived.Test.YtgopibpkgmafiaaC5
set_option linter.unusedVariables false
set_option linter.unusedSimpArgs false
set_option linter.unusedSectionVars false
/- ref32: Resistance, Few, Without, Components. No condition. -/
namespace Go.Proofs.Ytgopibpkgmafiaa
attribute [local irreducible] lexA

theorem prG_nodes (g : GR) (i : Nat) : (prG g i).nodes.length = kN g.nodes.length (prS g i) := prV_length g i g.nodes.length
theorem prG_GV {g : GR} (gv : GV g) {i : Nat} (hi : i < g.nodes.length) : GV (prG g i) := by
  have hki : 0 < kN g.nodes.length (prS g i) := Nat.lt_of_le_of_lt (Nat.zero_le _) (vL_at hi (show prS g i i = true from decide_eq_true rfl)).1
  have hle : kN g.nodes.length (prS g i) ≤ g.nodes.length := kN_le _ _
  have n2 := gv.n2
  have e := prG_nodes g i
  refine ⟨by omega, by omega, ?_, fun l hl => ?_⟩
  · show (prE g i g.links).length ≤ 48
    unfold prE; rw [List.length_map]
    exact Nat.le_trans (List.length_filter_le _ _) gv.l
  · have hl : l ∈ prE g i g.links := hl
    obtain ⟨x, hx, rfl⟩ := List.mem_map.1 hl
    have hx2 := (List.mem_filter.1 hx).2
    have hx := (List.mem_filter.1 hx).1
    have lv := gLV gv x hx
    have h1 := lv.f
    have h2 := lv.t
    have hlk : lab g x.f.toNat = lab g x.t.toNat := lab_link gv (List.mem_map.2 ⟨x, hx, rfl⟩)
    have hx3 : prS g i x.t.toNat = true := by
      have hx2 : prS g i x.f.toNat = true := hx2
      show decide (lab g x.t.toNat = lab g i) = true
      rw [← hlk]; exact hx2
    have a1 := vL_at (n := g.nodes.length) (show x.f.toNat < g.nodes.length by omega) hx2
    have a2 := vL_at (n := g.nodes.length) (show x.t.toNat < g.nodes.length by omega) hx3
    refine linkB_iff.2 ⟨?_, ?_, ?_, lv.x, lv.y, lv.w⟩
    · show 0 ≤ ((prN g i x.f.toNat : Nat) : Int) ∧ ((prN g i x.f.toNat : Nat) : Int) < _
      rw [e]; have := a1.1; unfold prN; omega
    · show 0 ≤ ((prN g i x.t.toNat : Nat) : Int) ∧ ((prN g i x.t.toNat : Nat) : Int) < _
      rw [e]; have := a2.1; unfold prN; omega
    · show ((prN g i x.f.toNat : Nat) : Int) ≠ ((prN g i x.t.toNat : Nat) : Int)
      intro h
      have h : prN g i x.f.toNat = prN g i x.t.toNat := by omega
      have h3 := a1.2
      have h4 := a2.2
      unfold prN at h
      rw [h] at h3
      have h5 : x.f.toNat = x.t.toNat := h3.symm.trans h4
      have := lv.ne
      omega
/-- The resistance as ref32 says it. -/
def refQ (g : GR) (i j : Nat) : Rat := if i = j then 0 else Rat.divInt (trZ (mg id (prN g i i) (prN g i j)) (kN g.nodes.length (prS g i) - 2) (prE g i g.links)) (trZ id (kN g.nodes.length (prS g i) - 1) (prE g i g.links))
def refR (g : GR) (i j : Int) : RW × Int :=
  if validB g = true then (if 0 ≤ i ∧ i < (g.nodes.length : Int) ∧ 0 ≤ j ∧ j < (g.nodes.length : Int) then (if lab g i.toNat = lab g j.toNat then (qzW (refQ g i.toNat j.toNat), 0) else (rw00, 10)) else (rw00, 2)) else (rw00, 1)
set_option maxHeartbeats 1000000 in
theorem rResist_c (g : GR) (i j : Int) (hm : g.links.length ≤ 9223372036854775806) : Con Try.prog 12 [AG g.cs, dI i, dI j] { v := .tup [.agg (refR g i j).1.cs, .one (.d (lI (refR g i j).2))] } := by
  have cz := r2OfI_c 0 ⟨by decide, by decide⟩
  refine con_intro (fn := Try.f12) tok Try.func12 (by kernel_rfl) rfl ?_
  intro w0 X
  rw [entry_mkE _ _ [(0, AG g.cs), (1, dI i), (2, dI j)] rfl rfl];refine AWP_reg_seq tok fun K hK => ?_;refine s_box rfl rfl rfl rfl rfl rfl ?_;refine s_alloc rfl rfl rfl rfl rfl rfl ?_;refine s_assign rfl rfl rfl ?_;refine s_end (hK _ ?_); clear hK K;refine AWP_seq ?_;refine AWP_reg_seq tok fun K hK => ?_;refine s_load rfl rfl rfl ?_;refine s_call rfl rfl (r28Valid_c g hm) rfl rfl rfl rfl ?_;refine s_un rfl rfl rfl ?_;refine s_end (hK _ ?_); clear hK K;refine a_cond rfl (fun hc => ?_) (fun hc => ?_)
  · rw [Bool.not_eq_true'] at hc
    have e : refR g i j = (rw00, 1) := by rw [refR, if_neg (by rw [hc]; simp)]
    rw [e];refine AWP_reg_seq tok fun K hK => ?_;refine s_build rfl rfl rfl ?_;refine s_store rfl rfl rfl rfl rfl ?_;refine s_assign rfl rfl rfl ?_;refine s_end (hK _ ?_); clear hK K;refine AWP_ret ?_
    repeat (with_reducible refine tq_ret ?_)
    exact post_ret (fin_mk (by rfl) (by rfl) (by rfl))
  rw [Bool.not_eq_false'] at hc
  have gv := validB_iff.1 hc
  rw [refR, if_pos hc];refine AWP_skip ?_;show AWP _ _ _ _ _ _;refine AWP_seq ?_;refine a_join (α := Bool) (fun c => mk 89 [(1, dI i), (2, dI j), (3, .ptr 3 0), (6, .ptr 6 0), (39, dB c)] [(3, some (.box g.cs)), (6, some box0)] []) (fun c => c = !decide (0 ≤ i ∧ i < (g.nodes.length : Int) ∧ 0 ≤ j ∧ j < (g.nodes.length : Int))) ?_ ?_
  · refine AWP_regW fun K hK => ?_;refine w_step tok rfl ?_;refine s_move rfl rfl rfl ?_;refine s_end ?_;refine w_step tok rfl ?_;refine s_bin rfl rfl rfl ?_;refine s_end ?_;refine w_step tok rfl ?_;refine s_move rfl rfl rfl ?_;refine s_end ?_;refine w_split (fun h0 => ?_) (fun h0 => ?_)
    · refine w_skip rfl rfl ?_;refine w_skip rfl rfl ?_;refine w_step tok rfl ?_;refine s_pick rfl rfl rfl ?_;refine s_end ?_;refine w_step tok rfl ?_;refine s_move rfl rfl rfl ?_;refine s_end ?_;refine w_skip rfl rfl ?_;refine w_skip rfl rfl ?_;refine w_skip rfl rfl ?_;refine w_skip rfl rfl ?_;refine w_skip rfl rfl ?_;refine w_step tok rfl ?_;refine s_pick rfl rfl rfl ?_;refine s_end ?_;refine w_step tok rfl ?_;refine s_move rfl rfl rfl ?_;refine s_end ?_;refine w_skip rfl rfl ?_;refine w_skip rfl rfl ?_;refine w_skip rfl rfl ?_;refine w_skip rfl rfl ?_;refine w_skip rfl rfl ?_;refine w_step tok rfl ?_;refine s_pick rfl rfl rfl ?_;refine s_end ?_;refine w_end rfl (hK _ ?_); clear hK K;exact ⟨_, (by simp only [decide_eq_true_eq, decide_eq_false_iff_not, Int.not_lt, ge_iff_le, Int.not_le] at h0; rw [Bool.eq_iff_iff]; simp only [Bool.not_eq_true', decide_eq_false_iff_not, decide_eq_true_eq, true_iff, ge_iff_le]; omega), Wk.mk' ⟨rfl, rfl, rfl, rfl, rfl, trivial⟩ ⟨rfl, rfl, trivial⟩⟩
    · refine w_step tok rfl ?_;refine s_move rfl rfl rfl ?_;refine s_end ?_;refine w_step tok rfl ?_;refine s_bin rfl rfl rfl ?_;refine s_end ?_;refine w_step tok rfl ?_;refine s_pick rfl rfl rfl ?_;refine s_end ?_;refine w_step tok rfl ?_;refine s_move rfl rfl rfl ?_;refine s_end ?_;refine w_split (fun h1 => ?_) (fun h1 => ?_)
      · refine w_skip rfl rfl ?_;refine w_skip rfl rfl ?_;refine w_skip rfl rfl ?_;refine w_skip rfl rfl ?_;refine w_skip rfl rfl ?_;refine w_step tok rfl ?_;refine s_pick rfl rfl rfl ?_;refine s_end ?_;refine w_step tok rfl ?_;refine s_move rfl rfl rfl ?_;refine s_end ?_;refine w_skip rfl rfl ?_;refine w_skip rfl rfl ?_;refine w_skip rfl rfl ?_;refine w_skip rfl rfl ?_;refine w_skip rfl rfl ?_;refine w_step tok rfl ?_;refine s_pick rfl rfl rfl ?_;refine s_end ?_;refine w_end rfl (hK _ ?_); clear hK K;exact ⟨_, (by simp only [decide_eq_true_eq, decide_eq_false_iff_not, Int.not_lt, ge_iff_le, Int.not_le] at h0 h1; rw [Bool.eq_iff_iff]; simp only [Bool.not_eq_true', decide_eq_false_iff_not, decide_eq_true_eq, true_iff, ge_iff_le]; omega), Wk.mk' ⟨rfl, rfl, rfl, rfl, rfl, trivial⟩ ⟨rfl, rfl, trivial⟩⟩
      · refine w_step tok rfl ?_;refine s_move rfl rfl rfl ?_;refine s_end ?_;refine w_step tok rfl ?_;refine s_fieldAddr rfl rfl rfl ?_;refine s_end ?_;refine w_step tok rfl ?_;refine s_load rfl rfl rfl ?_;refine s_end ?_;refine w_step tok rfl ?_;refine s_blt rfl (len_m RW.dc rfl rfl) rfl ?_;refine s_end ?_;refine w_step tok rfl ?_;refine s_bin rfl rfl rfl ?_;refine s_end ?_;refine w_step tok rfl ?_;refine s_pick rfl rfl rfl ?_;refine s_end ?_;refine w_step tok rfl ?_;refine s_move rfl rfl rfl ?_;refine s_end ?_;refine w_split (fun h2 => ?_) (fun h2 => ?_)
        · refine w_skip rfl rfl ?_;refine w_skip rfl rfl ?_;refine w_skip rfl rfl ?_;refine w_skip rfl rfl ?_;refine w_skip rfl rfl ?_;refine w_step tok rfl ?_;refine s_pick rfl rfl rfl ?_;refine s_end ?_;refine w_end rfl (hK _ ?_); clear hK K;exact ⟨_, (by simp only [decide_eq_true_eq, decide_eq_false_iff_not, Int.not_lt, ge_iff_le, Int.not_le] at h0 h1 h2; rw [Bool.eq_iff_iff]; simp only [Bool.not_eq_true', decide_eq_false_iff_not, decide_eq_true_eq, true_iff, ge_iff_le]; omega), Wk.mk' ⟨rfl, rfl, rfl, rfl, rfl, trivial⟩ ⟨rfl, rfl, trivial⟩⟩
        · refine w_step tok rfl ?_;refine s_move rfl rfl rfl ?_;refine s_end ?_;refine w_step tok rfl ?_;refine s_fieldAddr rfl rfl rfl ?_;refine s_end ?_;refine w_step tok rfl ?_;refine s_load rfl rfl rfl ?_;refine s_end ?_;refine w_step tok rfl ?_;refine s_blt rfl (len_m RW.dc rfl rfl) rfl ?_;refine s_end ?_;refine w_step tok rfl ?_;refine s_bin rfl rfl rfl ?_;refine s_end ?_;refine w_step tok rfl ?_;refine s_pick rfl rfl rfl ?_;refine s_end ?_;refine w_end rfl (hK _ ?_); clear hK K;exact ⟨_, (by simp only [decide_eq_true_eq, decide_eq_false_iff_not, Int.not_lt, ge_iff_le, Int.not_le] at h0 h1 h2; rw [Bool.eq_iff_iff]; simp only [Bool.not_eq_true', decide_eq_false_iff_not, decide_eq_true_eq, true_iff, ge_iff_le]; omega), Wk.mk' ⟨rfl, rfl, rfl, rfl, rfl, trivial⟩ ⟨rfl, rfl, trivial⟩⟩
  rintro c rfl
  refine a_cond rfl (fun hd => ?_) (fun hd => ?_)
  · rw [Bool.not_eq_true'] at hd;rw [if_neg (of_decide_eq_false hd)];refine AWP_reg_seq tok fun K hK => ?_;refine s_build rfl rfl rfl ?_;refine s_store rfl rfl rfl rfl rfl ?_;refine s_assign rfl rfl rfl ?_;refine s_end (hK _ ?_); clear hK K;refine AWP_ret ?_
    repeat (with_reducible refine tq_ret ?_)
    exact post_ret (fin_mk (by rfl) (by rfl) (by rfl))
  rw [Bool.not_eq_false'] at hd
  have hd := of_decide_eq_true hd
  rw [if_pos hd]
  obtain ⟨a, rfl⟩ : ∃ a : Nat, i = a := ⟨i.toNat, by omega⟩
  obtain ⟨b, rfl⟩ : ∃ b : Nat, j = b := ⟨j.toNat, by omega⟩
  simp only [Int.toNat_natCast]
  have ha : a < g.nodes.length := by omega
  have hb : b < g.nodes.length := by omega
  have cP := r28Parts_c g hm
  have e0 : (partsV g).2 = 0 := by rw [partsV, if_pos hc]
  rw [dNs_nm g gv, e0] at cP;refine AWP_skip ?_;show AWP _ _ _ _ _ _;refine AWP_reg_seq tok fun K hK => ?_;refine s_load rfl rfl rfl ?_;refine s_call rfl rfl (cP) rfl rfl rfl rfl ?_;refine s_move rfl rfl rfl ?_;refine s_extract rfl rfl rfl ?_;refine s_extract rfl rfl rfl ?_;refine s_assign rfl rfl rfl ?_;refine s_assign rfl rfl rfl ?_;refine s_end (hK _ ?_); clear hK K;refine AWP_seq ?_;refine a_draw tok mixed (A := [[], [], [], [0, 1], [], [], [], [4, 5], [0, 1, 2, 4, 5, 6]]) (an := [{}, {}, {}, {}, {}, {}, {}, {}, {}]) rfl (by kernel_rfl) rfl fun K hK => ?_;refine s_move rfl rfl rfl ?_;refine s_move rfl rfl rfl ?_;refine s_indexAddr rfl (x_n rfl rfl rfl rfl rfl ha) rfl ?_;refine s_load rfl rfl rfl ?_;refine s_move rfl rfl rfl ?_;refine s_move rfl rfl rfl ?_;refine s_indexAddr rfl (x_n rfl rfl rfl rfl rfl hb) rfl ?_;refine s_load rfl rfl rfl ?_;refine s_bin rfl (e_neN _ _) rfl ?_;refine s_end (hK _ ?_); clear hK K;refine a_cond rfl (fun he => ?_) (fun he => ?_)
  · have he := of_decide_eq_true he
    rw [if_neg he];refine AWP_reg_seq tok fun K hK => ?_;refine s_build rfl rfl rfl ?_;refine s_store rfl rfl rfl rfl rfl ?_;refine s_assign rfl rfl rfl ?_;refine s_end (hK _ ?_); clear hK K;refine AWP_ret ?_
    repeat (with_reducible refine tq_ret ?_)
    exact post_ret (fin_mk (by rfl) (by rfl) (by rfl))
  have he : lab g a = lab g b := Classical.byContradiction fun h => of_decide_eq_false he h
  rw [if_pos he];refine AWP_skip ?_;show AWP _ _ _ _ _ _;refine AWP_seq ?_;refine AWP_reg_seq tok fun K hK => ?_;refine s_move rfl rfl rfl ?_;refine s_move rfl rfl rfl ?_;refine s_bin rfl (e_eqN _ _) rfl ?_;refine s_end (hK _ ?_); clear hK K;refine a_cond rfl (fun hf => ?_) (fun hf => ?_)
  · have hf := of_decide_eq_true hf
    have e : refQ g a b = 0 := if_pos hf
    rw [e];refine AWP_reg_seq tok fun K hK => ?_;refine s_call rfl rfl (cz) rfl rfl rfl rfl ?_;refine s_store rfl rfl rfl rfl rfl ?_;refine s_assign rfl rfl rfl ?_;refine s_end (hK _ ?_); clear hK K;refine AWP_ret ?_
    repeat (with_reducible refine tq_ret ?_)
    exact post_ret (fin_mk (by rfl) (by rfl) (by rfl))
  have hf : a ≠ b := of_decide_eq_false hf
  have eQ : refQ g a b = Rat.divInt (trZ (mg id (prN g a a) (prN g a b)) (kN g.nodes.length (prS g a) - 2) (prE g a g.links)) (trZ id (kN g.nodes.length (prS g a) - 1) (prE g a g.links)) := if_neg hf
  rw [eQ]
  have hv := prG_GV gv ha
  have hn := prG_nodes g a
  have hL : (prG g a).links = prE g a g.links := rfl
  have cp := rPart_c g gv a b ha hb he.symm
  have hsa : prS g a a = true := decide_eq_true rfl
  have hsb : prS g a b = true := decide_eq_true he.symm
  have v1 := vL_at ha hsa
  have v2 := vL_at hb hsb
  have hk2 : 2 ≤ kN g.nodes.length (prS g a) := by
    have h1 := v1.1
    have h2 := v2.1
    have h3 : kN a (prS g a) ≠ kN b (prS g a) := fun h => by
      have h4 := v1.2
      have h5 := v2.2
      rw [h] at h4;exact hf (h4.symm.trans h5)
    omega
  have hk16 : kN g.nodes.length (prS g a) ≤ 16 := Nat.le_trans (kN_le _ _) gv.n2
  generalize prG g a = h at hv hn hL cp ⊢;rw [← hL];generalize prN g a a = p at cp ⊢;generalize prN g a b = q at cp ⊢;rw [← hn] at hk2 hk16 ⊢
  have cN := rNum_c h.nodes.length (by omega)
  have cM := rMerged_c h.nodes.length id p q (by omega)
  have hlk := hv.l
  have cA := rTreesAll_c h (by omega)
  have eA : treesV h = (trZ id (h.nodes.length - 1) h.links, 0) := by rw [treesV, if_pos (validB_iff.2 hv)]
  rw [eA] at cA
  have cT := rTreesG_c h hv 0 (h.nodes.length - 2) (mg id p q) (Nat.zero_le _) (by omega)
  rw [List.drop_zero] at cT
  have hw : ∀ l ∈ h.links, 0 ≤ l.w ∧ l.w ≤ 1048576 := fun l hl => by have := (gLV hv l hl).w; omega
  have z1 := trZ_zl (mg id p q) (h.nodes.length - 2) hw hlk
  have z2 := trZ_zl id (h.nodes.length - 1) hw hlk
  have cQ := r2NewZ_c (trZ (mg id p q) (h.nodes.length - 2) h.links) (trZ id (h.nodes.length - 1) h.links) _ (by omega) (by omega) rfl
  refine AWP_skip ?_;show AWP _ _ _ _ _ _;refine AWP_reg_seq tok fun K hK => ?_;refine s_load rfl rfl rfl ?_;refine s_move rfl rfl rfl ?_;refine s_move rfl rfl rfl ?_;refine s_call rfl rfl (cp) rfl rfl rfl rfl ?_;refine s_move rfl rfl rfl ?_;refine s_extract rfl rfl rfl ?_;refine s_extract rfl rfl rfl ?_;refine s_extract rfl rfl rfl ?_;refine s_alloc rfl rfl rfl rfl rfl rfl ?_;refine s_store rfl rfl rfl rfl rfl ?_;refine s_assign rfl rfl rfl ?_;refine s_assign rfl rfl rfl ?_;refine s_end (hK _ ?_); clear hK K;refine AWP_reg_seq tok fun K hK => ?_;refine s_fieldAddr rfl rfl rfl ?_;refine s_load rfl rfl rfl ?_;refine s_blt rfl (len_m RW.dc rfl rfl) rfl ?_;refine s_call rfl rfl (cN) rfl rfl rfl rfl ?_;refine s_move rfl rfl rfl ?_;refine s_move rfl rfl rfl ?_;refine s_call rfl rfl (cM) rfl rfl rfl rfl ?_;refine s_assign rfl rfl rfl ?_;refine s_end (hK _ ?_); clear hK K;refine AWP_reg_seq tok fun K hK => ?_;refine s_load rfl rfl rfl ?_;refine s_call rfl rfl (cA) rfl rfl rfl rfl ?_;refine s_move rfl rfl rfl ?_;refine s_extract rfl rfl rfl ?_;refine s_extract rfl rfl rfl ?_;refine s_alloc rfl rfl rfl rfl rfl rfl ?_;refine s_store rfl rfl rfl rfl rfl ?_;refine s_assign rfl rfl rfl ?_;refine s_end (hK _ ?_); clear hK K;refine a_draw tok mixed (A := [[], [], [], [], [2], [2, 3], [2, 3, 4], [], [0, 1, 2, 3, 4, 5], [], []]) (an := [{}, {}, {}, {}, {}, {}, {}, { c := [86] }, {}, {}, {}]) rfl (by kernel_rfl) rfl fun K hK => ?_;refine s_load rfl rfl rfl ?_;refine s_move rfl rfl rfl ?_;refine s_fieldAddr rfl rfl rfl ?_;refine s_load rfl rfl rfl ?_;refine s_blt rfl (len_m RW.dc rfl rfl) rfl ?_;refine s_bin rfl (e_sub (c := ((h.nodes.length - 2 : Nat) : Int)) (by omega) (by omega)) rfl ?_;refine s_call rfl rfl (cT) rfl rfl rfl rfl ?_;refine s_load rfl rfl rfl ?_;refine s_call rfl rfl (cQ) rfl rfl rfl rfl ?_;refine s_store rfl rfl rfl rfl rfl ?_;refine s_assign rfl rfl rfl ?_;refine s_end (hK _ ?_); clear hK K;refine AWP_ret ?_
  repeat (with_reducible refine tq_ret ?_)
  exact post_ret (fin_mk (by rfl) (by rfl) (by rfl))

/-- Few. -/
def fwN (r : RW) : Nat := min r.wp.length 100 + min r.wq.length 100
def fwS : List RW → Nat
  | [] => 0
  | r :: l => fwN r + fwS l
theorem fwS_app (a b : List RW) : fwS (a ++ b) = fwS a + fwS b := by
  induction a with
  | nil => simp [fwS]
  | cons x a ih => simp only [List.cons_append, fwS, ih]; omega
theorem fwS_le (a : List RW) : fwS a ≤ 200 * a.length := by
  induction a with
  | nil => simp [fwS]
  | cons x a ih => simp only [List.length_cons, fwS, fwN]; omega
def fewL (g : GR) : Bool := decide (g.nodes.length ≤ 20 ∧ g.links.length ≤ 11 ∧ fwS (g.nodes.take 50) ≤ 200)
theorem rFew_c (g : GR) : Con Try.prog 10 [AG g.cs] { v := dB (fewL g) } := by
  refine con_intro (fn := Try.f10) tok Try.func10 (by kernel_rfl) rfl ?_
  intro w0 X
  rw [entry_mkE _ _ [(0, AG g.cs)] rfl rfl];refine AWP_reg_seq tok fun K hK => ?_;refine s_box rfl rfl rfl rfl rfl rfl ?_;refine s_assign rfl rfl rfl ?_;refine s_end (hK _ ?_); clear hK K;refine AWP_reg_seq tok fun K hK => ?_;refine s_assign rfl rfl rfl ?_;refine s_end (hK _ ?_); clear hK K;refine AWP_seq ?_;refine AWP_reg_seq tok fun K hK => ?_;refine s_assign rfl rfl rfl ?_;refine s_end (hK _ ?_); clear hK K;refine AWP_block (a_loop (α := Nat) (fun i => mk 51 [(1, .ptr 1 0), (3, dI (fwS (g.nodes.take i) : Nat)), (4, dI i)] [(1, some (.box g.cs))] []) (fun i => i ≤ g.nodes.length ∧ i ≤ 50) (fun i => 50 - i) 0 ?_ ⟨Nat.zero_le _, Nat.zero_le _⟩ ?_)
  · exact Wk.mk' ⟨rfl, rfl, rfl, trivial⟩ ⟨rfl, trivial⟩
  rintro i ⟨hi, h50⟩
  refine AWP_seq ?_;refine a_join (α := Bool) (fun c => mk 51 [(1, .ptr 1 0), (3, dI (fwS (g.nodes.take i) : Nat)), (4, dI i), (13, dB c)] [(1, some (.box g.cs))] []) (fun c => c = decide (i < g.nodes.length ∧ i < 50)) ?_ ?_
  · refine AWP_regW fun K hK => ?_;refine w_step tok rfl ?_;refine s_move rfl rfl rfl ?_;refine s_end ?_;refine w_step tok rfl ?_;refine s_fieldAddr rfl rfl rfl ?_;refine s_end ?_;refine w_step tok rfl ?_;refine s_load rfl rfl rfl ?_;refine s_end ?_;refine w_step tok rfl ?_;refine s_blt rfl (len_m RW.dc rfl rfl) rfl ?_;refine s_end ?_;refine w_step tok rfl ?_;refine s_bin rfl rfl rfl ?_;refine s_end ?_;refine w_step tok rfl ?_;refine s_move rfl rfl rfl ?_;refine s_end ?_;refine w_split (fun h0 => ?_) (fun h0 => ?_)
    · refine w_step tok rfl ?_;refine s_move rfl rfl rfl ?_;refine s_end ?_;refine w_step tok rfl ?_;refine s_bin rfl rfl rfl ?_;refine s_end ?_;refine w_step tok rfl ?_;refine s_pick rfl rfl rfl ?_;refine s_end ?_;refine w_end rfl (hK _ ?_); clear hK K;exact ⟨_, (by simp only [decide_eq_true_eq, decide_eq_false_iff_not] at h0; rw [Bool.eq_iff_iff]; simp only [decide_eq_true_eq, reduceCtorEq, false_iff]; omega), Wk.mk' ⟨rfl, rfl, rfl, rfl, trivial⟩ ⟨rfl, trivial⟩⟩
    · refine w_skip rfl rfl ?_;refine w_skip rfl rfl ?_;refine w_step tok rfl ?_;refine s_pick rfl rfl rfl ?_;refine s_end ?_;refine w_end rfl (hK _ ?_); clear hK K;exact ⟨_, (by simp only [decide_eq_true_eq, decide_eq_false_iff_not] at h0; rw [Bool.eq_iff_iff]; simp only [decide_eq_true_eq, reduceCtorEq, false_iff]; omega), Wk.mk' ⟨rfl, rfl, rfl, rfl, trivial⟩ ⟨rfl, trivial⟩⟩
  rintro c rfl
  refine a_cond rfl (fun hg => ?_) (fun hg => ?_)
  · have hg : i < g.nodes.length ∧ i < 50 := by simpa using hg
    obtain ⟨hg, hg2⟩ := hg
    obtain ⟨r, hr⟩ : ∃ r, r = g.nodes[i] := ⟨_, rfl⟩
    have e1 : fwS (g.nodes.take (i + 1)) = fwS (g.nodes.take i) + (min r.wp.length 100 + min r.wq.length 100) := by
      rw [List.take_succ_eq_append_getElem hg, fwS_app, ← hr]; rfl
    have b1 := fwS_le (g.nodes.take i)
    rw [List.length_take_of_le (by omega)] at b1;refine AWP_skip ?_;show AWP _ _ _ _ _ _;refine AWP_seq ?_;refine AWP_block ?_;refine a_draw1 tok mixed (A := [[], [], [], [], [1], [1, 2, 3], [1, 2, 3, 4], [1, 2, 3, 4, 5], [1, 2, 3, 4, 5, 6], [1, 2, 3, 4, 5, 6, 7], [], [], [], [10], [10, 11, 12], [10, 11, 12, 13], [10, 11, 12, 13, 14], [10, 11, 12, 13, 14, 15], [10, 11, 12, 13, 14, 15, 16], [1, 2, 3, 4, 5, 6, 7, 8, 10, 11, 12, 13, 14, 15, 16, 17], [1, 2, 3, 4, 5, 6, 7, 8, 9, 10, 11, 12, 13, 14, 15, 16, 17, 18], []]) (an := [{}, {}, {}, {}, {}, {}, {}, {}, {}, {}, {}, {}, {}, {}, {}, {}, {}, {}, {}, {}, {}, {}]) rfl (by kernel_rfl) rfl fun K hK => ?_;refine s_move rfl rfl rfl ?_;refine s_fieldAddr rfl rfl rfl ?_;refine s_load rfl rfl rfl ?_;refine s_move rfl rfl rfl ?_;refine s_indexAddr rfl (x_m RW.dc rfl rfl rfl rfl hg rfl) rfl ?_;refine s_fieldAddr rfl rfl rfl ?_;refine s_fieldAddr rfl rfl rfl ?_;refine s_load rfl rfl rfl ?_;refine s_blt rfl (len_w (ws := g.nodes[i].wp) rfl rfl rfl) rfl ?_;refine s_blt rfl (mm_min _ 100) rfl ?_;refine s_fieldAddr rfl rfl rfl ?_;refine s_load rfl rfl rfl ?_;refine s_move rfl rfl rfl ?_;refine s_indexAddr rfl (x_m RW.dc rfl rfl rfl rfl hg rfl) rfl ?_;refine s_fieldAddr rfl rfl rfl ?_;refine s_fieldAddr rfl rfl rfl ?_;refine s_load rfl rfl rfl ?_;refine s_blt rfl (len_w (ws := g.nodes[i].wq) rfl rfl rfl) rfl ?_;refine s_blt rfl (mm_min _ 100) rfl ?_;refine s_bin rfl (e_add (c := ((min g.nodes[i].wp.length 100 + min g.nodes[i].wq.length 100 : Nat) : Int)) (by omega) (by omega)) rfl ?_;refine s_bin rfl (e_add (c := ((fwS (g.nodes.take i) + (min g.nodes[i].wp.length 100 + min g.nodes[i].wq.length 100) : Nat) : Int)) (by omega) (by omega)) rfl ?_;refine s_assign rfl rfl rfl ?_;refine s_end (hK _ ?_); clear hK K;rw [← hr, ← e1];show AWP _ _ _ _ _ _;refine AWP_reg tok fun K hK => ?_;refine s_move rfl rfl rfl ?_;refine s_bin rfl (e_add rfl (by omega)) rfl ?_;refine s_assign rfl rfl rfl ?_;refine s_end (hK _ ?_); clear hK K;exact ⟨i + 1, by omega, ⟨hg, hg2⟩, Wk.mk' ⟨rfl, rfl, rfl, trivial⟩ ⟨rfl, trivial⟩⟩
  · have hg : ¬ (i < g.nodes.length ∧ i < 50) := by simpa using hg
    refine AWP_exit ?_;show AWP _ _ _ _ _ _
    have e : g.nodes.take 50 = g.nodes.take i := by
      by_cases h : i < 50
      · rw [List.take_of_length_le (by omega), List.take_of_length_le (by omega)]
      · have : i = 50 := by omega
        rw [this]
    rw [fewL, e];refine AWP_regW_seq fun K hK => ?_;refine w_step tok rfl ?_;refine s_fieldAddr rfl rfl rfl ?_;refine s_end ?_;refine w_step tok rfl ?_;refine s_load rfl rfl rfl ?_;refine s_end ?_;refine w_step tok rfl ?_;refine s_blt rfl (len_m RW.dc rfl rfl) rfl ?_;refine s_end ?_;refine w_step tok rfl ?_;refine s_bin rfl rfl rfl ?_;refine s_end ?_;refine w_step tok rfl ?_;refine s_move rfl rfl rfl ?_;refine s_end ?_;refine w_split (fun h0 => ?_) (fun h0 => ?_)
    · refine w_step tok rfl ?_;refine s_fieldAddr rfl rfl rfl ?_;refine s_end ?_;refine w_step tok rfl ?_;refine s_load rfl rfl rfl ?_;refine s_end ?_;refine w_step tok rfl ?_;refine s_blt rfl (len_m LK.dc rfl rfl) rfl ?_;refine s_end ?_;refine w_step tok rfl ?_;refine s_bin rfl rfl rfl ?_;refine s_end ?_;refine w_step tok rfl ?_;refine s_pick rfl rfl rfl ?_;refine s_end ?_;refine w_step tok rfl ?_;refine s_move rfl rfl rfl ?_;refine s_end ?_;refine w_split (fun h1 => ?_) (fun h1 => ?_)
      · refine w_step tok rfl ?_;refine s_move rfl rfl rfl ?_;refine s_end ?_;refine w_step tok rfl ?_;refine s_bin rfl rfl rfl ?_;refine s_end ?_;refine w_step tok rfl ?_;refine s_pick rfl rfl rfl ?_;refine s_end ?_;refine w_step tok rfl ?_;refine s_assign rfl rfl rfl ?_;refine s_end ?_;refine w_end rfl (hK _ ?_); clear hK K;refine AWP_ret ?_
        repeat (with_reducible refine tq_ret ?_)
        exact post_ret (fin_mk (by rfl) (by rfl) (by exact dB_eq (by simp only [decide_eq_true_eq, decide_eq_false_iff_not] at h0 h1; rw [Bool.eq_iff_iff]; simp only [decide_eq_true_eq, reduceCtorEq, iff_false, false_iff]; omega)))
      · refine w_skip rfl rfl ?_;refine w_skip rfl rfl ?_;refine w_step tok rfl ?_;refine s_pick rfl rfl rfl ?_;refine s_end ?_;refine w_step tok rfl ?_;refine s_assign rfl rfl rfl ?_;refine s_end ?_;refine w_end rfl (hK _ ?_); clear hK K;refine AWP_ret ?_
        repeat (with_reducible refine tq_ret ?_)
        exact post_ret (fin_mk (by rfl) (by rfl) (by exact dB_eq (by simp only [decide_eq_true_eq, decide_eq_false_iff_not] at h0 h1; rw [Bool.eq_iff_iff]; simp only [decide_eq_true_eq, reduceCtorEq, iff_false, false_iff]; omega)))
    · refine w_skip rfl rfl ?_;refine w_skip rfl rfl ?_;refine w_skip rfl rfl ?_;refine w_skip rfl rfl ?_;refine w_step tok rfl ?_;refine s_pick rfl rfl rfl ?_;refine s_end ?_;refine w_step tok rfl ?_;refine s_move rfl rfl rfl ?_;refine s_end ?_;refine w_skip rfl rfl ?_;refine w_skip rfl rfl ?_;refine w_step tok rfl ?_;refine s_pick rfl rfl rfl ?_;refine s_end ?_;refine w_step tok rfl ?_;refine s_assign rfl rfl rfl ?_;refine s_end ?_;refine w_end rfl (hK _ ?_); clear hK K;refine AWP_ret ?_
      repeat (with_reducible refine tq_ret ?_)
      exact post_ret (fin_mk (by rfl) (by rfl) (by exact dB_eq (by simp only [decide_eq_true_eq, decide_eq_false_iff_not] at h0; rw [Bool.eq_iff_iff]; simp only [decide_eq_true_eq, reduceCtorEq, iff_false, false_iff]; omega)))

end Go.Proofs.Ytgopibpkgmafiaa

/- ref32's resistance is leverage's. No condition. -/
namespace Go.Proofs.Ytgopibpkgmafiaa
attribute [local irreducible] lexA

theorem wls_prE (g : GR) (i : Nat) : ∀ ls : List LK, wls (prE g i ls) = rnL (prS g i) (fun v => kN v (prS g i)) (wls ls)
  | [] => rfl
  | x :: xs => by
    have e : wls (x :: xs) = wlk x :: wls xs := rfl
    rw [e, rnL_cons, ← wls_prE g i xs]
    by_cases h : prS g i x.f.toNat = true
    · rw [if_pos (show prS g i (wlk x).f = true from h)]
      have : prE g i (x :: xs) = prK g i x :: prE g i xs := by unfold prE; simp [h]
      rw [this]; rfl
    · rw [if_neg (show ¬ prS g i (wlk x).f = true from h)]
      have : prE g i (x :: xs) = prE g i xs := by unfold prE; simp [h]
      rw [this]
theorem prS_link {g : GR} (gv : GV g) (i : Nat) : ∀ x ∈ wls g.links, x.f < g.nodes.length ∧ x.t < g.nodes.length ∧ prS g i x.f = prS g i x.t := fun x hx => by
  obtain ⟨h1, h2⟩ := wls_l gv x hx
  refine ⟨h1, h2, ?_⟩
  unfold prS; rw [lab_link gv hx]
theorem refQ_eq {g : GR} (gv : GV g) {i j : Nat} (hi : i < g.nodes.length) (hj : j < g.nodes.length) (hl : lab g i = lab g j) : refQ g i j = resQ g i j := by
  by_cases e : i = j
  · have h1 : refQ g i j = 0 := if_pos e
    have h2 : resQ g i j = 0 := if_pos e
    rw [h1, h2]
  · have h1 : refQ g i j = Rat.divInt (trZ (mg id (prN g i i) (prN g i j)) (kN g.nodes.length (prS g i) - 2) (prE g i g.links)) (trZ id (kN g.nodes.length (prS g i) - 1) (prE g i g.links)) := if_neg e
    rw [h1]
    have si : prS g i i = true := decide_eq_true rfl
    have sj : prS g i j = true := decide_eq_true hl.symm
    have q := res_quot (n := g.nodes.length) (S := prS g i) (ls := wls g.links) (wls_w gv) (prS_link gv i) hi hj e si sj (fun v hv hs => by
      rw [wls_prs]
      exact (lab_cnn gv hv hj).1 ((of_decide_eq_true hs).trans hl)) (res_isR gv hi hj hl)
    rw [← wls_prE, ← trZ_tr0, ← trZ_tr0] at q;rw [Rat.divInt_eq_div]
    have q1 := q.1
    have q2 := q.2
    show ((trZ (mg id (kN i (prS g i)) (kN j (prS g i))) (kN g.nodes.length (prS g i) - 2) (prE g i g.links) : Int) : Rat) / ((trZ id (kN g.nodes.length (prS g i) - 1) (prE g i g.links) : Int) : Rat) = _
    rw [← q2]
    grind
/-- What both answer. -/
theorem refR_eq (g : GR) (i j : Int) : refR g i j = resistV g i j := by
  unfold refR resistV
  by_cases h : validB g = true
  · rw [if_pos h, if_pos h]
    by_cases h2 : 0 ≤ i ∧ i < (g.nodes.length : Int) ∧ 0 ≤ j ∧ j < (g.nodes.length : Int)
    · rw [if_pos h2, if_pos h2]
      unfold rstV
      by_cases h3 : lab g i.toNat = lab g j.toNat
      · rw [if_pos h3, if_pos h3, refQ_eq (validB_iff.1 h) (by omega) (by omega) h3]
      · rw [if_neg h3, if_neg h3]
    · rw [if_neg h2, if_neg h2]
  · rw [if_neg h, if_neg h]
end Go.Proofs.Ytgopibpkgmafiaa

/- law32: small, two, awake; Resists. No condition. -/
namespace Go.Proofs.Ytgopibpkgmafiaa
attribute [local irreducible] lexA

def gTwo : GR := ⟨[rw00, rw00], [⟨0, 1, 0, 0, 1⟩, ⟨1, 0, 0, 0, 2⟩]⟩
theorem two_c : Con Try.prog 30 [] { v := AG gTwo.cs } := by
  refine con_intro (fn := Try.f30) tok Try.func30 (by kernel_rfl) rfl ?_
  intro w0 X
  rw [entry_mkE _ _ [] rfl rfl];refine AWP_reg_seq tok fun K hK => ?_;refine s_alloc rfl rfl rfl rfl rfl rfl ?_;refine s_end (hK _ ?_); clear hK K;refine AWP_reg_seq tok fun K hK => ?_;refine s_makeSlice (sz := _) (es := _) (f := _) (v := _) rfl (mk_a (l := 2) (z := rw00.dc) rfl rfl rfl rfl rfl (Nat.le_of_ble_eq_true rfl) (by decide) rfl rfl (by decide)) rfl rfl ?_;refine s_build rfl rfl rfl ?_;refine s_build rfl rfl rfl ?_;refine s_buildSlice rfl rfl rfl rfl ?_;refine s_build rfl rfl rfl ?_;refine s_storeB rfl rfl rfl rfl rfl ?_;refine s_end (hK _ ?_); clear hK K;refine AWP_ret ?_
  repeat (with_reducible refine tq_ret ?_)
  exact post_ret (fin_mk (by rfl) (by rfl) (by rfl))
theorem gTwo_v : validB gTwo = true := by decide
theorem gTwo_res : resQ gTwo 0 1 = 1 / 3 := by
  have gv := validB_iff.1 gTwo_v
  refine (res_isR gv (i := 0) (j := 1) (by decide) (by decide) (by decide)).uniq (wls_l gv) (by decide) (by decide) ⟨fun v => if v = 0 then 1 / 3 else 0, fun v hv => ?_, by decide +kernel⟩
  have : v = 0 ∨ v = 1 := by
    have : gTwo.nodes.length = 2 := rfl
    omega
  rcases this with rfl | rfl <;> decide +kernel
theorem awake_c : Con Try.prog 9 [] { v := dB true } := by
  have cR := gResist_c gTwo 0 1
  have e1 : resistV gTwo 0 1 = (qzW (1 / 3), 0) := by
    rw [resistV, if_pos gTwo_v, if_pos (by decide)]
    show rstV gTwo 0 1 = _
    rw [rstV, if_pos (by decide), gTwo_res]
  rw [e1] at cR
  have cT := gTrees_c gTwo
  have e2 : treesV gTwo = (3, 0) := by decide
  rw [e2] at cT
  have c3 : Con Try.prog 31 [dI 1, dI 3] { v := AG (qzW (1 / 3)).cs } := by
    have c := r2Of_c 1 3 ⟨by decide, by decide⟩ ⟨by decide, by decide⟩
    have e : Rat.divInt 1 3 = 1 / 3 := by decide +kernel
    rw [e] at c;exact c
  have cB := rat_same (qzW (1 / 3)) ⟨by decide +kernel, by decide +kernel⟩
  have cI := bInt_c false false [3] [3] (by decide)
  refine con_intro (fn := Try.f9) tok Try.func9 (by kernel_rfl) rfl ?_
  intro w0 X
  rw [entry_mkE _ _ [] rfl rfl];refine AWP_reg_seq tok fun K hK => ?_;refine s_assign rfl rfl rfl ?_;refine s_end (hK _ ?_); clear hK K;refine AWP_reg_seq tok fun K hK => ?_;refine s_call rfl rfl (two_c) rfl rfl rfl rfl ?_;refine s_call rfl rfl (cR) rfl rfl rfl rfl ?_;refine s_move rfl rfl rfl ?_;refine s_extract rfl rfl rfl ?_;refine s_extract rfl rfl rfl ?_;refine s_alloc rfl rfl rfl rfl rfl rfl ?_;refine s_store rfl rfl rfl rfl rfl ?_;refine s_assign rfl rfl rfl ?_;refine s_end (hK _ ?_); clear hK K;refine AWP_reg_seq tok fun K hK => ?_;refine s_call rfl rfl (two_c) rfl rfl rfl rfl ?_;refine s_call rfl rfl (cT) rfl rfl rfl rfl ?_;refine s_move rfl rfl rfl ?_;refine s_extract rfl rfl rfl ?_;refine s_extract rfl rfl rfl ?_;refine s_alloc rfl rfl rfl rfl rfl rfl ?_;refine s_store rfl rfl rfl rfl rfl ?_;refine s_assign rfl rfl rfl ?_;refine s_end (hK _ ?_); clear hK K;refine a_draw tok mixed (A := [[], [], [0], [0, 1], [0, 1], [0, 1], [0, 1, 3, 4], [0, 1, 2, 3, 4], [0, 1, 2, 3, 4, 5, 6], [0, 1, 2, 3, 4, 5, 6], [0, 1, 2, 3, 4, 5, 6, 8], [0, 1, 2, 3, 4, 5, 6, 8, 9], [0, 1, 2, 3, 4, 5, 6, 7, 8, 9, 10], [0, 1, 2, 3, 4, 5, 6, 7, 8, 9, 10], [0, 1, 2, 3, 4, 5, 6, 7, 8, 9, 10], [0, 1, 2, 3, 4, 5, 6, 7, 8, 9, 10, 13], [0, 1, 2, 3, 4, 5, 6, 7, 8, 9, 10, 12, 13, 14], []]) (an := [{}, {}, {}, {}, {}, {}, {}, {}, {}, {}, {}, {}, {}, {}, {}, {}, {}, {}]) rfl (by kernel_rfl) rfl fun K hK => ?_;refine s_move rfl rfl rfl ?_;refine s_bin rfl rfl rfl ?_;refine s_move rfl rfl rfl ?_;refine s_load rfl rfl rfl ?_;refine s_call rfl rfl (c3) rfl rfl rfl rfl ?_;refine s_call rfl rfl (cB) rfl rfl rfl rfl ?_;refine s_pick rfl rfl rfl ?_;refine s_move rfl rfl rfl ?_;refine s_move rfl rfl rfl ?_;refine s_bin rfl rfl rfl ?_;refine s_pick rfl rfl rfl ?_;refine s_move rfl rfl rfl ?_;refine s_load rfl rfl rfl ?_;refine s_buildSlice rfl rfl rfl rfl ?_;refine s_build rfl rfl rfl ?_;refine s_callF rfl rfl (cI) ⟨rfl, fun _ _ h => by cases h⟩ rfl rfl rfl ?_;refine s_pick rfl rfl rfl ?_;refine s_assign rfl rfl rfl ?_;refine s_end (hK _ ?_); clear hK K;refine AWP_ret ?_
  repeat (with_reducible refine tq_ret ?_)
  exact post_ret (fin_mk (by rfl) (by rfl) (by rfl))

theorem resQ_symm {g : GR} (gv : GV g) {i j : Nat} (hi : i < g.nodes.length) (hj : j < g.nodes.length) (hl : lab g i = lab g j) : resQ g i j = resQ g j i :=
  (res_isR gv hi hj hl).symm.uniq (wls_l gv) hj hi (res_isR gv hj hi hl.symm)
theorem resistV_symm (g : GR) (i j : Int) : resistV g i j = resistV g j i := by
  unfold resistV
  by_cases h : validB g = true
  · rw [if_pos h, if_pos h]
    by_cases h2 : 0 ≤ i ∧ i < (g.nodes.length : Int) ∧ 0 ≤ j ∧ j < (g.nodes.length : Int)
    · rw [if_pos h2, if_pos (show 0 ≤ j ∧ j < (g.nodes.length : Int) ∧ 0 ≤ i ∧ i < (g.nodes.length : Int) by omega)]
      unfold rstV
      by_cases h3 : lab g i.toNat = lab g j.toNat
      · rw [if_pos h3, if_pos h3.symm, resQ_symm (validB_iff.1 h) (by omega) (by omega) h3]
      · rw [if_neg h3, if_neg (fun e => h3 e.symm)]
    · rw [if_neg h2, if_neg (show ¬ (0 ≤ j ∧ j < (g.nodes.length : Int) ∧ 0 ≤ i ∧ i < (g.nodes.length : Int)) by omega)]
  · rw [if_neg h, if_neg h]
theorem rw00_ok (k : Nat) : rw00.OK k := ⟨wOK.nil, wOK.nil, Nat.zero_le _, Nat.zero_le _⟩
theorem resistV_ok (g : GR) (i j : Int) : (resistV g i j).1.OK 65536 := by
  unfold resistV
  split
  · split
    · unfold rstV
      split
      · exact qzW_ok (resQ_ql (validB_iff.1 (by assumption)) (by omega) (by omega) (by assumption))
      · exact rw00_ok _
    · exact rw00_ok _
  · exact rw00_ok _

theorem lResists_c (g : GR) (i j : Int) : Con Try.prog 3 [AG g.cs, dI i, dI j] { v := dB true } := by
  refine con_intro (fn := Try.f3) tok Try.func3 (by kernel_rfl) rfl ?_
  intro w0 X
  rw [entry_mkE _ _ [(0, AG g.cs), (1, dI i), (2, dI j)] rfl rfl];refine AWP_reg_seq tok fun K hK => ?_;refine s_box rfl rfl rfl rfl rfl rfl ?_;refine s_assign rfl rfl rfl ?_;refine s_end (hK _ ?_); clear hK K;refine AWP_seq ?_;refine a_join (α := Bool) (fun c => mk 60 [(1, dI i), (2, dI j), (3, .ptr 3 0), (19, dB c)] [(3, some (.box g.cs))] []) (fun c => c = !fewL g) ?_ ?_
  · refine AWP_regW fun K hK => ?_;refine w_step tok rfl ?_;refine s_call rfl rfl (awake_c) rfl rfl rfl rfl ?_;refine s_end ?_;refine w_step tok rfl ?_;refine s_un rfl rfl rfl ?_;refine s_end ?_;refine w_step tok rfl ?_;refine s_move rfl rfl rfl ?_;refine s_end ?_;refine w_split (fun h0 => ?_) (fun h0 => ?_)
    · refine w_skip rfl rfl ?_;refine w_skip rfl rfl ?_;refine w_skip rfl rfl ?_;refine w_step tok rfl ?_;refine s_pick rfl rfl rfl ?_;refine s_end ?_;refine w_end rfl (hK _ ?_); clear hK K
      first|(exact absurd h0 (by decide))|exact ⟨_, (by simp only [Bool.not_eq_true', Bool.not_eq_false'] at h0; simp only [h0, Bool.not_false, Bool.not_true]), Wk.mk' ⟨rfl, rfl, rfl, rfl, trivial⟩ ⟨rfl, trivial⟩⟩
    · refine w_step tok rfl ?_;refine s_load rfl rfl rfl ?_;refine s_end ?_;refine w_step tok rfl ?_;refine s_call rfl rfl (rFew_c g) rfl rfl rfl rfl ?_;refine s_end ?_;refine w_step tok rfl ?_;refine s_un rfl rfl rfl ?_;refine s_end ?_;refine w_step tok rfl ?_;refine s_pick rfl rfl rfl ?_;refine s_end ?_;refine w_end rfl (hK _ ?_); clear hK K
      first|(exact absurd h0 (by decide))|exact ⟨_, (by simp only [Bool.not_eq_true', Bool.not_eq_false'] at h0; simp only [h0, Bool.not_false, Bool.not_true]), Wk.mk' ⟨rfl, rfl, rfl, rfl, trivial⟩ ⟨rfl, trivial⟩⟩
  rintro c rfl
  refine a_cond rfl (fun hc => ?_) (fun hc => ?_)
  · refine AWP_reg_seq tok fun K hK => ?_;refine s_call rfl rfl (awake_c) rfl rfl rfl rfl ?_;refine s_assign rfl rfl rfl ?_;refine s_end (hK _ ?_); clear hK K;refine AWP_ret ?_
    repeat (with_reducible refine tq_ret ?_)
    exact post_ret (fin_mk (by rfl) (by rfl) (by rfl))
  rw [Bool.not_eq_false'] at hc
  have hm : g.links.length ≤ 11 := (of_decide_eq_true hc).2.1
  have c1 := gResist_c g i j
  have c2 := gResist_c g j i
  have c3 := rResist_c g i j (by omega)
  rw [refR_eq] at c3;rw [resistV_symm g j i] at c2
  have ok : (resistV g i j).1.OK 65536 := resistV_ok g i j
  have cB := rat_same (resistV g i j).1 ⟨Nat.le_trans ok.lp (by decide), Nat.le_trans ok.lq (by decide)⟩
  generalize resistV g i j = r at c1 c2 c3 cB;refine AWP_skip ?_;show AWP _ _ _ _ _ _;refine AWP_reg_seq tok fun K hK => ?_;refine s_load rfl rfl rfl ?_;refine s_move rfl rfl rfl ?_;refine s_move rfl rfl rfl ?_;refine s_call rfl rfl (c1) rfl rfl rfl rfl ?_;refine s_move rfl rfl rfl ?_;refine s_extract rfl rfl rfl ?_;refine s_extract rfl rfl rfl ?_;refine s_alloc rfl rfl rfl rfl rfl rfl ?_;refine s_store rfl rfl rfl rfl rfl ?_;refine s_assign rfl rfl rfl ?_;refine s_end (hK _ ?_); clear hK K;refine AWP_reg_seq tok fun K hK => ?_;refine s_load rfl rfl rfl ?_;refine s_move rfl rfl rfl ?_;refine s_move rfl rfl rfl ?_;refine s_call rfl rfl (c2) rfl rfl rfl rfl ?_;refine s_move rfl rfl rfl ?_;refine s_extract rfl rfl rfl ?_;refine s_extract rfl rfl rfl ?_;refine s_alloc rfl rfl rfl rfl rfl rfl ?_;refine s_store rfl rfl rfl rfl rfl ?_;refine s_assign rfl rfl rfl ?_;refine s_end (hK _ ?_); clear hK K;refine AWP_reg_seq tok fun K hK => ?_;refine s_load rfl rfl rfl ?_;refine s_move rfl rfl rfl ?_;refine s_move rfl rfl rfl ?_;refine s_call rfl rfl (c3) rfl rfl rfl rfl ?_;refine s_move rfl rfl rfl ?_;refine s_extract rfl rfl rfl ?_;refine s_extract rfl rfl rfl ?_;refine s_alloc rfl rfl rfl rfl rfl rfl ?_;refine s_store rfl rfl rfl rfl rfl ?_;refine s_assign rfl rfl rfl ?_;refine s_end (hK _ ?_); clear hK K;refine AWP_reg_seq tok fun K hK => ?_;refine s_move rfl rfl rfl ?_;refine s_move rfl rfl rfl ?_;refine s_bin rfl (e_eqI rfl) rfl ?_;refine s_move rfl rfl rfl ?_;refine s_move rfl rfl rfl ?_;refine s_move rfl rfl rfl ?_;refine s_bin rfl (e_eqI rfl) rfl ?_;refine s_pick rfl rfl rfl ?_;refine s_move rfl rfl rfl ?_;refine s_load rfl rfl rfl ?_;refine s_load rfl rfl rfl ?_;refine s_call rfl rfl (cB) rfl rfl rfl rfl ?_;refine s_pick rfl rfl rfl ?_;refine s_move rfl rfl rfl ?_;refine s_load rfl rfl rfl ?_;refine s_load rfl rfl rfl ?_;refine s_call rfl rfl (cB) rfl rfl rfl rfl ?_;refine s_pick rfl rfl rfl ?_;refine s_assign rfl rfl rfl ?_;refine s_end (hK _ ?_); clear hK K;refine AWP_ret ?_
  repeat (with_reducible refine tq_ret ?_)
  exact post_ret (fin_mk (by rfl) (by rfl) (by rfl))
end Go.Proofs.Ytgopibpkgmafiaa
