/- Part of a proof that a Go function answers true for every input. No condition. -/
import Derived.Test.YtgopibpkgmafiaaGreatC5
set_option linter.unusedVariables false
set_option linter.unusedSimpArgs false
set_option linter.unusedSectionVars false
/- ref32: Resistance, Few, Without, Components. No condition. -/
namespace Go.Proofs.YtgopibpkgmafiaaGreat
attribute [local irreducible] lexA

theorem prG_nodes (g : GR) (i : Nat) : (prG g i).nodes.length = kN g.nodes.length (prS g i) := prV_length g i g.nodes.length
theorem prG_GV {g : GR} (gv : GV g) {i : Nat} (hi : i < g.nodes.length) : GV (prG g i) := by
  have hki : 0 < kN g.nodes.length (prS g i) := Nat.lt_of_le_of_lt (Nat.zero_le _) (vL_at hi (show prS g i i = true from decide_eq_true rfl)).1
  have hle : kN g.nodes.length (prS g i) ≤ g.nodes.length := kN_le _ _
  have n2 := gv.n2
  have e := prG_nodes g i
  refine ⟨by omega, by omega, ?_, fun l hl => ?_⟩
  · show (prE g i g.links).length ≤ 48
    unfold prE; rw [List.length_map]
    exact Nat.le_trans (List.length_filter_le _ _) gv.l
  · have hl : l ∈ prE g i g.links := hl
    obtain ⟨x, hx, rfl⟩ := List.mem_map.1 hl
    have hx2 := (List.mem_filter.1 hx).2
    have hx := (List.mem_filter.1 hx).1
    have lv := gLV gv x hx
    have h1 := lv.f
    have h2 := lv.t
    have hlk : lab g x.f.toNat = lab g x.t.toNat := lab_link gv (List.mem_map.2 ⟨x, hx, rfl⟩)
    have hx3 : prS g i x.t.toNat = true := by
      have hx2 : prS g i x.f.toNat = true := hx2
      show decide (lab g x.t.toNat = lab g i) = true
      rw [← hlk]; exact hx2
    have a1 := vL_at (n := g.nodes.length) (show x.f.toNat < g.nodes.length by omega) hx2
    have a2 := vL_at (n := g.nodes.length) (show x.t.toNat < g.nodes.length by omega) hx3
    refine linkB_iff.2 ⟨?_, ?_, ?_, lv.x, lv.y, lv.w⟩
    · show 0 ≤ ((prN g i x.f.toNat : Nat) : Int) ∧ ((prN g i x.f.toNat : Nat) : Int) < _
      rw [e]; have := a1.1; unfold prN; omega
    · show 0 ≤ ((prN g i x.t.toNat : Nat) : Int) ∧ ((prN g i x.t.toNat : Nat) : Int) < _
      rw [e]; have := a2.1; unfold prN; omega
    · show ((prN g i x.f.toNat : Nat) : Int) ≠ ((prN g i x.t.toNat : Nat) : Int)
      intro h
      have h : prN g i x.f.toNat = prN g i x.t.toNat := by omega
      have h3 := a1.2
      have h4 := a2.2
      unfold prN at h
      rw [h] at h3
      have h5 : x.f.toNat = x.t.toNat := h3.symm.trans h4
      have := lv.ne
      omega
/-- The resistance as ref32 says it. -/
def refQ (g : GR) (i j : Nat) : Rat := if i = j then 0 else Rat.divInt (trZ (mg id (prN g i i) (prN g i j)) (kN g.nodes.length (prS g i) - 2) (prE g i g.links)) (trZ id (kN g.nodes.length (prS g i) - 1) (prE g i g.links))
def refR (g : GR) (i j : Int) : RW × Int :=
  if validB g = true then (if 0 ≤ i ∧ i < (g.nodes.length : Int) ∧ 0 ≤ j ∧ j < (g.nodes.length : Int) then (if lab g i.toNat = lab g j.toNat then (qzW (refQ g i.toNat j.toNat), 0) else (rw00, 10)) else (rw00, 2)) else (rw00, 1)
set_option maxHeartbeats 1000000 in
theorem rResist_c (g : GR) (i j : Int) (hm : g.links.length ≤ 9223372036854775806) : Con Tryz.prog 32 [AG g.cs, dI i, dI j] { v := .tup [.agg (refR g i j).1.cs, .one (.d (lI (refR g i j).2))] } := by
  have cz := r2OfI_c 0 ⟨by decide, by decide⟩
  refine con_intro (fn := Tryz.f32) tok Tryz.func32 (by kernel_rfl) rfl ?_
  intro w0 X
  rw [entry_mkE _ _ [(0, AG g.cs), (1, dI i), (2, dI j)] rfl rfl];refine AWP_reg_seq tok fun K hK => ?_;refine s_box rfl rfl rfl rfl rfl rfl ?_;refine s_alloc rfl rfl rfl rfl rfl rfl ?_;refine asQ ?_;refine s_end (hK _ ?_); clear hK K;refine AWP_seq ?_;refine AWP_reg_seq tok fun K hK => ?_;refine ldQ ?_;refine s_call rfl rfl (r28Valid_c g hm) rfl rfl rfl rfl ?_;refine s_un rfl rfl rfl ?_;refine s_end (hK _ ?_); clear hK K;refine a_cond rfl (fun hc => ?_) (fun hc => ?_)
  · rw [Bool.not_eq_true'] at hc
    have e : refR g i j = (rw00, 1) := by rw [refR, if_neg (by rw [hc]; simp)]
    rw [e];refine AWP_reg_seq tok fun K hK => ?_;refine s_build rfl rfl rfl ?_;refine s_store rfl rfl rfl rfl rfl ?_;refine asQ ?_;refine s_end (hK _ ?_); clear hK K;refine AWP_ret ?_
    repeat (with_reducible refine tq_ret ?_)
    exact post_ret (fin_mk (by rfl) (by rfl) (by rfl))
  rw [Bool.not_eq_false'] at hc
  have gv := validB_iff.1 hc
  rw [refR, if_pos hc];refine AWP_skip ?_;show AWP _ _ _ _ _ _;refine AWP_seq ?_;refine a_join (α := Bool) (fun c => mk 89 [(1, dI i), (2, dI j), (3, .ptr 3 0), (6, .ptr 6 0), (39, dB c)] [(3, some (.box g.cs)), (6, some box0)] []) (fun c => c = !decide (0 ≤ i ∧ i < (g.nodes.length : Int) ∧ 0 ≤ j ∧ j < (g.nodes.length : Int))) ?_ ?_
  · refine AWP_regW fun K hK => ?_;refine w_step tok rfl ?_;refine mvQ ?_;refine s_end ?_;refine w_step tok rfl ?_;refine biQ ?_;refine s_end ?_;refine w_step tok rfl ?_;refine mvQ ?_;refine s_end ?_;refine w_split (fun h0 => ?_) (fun h0 => ?_)
    · refine w_skip rfl rfl ?_;refine w_skip rfl rfl ?_;refine w_step tok rfl ?_;refine piQ ?_;refine s_end ?_;refine w_step tok rfl ?_;refine mvQ ?_;refine s_end ?_;refine w_skip rfl rfl ?_;refine w_skip rfl rfl ?_;refine w_skip rfl rfl ?_;refine w_skip rfl rfl ?_;refine w_skip rfl rfl ?_;refine w_step tok rfl ?_;refine piQ ?_;refine s_end ?_;refine w_step tok rfl ?_;refine mvQ ?_;refine s_end ?_;refine w_skip rfl rfl ?_;refine w_skip rfl rfl ?_;refine w_skip rfl rfl ?_;refine w_skip rfl rfl ?_;refine w_skip rfl rfl ?_;refine w_step tok rfl ?_;refine piQ ?_;refine s_end ?_;refine w_end rfl (hK _ ?_); clear hK K;exact ⟨_, (by simp only [decide_eq_true_eq, decide_eq_false_iff_not, Int.not_lt, ge_iff_le, Int.not_le] at h0; rw [Bool.eq_iff_iff]; simp only [Bool.not_eq_true', decide_eq_false_iff_not, decide_eq_true_eq, true_iff, ge_iff_le]; omega), Wk.mk' ⟨rfl, rfl, rfl, rfl, rfl, trivial⟩ ⟨rfl, rfl, trivial⟩⟩
    · refine w_step tok rfl ?_;refine mvQ ?_;refine s_end ?_;refine w_step tok rfl ?_;refine biQ ?_;refine s_end ?_;refine w_step tok rfl ?_;refine piQ ?_;refine s_end ?_;refine w_step tok rfl ?_;refine mvQ ?_;refine s_end ?_;refine w_split (fun h1 => ?_) (fun h1 => ?_)
      · refine w_skip rfl rfl ?_;refine w_skip rfl rfl ?_;refine w_skip rfl rfl ?_;refine w_skip rfl rfl ?_;refine w_skip rfl rfl ?_;refine w_step tok rfl ?_;refine piQ ?_;refine s_end ?_;refine w_step tok rfl ?_;refine mvQ ?_;refine s_end ?_;refine w_skip rfl rfl ?_;refine w_skip rfl rfl ?_;refine w_skip rfl rfl ?_;refine w_skip rfl rfl ?_;refine w_skip rfl rfl ?_;refine w_step tok rfl ?_;refine piQ ?_;refine s_end ?_;refine w_end rfl (hK _ ?_); clear hK K;exact ⟨_, (by simp only [decide_eq_true_eq, decide_eq_false_iff_not, Int.not_lt, ge_iff_le, Int.not_le] at h0 h1; rw [Bool.eq_iff_iff]; simp only [Bool.not_eq_true', decide_eq_false_iff_not, decide_eq_true_eq, true_iff, ge_iff_le]; omega), Wk.mk' ⟨rfl, rfl, rfl, rfl, rfl, trivial⟩ ⟨rfl, rfl, trivial⟩⟩
      · refine w_step tok rfl ?_;refine mvQ ?_;refine s_end ?_;refine w_step tok rfl ?_;refine faQ ?_;refine s_end ?_;refine w_step tok rfl ?_;refine ldQ ?_;refine s_end ?_;refine w_step tok rfl ?_;refine s_blt rfl (len_m RW.dc rfl rfl) rfl ?_;refine s_end ?_;refine w_step tok rfl ?_;refine biQ ?_;refine s_end ?_;refine w_step tok rfl ?_;refine piQ ?_;refine s_end ?_;refine w_step tok rfl ?_;refine mvQ ?_;refine s_end ?_;refine w_split (fun h2 => ?_) (fun h2 => ?_)
        · refine w_skip rfl rfl ?_;refine w_skip rfl rfl ?_;refine w_skip rfl rfl ?_;refine w_skip rfl rfl ?_;refine w_skip rfl rfl ?_;refine w_step tok rfl ?_;refine piQ ?_;refine s_end ?_;refine w_end rfl (hK _ ?_); clear hK K;exact ⟨_, (by simp only [decide_eq_true_eq, decide_eq_false_iff_not, Int.not_lt, ge_iff_le, Int.not_le] at h0 h1 h2; rw [Bool.eq_iff_iff]; simp only [Bool.not_eq_true', decide_eq_false_iff_not, decide_eq_true_eq, true_iff, ge_iff_le]; omega), Wk.mk' ⟨rfl, rfl, rfl, rfl, rfl, trivial⟩ ⟨rfl, rfl, trivial⟩⟩
        · refine w_step tok rfl ?_;refine mvQ ?_;refine s_end ?_;refine w_step tok rfl ?_;refine faQ ?_;refine s_end ?_;refine w_step tok rfl ?_;refine ldQ ?_;refine s_end ?_;refine w_step tok rfl ?_;refine s_blt rfl (len_m RW.dc rfl rfl) rfl ?_;refine s_end ?_;refine w_step tok rfl ?_;refine biQ ?_;refine s_end ?_;refine w_step tok rfl ?_;refine piQ ?_;refine s_end ?_;refine w_end rfl (hK _ ?_); clear hK K;exact ⟨_, (by simp only [decide_eq_true_eq, decide_eq_false_iff_not, Int.not_lt, ge_iff_le, Int.not_le] at h0 h1 h2; rw [Bool.eq_iff_iff]; simp only [Bool.not_eq_true', decide_eq_false_iff_not, decide_eq_true_eq, true_iff, ge_iff_le]; omega), Wk.mk' ⟨rfl, rfl, rfl, rfl, rfl, trivial⟩ ⟨rfl, rfl, trivial⟩⟩
  rintro c rfl
  refine a_cond rfl (fun hd => ?_) (fun hd => ?_)
  · rw [Bool.not_eq_true'] at hd;rw [if_neg (of_decide_eq_false hd)];refine AWP_reg_seq tok fun K hK => ?_;refine s_build rfl rfl rfl ?_;refine s_store rfl rfl rfl rfl rfl ?_;refine asQ ?_;refine s_end (hK _ ?_); clear hK K;refine AWP_ret ?_
    repeat (with_reducible refine tq_ret ?_)
    exact post_ret (fin_mk (by rfl) (by rfl) (by rfl))
  rw [Bool.not_eq_false'] at hd
  have hd := of_decide_eq_true hd
  rw [if_pos hd]
  obtain ⟨a, rfl⟩ : ∃ a : Nat, i = a := ⟨i.toNat, by omega⟩
  obtain ⟨b, rfl⟩ : ∃ b : Nat, j = b := ⟨j.toNat, by omega⟩
  simp only [Int.toNat_natCast]
  have ha : a < g.nodes.length := by omega
  have hb : b < g.nodes.length := by omega
  have cP := r28Parts_c g hm
  have e0 : (partsV g).2 = 0 := by rw [partsV, if_pos hc]
  rw [dNs_nm g gv, e0] at cP;refine AWP_skip ?_;show AWP _ _ _ _ _ _;refine AWP_reg_seq tok fun K hK => ?_;refine ldQ ?_;refine s_call rfl rfl (cP) rfl rfl rfl rfl ?_;refine mvQ ?_;refine s_extract rfl rfl rfl ?_;refine s_extract rfl rfl rfl ?_;refine asQ ?_;refine asQ ?_;refine s_end (hK _ ?_); clear hK K;refine AWP_seq ?_;refine a_draw tok mixed (A := [[], [], [], [0, 1], [], [], [], [4, 5], [0, 1, 2, 4, 5, 6]]) (an := [{}, {}, {}, {}, {}, {}, {}, {}, {}]) rfl (by kernel_rfl) rfl fun K hK => ?_;refine mvQ ?_;refine mvQ ?_;refine s_indexAddr rfl (x_n rfl rfl rfl rfl rfl ha) rfl ?_;refine ldQ ?_;refine mvQ ?_;refine mvQ ?_;refine s_indexAddr rfl (x_n rfl rfl rfl rfl rfl hb) rfl ?_;refine ldQ ?_;refine s_bin rfl (e_neN _ _) rfl ?_;refine s_end (hK _ ?_); clear hK K;refine a_cond rfl (fun he => ?_) (fun he => ?_)
  · have he := of_decide_eq_true he
    rw [if_neg he];refine AWP_reg_seq tok fun K hK => ?_;refine s_build rfl rfl rfl ?_;refine s_store rfl rfl rfl rfl rfl ?_;refine asQ ?_;refine s_end (hK _ ?_); clear hK K;refine AWP_ret ?_
    repeat (with_reducible refine tq_ret ?_)
    exact post_ret (fin_mk (by rfl) (by rfl) (by rfl))
  have he : lab g a = lab g b := Classical.byContradiction fun h => of_decide_eq_false he h
  rw [if_pos he];refine AWP_skip ?_;show AWP _ _ _ _ _ _;refine AWP_seq ?_;refine AWP_reg_seq tok fun K hK => ?_;refine mvQ ?_;refine mvQ ?_;refine s_bin rfl (e_eqN _ _) rfl ?_;refine s_end (hK _ ?_); clear hK K;refine a_cond rfl (fun hf => ?_) (fun hf => ?_)
  · have hf := of_decide_eq_true hf
    have e : refQ g a b = 0 := if_pos hf
    rw [e];refine AWP_reg_seq tok fun K hK => ?_;refine s_call rfl rfl (cz) rfl rfl rfl rfl ?_;refine s_store rfl rfl rfl rfl rfl ?_;refine asQ ?_;refine s_end (hK _ ?_); clear hK K;refine AWP_ret ?_
    repeat (with_reducible refine tq_ret ?_)
    exact post_ret (fin_mk (by rfl) (by rfl) (by rfl))
  have hf : a ≠ b := of_decide_eq_false hf
  have eQ : refQ g a b = Rat.divInt (trZ (mg id (prN g a a) (prN g a b)) (kN g.nodes.length (prS g a) - 2) (prE g a g.links)) (trZ id (kN g.nodes.length (prS g a) - 1) (prE g a g.links)) := if_neg hf
  rw [eQ]
  have hv := prG_GV gv ha
  have hn := prG_nodes g a
  have hL : (prG g a).links = prE g a g.links := rfl
  have cp := rPart_c g gv a b ha hb he.symm
  have hsa : prS g a a = true := decide_eq_true rfl
  have hsb : prS g a b = true := decide_eq_true he.symm
  have v1 := vL_at ha hsa
  have v2 := vL_at hb hsb
  have hk2 : 2 ≤ kN g.nodes.length (prS g a) := by
    have h1 := v1.1
    have h2 := v2.1
    have h3 : kN a (prS g a) ≠ kN b (prS g a) := fun h => by
      have h4 := v1.2
      have h5 := v2.2
      rw [h] at h4;exact hf (h4.symm.trans h5)
    omega
  have hk16 : kN g.nodes.length (prS g a) ≤ 16 := Nat.le_trans (kN_le _ _) gv.n2
  generalize prG g a = h at hv hn hL cp ⊢;rw [← hL];generalize prN g a a = p at cp ⊢;generalize prN g a b = q at cp ⊢;rw [← hn] at hk2 hk16 ⊢
  have cN := rNum_c h.nodes.length (by omega)
  have cM := rMerged_c h.nodes.length id p q (by omega)
  have hlk := hv.l
  have cA := rTreesAll_c h (by omega)
  have eA : treesV h = (trZ id (h.nodes.length - 1) h.links, 0) := by rw [treesV, if_pos (validB_iff.2 hv)]
  rw [eA] at cA
  have cT := rTreesG_c h hv 0 (h.nodes.length - 2) (mg id p q) (Nat.zero_le _) (by omega)
  rw [List.drop_zero] at cT
  have hw : ∀ l ∈ h.links, 0 ≤ l.w ∧ l.w ≤ 1048576 := fun l hl => by have := (gLV hv l hl).w; omega
  have z1 := trZ_zl (mg id p q) (h.nodes.length - 2) hw hlk
  have z2 := trZ_zl id (h.nodes.length - 1) hw hlk
  have cQ := r2NewZ_c (trZ (mg id p q) (h.nodes.length - 2) h.links) (trZ id (h.nodes.length - 1) h.links) _ (by omega) (by omega) rfl
  refine AWP_skip ?_;show AWP _ _ _ _ _ _;refine AWP_reg_seq tok fun K hK => ?_;refine ldQ ?_;refine mvQ ?_;refine mvQ ?_;refine s_call rfl rfl (cp) rfl rfl rfl rfl ?_;refine mvQ ?_;refine s_extract rfl rfl rfl ?_;refine s_extract rfl rfl rfl ?_;refine s_extract rfl rfl rfl ?_;refine s_alloc rfl rfl rfl rfl rfl rfl ?_;refine s_store rfl rfl rfl rfl rfl ?_;refine asQ ?_;refine asQ ?_;refine s_end (hK _ ?_); clear hK K;refine AWP_reg_seq tok fun K hK => ?_;refine faQ ?_;refine ldQ ?_;refine s_blt rfl (len_m RW.dc rfl rfl) rfl ?_;refine s_call rfl rfl (cN) rfl rfl rfl rfl ?_;refine mvQ ?_;refine mvQ ?_;refine s_call rfl rfl (cM) rfl rfl rfl rfl ?_;refine asQ ?_;refine s_end (hK _ ?_); clear hK K;refine AWP_reg_seq tok fun K hK => ?_;refine ldQ ?_;refine s_call rfl rfl (cA) rfl rfl rfl rfl ?_;refine mvQ ?_;refine s_extract rfl rfl rfl ?_;refine s_extract rfl rfl rfl ?_;refine s_alloc rfl rfl rfl rfl rfl rfl ?_;refine s_store rfl rfl rfl rfl rfl ?_;refine asQ ?_;refine s_end (hK _ ?_); clear hK K;refine a_draw tok mixed (A := [[], [], [], [], [2], [2, 3], [2, 3, 4], [], [0, 1, 2, 3, 4, 5], [], []]) (an := [{}, {}, {}, {}, {}, {}, {}, { c := [86] }, {}, {}, {}]) rfl (by kernel_rfl) rfl fun K hK => ?_;refine ldQ ?_;refine mvQ ?_;refine faQ ?_;refine ldQ ?_;refine s_blt rfl (len_m RW.dc rfl rfl) rfl ?_;refine s_bin rfl (e_sub (c := ((h.nodes.length - 2 : Nat) : Int)) (by omega) (by omega)) rfl ?_;refine s_call rfl rfl (cT) rfl rfl rfl rfl ?_;refine ldQ ?_;refine s_call rfl rfl (cQ) rfl rfl rfl rfl ?_;refine s_store rfl rfl rfl rfl rfl ?_;refine asQ ?_;refine s_end (hK _ ?_); clear hK K;refine AWP_ret ?_
  repeat (with_reducible refine tq_ret ?_)
  exact post_ret (fin_mk (by rfl) (by rfl) (by rfl))

/-- Few. -/
def fwN (r : RW) : Nat := min r.wp.length 100 + min r.wq.length 100
def fwS : List RW → Nat
  | [] => 0
  | r :: l => fwN r + fwS l
theorem fwS_app (a b : List RW) : fwS (a ++ b) = fwS a + fwS b := by
  induction a with
  | nil => simp [fwS]
  | cons x a ih => simp only [List.cons_append, fwS, ih]; omega
theorem fwS_le (a : List RW) : fwS a ≤ 200 * a.length := by
  induction a with
  | nil => simp [fwS]
  | cons x a ih => simp only [List.length_cons, fwS, fwN]; omega
def fewL (g : GR) : Bool := decide (g.nodes.length ≤ 20 ∧ g.links.length ≤ 11 ∧ fwS (g.nodes.take 50) ≤ 200)
theorem rFew_c (g : GR) : Con Tryz.prog 6 [AG g.cs] { v := dB (fewL g) } := by
  refine con_intro (fn := Tryz.f6) tok Tryz.func6 (by kernel_rfl) rfl ?_
  intro w0 X
  rw [entry_mkE _ _ [(0, AG g.cs)] rfl rfl];refine AWP_reg_seq tok fun K hK => ?_;refine s_box rfl rfl rfl rfl rfl rfl ?_;refine asQ ?_;refine s_end (hK _ ?_); clear hK K;refine AWP_reg_seq tok fun K hK => ?_;refine asQ ?_;refine s_end (hK _ ?_); clear hK K;refine AWP_seq ?_;refine AWP_reg_seq tok fun K hK => ?_;refine asQ ?_;refine s_end (hK _ ?_); clear hK K;refine AWP_block (a_loop (α := Nat) (fun i => mk 51 [(1, .ptr 1 0), (3, dI (fwS (g.nodes.take i) : Nat)), (4, dI i)] [(1, some (.box g.cs))] []) (fun i => i ≤ g.nodes.length ∧ i ≤ 50) (fun i => 50 - i) 0 ?_ ⟨Nat.zero_le _, Nat.zero_le _⟩ ?_)
  · exact Wk.mk' ⟨rfl, rfl, rfl, trivial⟩ ⟨rfl, trivial⟩
  rintro i ⟨hi, h50⟩
  refine AWP_seq ?_;refine a_join (α := Bool) (fun c => mk 51 [(1, .ptr 1 0), (3, dI (fwS (g.nodes.take i) : Nat)), (4, dI i), (13, dB c)] [(1, some (.box g.cs))] []) (fun c => c = decide (i < g.nodes.length ∧ i < 50)) ?_ ?_
  · refine AWP_regW fun K hK => ?_;refine w_step tok rfl ?_;refine mvQ ?_;refine s_end ?_;refine w_step tok rfl ?_;refine faQ ?_;refine s_end ?_;refine w_step tok rfl ?_;refine ldQ ?_;refine s_end ?_;refine w_step tok rfl ?_;refine s_blt rfl (len_m RW.dc rfl rfl) rfl ?_;refine s_end ?_;refine w_step tok rfl ?_;refine biQ ?_;refine s_end ?_;refine w_step tok rfl ?_;refine mvQ ?_;refine s_end ?_;refine w_split (fun h0 => ?_) (fun h0 => ?_)
    · refine w_step tok rfl ?_;refine mvQ ?_;refine s_end ?_;refine w_step tok rfl ?_;refine biQ ?_;refine s_end ?_;refine w_step tok rfl ?_;refine piQ ?_;refine s_end ?_;refine w_end rfl (hK _ ?_); clear hK K;exact ⟨_, (by simp only [decide_eq_true_eq, decide_eq_false_iff_not] at h0; rw [Bool.eq_iff_iff]; simp only [decide_eq_true_eq, reduceCtorEq, false_iff]; omega), Wk.mk' ⟨rfl, rfl, rfl, rfl, trivial⟩ ⟨rfl, trivial⟩⟩
    · refine w_skip rfl rfl ?_;refine w_skip rfl rfl ?_;refine w_step tok rfl ?_;refine piQ ?_;refine s_end ?_;refine w_end rfl (hK _ ?_); clear hK K;exact ⟨_, (by simp only [decide_eq_true_eq, decide_eq_false_iff_not] at h0; rw [Bool.eq_iff_iff]; simp only [decide_eq_true_eq, reduceCtorEq, false_iff]; omega), Wk.mk' ⟨rfl, rfl, rfl, rfl, trivial⟩ ⟨rfl, trivial⟩⟩
  rintro c rfl
  refine a_cond rfl (fun hg => ?_) (fun hg => ?_)
  · have hg : i < g.nodes.length ∧ i < 50 := by simpa using hg
    obtain ⟨hg, hg2⟩ := hg
    obtain ⟨r, hr⟩ : ∃ r, r = g.nodes[i] := ⟨_, rfl⟩
    have e1 : fwS (g.nodes.take (i + 1)) = fwS (g.nodes.take i) + (min r.wp.length 100 + min r.wq.length 100) := by
      rw [List.take_succ_eq_append_getElem hg, fwS_app, ← hr]; rfl
    have b1 := fwS_le (g.nodes.take i)
    rw [List.length_take_of_le (by omega)] at b1;refine AWP_skip ?_;show AWP _ _ _ _ _ _;refine AWP_seq ?_;refine AWP_block ?_;refine a_draw1 tok mixed (A := [[], [], [], [], [1], [1, 2, 3], [1, 2, 3, 4], [1, 2, 3, 4, 5], [1, 2, 3, 4, 5, 6], [1, 2, 3, 4, 5, 6, 7], [], [], [], [10], [10, 11, 12], [10, 11, 12, 13], [10, 11, 12, 13, 14], [10, 11, 12, 13, 14, 15], [10, 11, 12, 13, 14, 15, 16], [1, 2, 3, 4, 5, 6, 7, 8, 10, 11, 12, 13, 14, 15, 16, 17], [1, 2, 3, 4, 5, 6, 7, 8, 9, 10, 11, 12, 13, 14, 15, 16, 17, 18], []]) (an := [{}, {}, {}, {}, {}, {}, {}, {}, {}, {}, {}, {}, {}, {}, {}, {}, {}, {}, {}, {}, {}, {}]) rfl (by kernel_rfl) rfl fun K hK => ?_;refine mvQ ?_;refine faQ ?_;refine ldQ ?_;refine mvQ ?_;refine s_indexAddr rfl (x_m RW.dc rfl rfl rfl rfl hg rfl) rfl ?_;refine faQ ?_;refine faQ ?_;refine ldQ ?_;refine s_blt rfl (len_w (ws := g.nodes[i].wp) rfl rfl rfl) rfl ?_;refine s_blt rfl (mm_min _ 100) rfl ?_;refine faQ ?_;refine ldQ ?_;refine mvQ ?_;refine s_indexAddr rfl (x_m RW.dc rfl rfl rfl rfl hg rfl) rfl ?_;refine faQ ?_;refine faQ ?_;refine ldQ ?_;refine s_blt rfl (len_w (ws := g.nodes[i].wq) rfl rfl rfl) rfl ?_;refine s_blt rfl (mm_min _ 100) rfl ?_;refine s_bin rfl (e_add (c := ((min g.nodes[i].wp.length 100 + min g.nodes[i].wq.length 100 : Nat) : Int)) (by omega) (by omega)) rfl ?_;refine s_bin rfl (e_add (c := ((fwS (g.nodes.take i) + (min g.nodes[i].wp.length 100 + min g.nodes[i].wq.length 100) : Nat) : Int)) (by omega) (by omega)) rfl ?_;refine asQ ?_;refine s_end (hK _ ?_); clear hK K;rw [← hr, ← e1];show AWP _ _ _ _ _ _;refine AWP_reg tok fun K hK => ?_;refine mvQ ?_;refine s_bin rfl (e_add rfl (by omega)) rfl ?_;refine asQ ?_;refine s_end (hK _ ?_); clear hK K;exact ⟨i + 1, by omega, ⟨hg, hg2⟩, Wk.mk' ⟨rfl, rfl, rfl, trivial⟩ ⟨rfl, trivial⟩⟩
  · have hg : ¬ (i < g.nodes.length ∧ i < 50) := by simpa using hg
    refine AWP_exit ?_;show AWP _ _ _ _ _ _
    have e : g.nodes.take 50 = g.nodes.take i := by
      by_cases h : i < 50
      · rw [List.take_of_length_le (by omega), List.take_of_length_le (by omega)]
      · have : i = 50 := by omega
        rw [this]
    rw [fewL, e];refine AWP_regW_seq fun K hK => ?_;refine w_step tok rfl ?_;refine faQ ?_;refine s_end ?_;refine w_step tok rfl ?_;refine ldQ ?_;refine s_end ?_;refine w_step tok rfl ?_;refine s_blt rfl (len_m RW.dc rfl rfl) rfl ?_;refine s_end ?_;refine w_step tok rfl ?_;refine biQ ?_;refine s_end ?_;refine w_step tok rfl ?_;refine mvQ ?_;refine s_end ?_;refine w_split (fun h0 => ?_) (fun h0 => ?_)
    · refine w_step tok rfl ?_;refine faQ ?_;refine s_end ?_;refine w_step tok rfl ?_;refine ldQ ?_;refine s_end ?_;refine w_step tok rfl ?_;refine s_blt rfl (len_m LK.dc rfl rfl) rfl ?_;refine s_end ?_;refine w_step tok rfl ?_;refine biQ ?_;refine s_end ?_;refine w_step tok rfl ?_;refine piQ ?_;refine s_end ?_;refine w_step tok rfl ?_;refine mvQ ?_;refine s_end ?_;refine w_split (fun h1 => ?_) (fun h1 => ?_)
      · refine w_step tok rfl ?_;refine mvQ ?_;refine s_end ?_;refine w_step tok rfl ?_;refine biQ ?_;refine s_end ?_;refine w_step tok rfl ?_;refine piQ ?_;refine s_end ?_;refine w_step tok rfl ?_;refine asQ ?_;refine s_end ?_;refine w_end rfl (hK _ ?_); clear hK K;refine AWP_ret ?_
        repeat (with_reducible refine tq_ret ?_)
        exact post_ret (fin_mk (by rfl) (by rfl) (by exact dB_eq (by simp only [decide_eq_true_eq, decide_eq_false_iff_not] at h0 h1; rw [Bool.eq_iff_iff]; simp only [decide_eq_true_eq, reduceCtorEq, iff_false, false_iff]; omega)))
      · refine w_skip rfl rfl ?_;refine w_skip rfl rfl ?_;refine w_step tok rfl ?_;refine piQ ?_;refine s_end ?_;refine w_step tok rfl ?_;refine asQ ?_;refine s_end ?_;refine w_end rfl (hK _ ?_); clear hK K;refine AWP_ret ?_
        repeat (with_reducible refine tq_ret ?_)
        exact post_ret (fin_mk (by rfl) (by rfl) (by exact dB_eq (by simp only [decide_eq_true_eq, decide_eq_false_iff_not] at h0 h1; rw [Bool.eq_iff_iff]; simp only [decide_eq_true_eq, reduceCtorEq, iff_false, false_iff]; omega)))
    · refine w_skip rfl rfl ?_;refine w_skip rfl rfl ?_;refine w_skip rfl rfl ?_;refine w_skip rfl rfl ?_;refine w_step tok rfl ?_;refine piQ ?_;refine s_end ?_;refine w_step tok rfl ?_;refine mvQ ?_;refine s_end ?_;refine w_skip rfl rfl ?_;refine w_skip rfl rfl ?_;refine w_step tok rfl ?_;refine piQ ?_;refine s_end ?_;refine w_step tok rfl ?_;refine asQ ?_;refine s_end ?_;refine w_end rfl (hK _ ?_); clear hK K;refine AWP_ret ?_
      repeat (with_reducible refine tq_ret ?_)
      exact post_ret (fin_mk (by rfl) (by rfl) (by exact dB_eq (by simp only [decide_eq_true_eq, decide_eq_false_iff_not] at h0; rw [Bool.eq_iff_iff]; simp only [decide_eq_true_eq, reduceCtorEq, iff_false, false_iff]; omega)))

end Go.Proofs.YtgopibpkgmafiaaGreat

/- ref32's resistance is leverage's. No condition. -/
namespace Go.Proofs.YtgopibpkgmafiaaGreat
attribute [local irreducible] lexA

theorem wls_prE (g : GR) (i : Nat) : ∀ ls : List LK, wls (prE g i ls) = rnL (prS g i) (fun v => kN v (prS g i)) (wls ls)
  | [] => rfl
  | x :: xs => by
    have e : wls (x :: xs) = wlk x :: wls xs := rfl
    rw [e, rnL_cons, ← wls_prE g i xs]
    by_cases h : prS g i x.f.toNat = true
    · rw [if_pos (show prS g i (wlk x).f = true from h)]
      have : prE g i (x :: xs) = prK g i x :: prE g i xs := by unfold prE; simp [h]
      rw [this]; rfl
    · rw [if_neg (show ¬ prS g i (wlk x).f = true from h)]
      have : prE g i (x :: xs) = prE g i xs := by unfold prE; simp [h]
      rw [this]
theorem prS_link {g : GR} (gv : GV g) (i : Nat) : ∀ x ∈ wls g.links, x.f < g.nodes.length ∧ x.t < g.nodes.length ∧ prS g i x.f = prS g i x.t := fun x hx => by
  obtain ⟨h1, h2⟩ := wls_l gv x hx
  refine ⟨h1, h2, ?_⟩
  unfold prS; rw [lab_link gv hx]
theorem refQ_eq {g : GR} (gv : GV g) {i j : Nat} (hi : i < g.nodes.length) (hj : j < g.nodes.length) (hl : lab g i = lab g j) : refQ g i j = resQ g i j := by
  by_cases e : i = j
  · have h1 : refQ g i j = 0 := if_pos e
    have h2 : resQ g i j = 0 := if_pos e
    rw [h1, h2]
  · have h1 : refQ g i j = Rat.divInt (trZ (mg id (prN g i i) (prN g i j)) (kN g.nodes.length (prS g i) - 2) (prE g i g.links)) (trZ id (kN g.nodes.length (prS g i) - 1) (prE g i g.links)) := if_neg e
    rw [h1]
    have si : prS g i i = true := decide_eq_true rfl
    have sj : prS g i j = true := decide_eq_true hl.symm
    have q := res_quot (n := g.nodes.length) (S := prS g i) (ls := wls g.links) (wls_w gv) (prS_link gv i) hi hj e si sj (fun v hv hs => by
      rw [wls_prs]
      exact (lab_cnn gv hv hj).1 ((of_decide_eq_true hs).trans hl)) (res_isR gv hi hj hl)
    rw [← wls_prE, ← trZ_tr0, ← trZ_tr0] at q;rw [Rat.divInt_eq_div]
    have q1 := q.1
    have q2 := q.2
    show ((trZ (mg id (kN i (prS g i)) (kN j (prS g i))) (kN g.nodes.length (prS g i) - 2) (prE g i g.links) : Int) : Rat) / ((trZ id (kN g.nodes.length (prS g i) - 1) (prE g i g.links) : Int) : Rat) = _
    rw [← q2]
    grind
/-- What both answer. -/
theorem refR_eq (g : GR) (i j : Int) : refR g i j = resistV g i j := by
  unfold refR resistV
  by_cases h : validB g = true
  · rw [if_pos h, if_pos h]
    by_cases h2 : 0 ≤ i ∧ i < (g.nodes.length : Int) ∧ 0 ≤ j ∧ j < (g.nodes.length : Int)
    · rw [if_pos h2, if_pos h2]
      unfold rstV
      by_cases h3 : lab g i.toNat = lab g j.toNat
      · rw [if_pos h3, if_pos h3, refQ_eq (validB_iff.1 h) (by omega) (by omega) h3]
      · rw [if_neg h3, if_neg h3]
    · rw [if_neg h2, if_neg h2]
  · rw [if_neg h, if_neg h]
end Go.Proofs.YtgopibpkgmafiaaGreat

/- law32: small, two, awake; Resists. No condition. -/
namespace Go.Proofs.YtgopibpkgmafiaaGreat
attribute [local irreducible] lexA

def gTwo : GR := ⟨[rw00, rw00], [⟨0, 1, 0, 0, 1⟩, ⟨1, 0, 0, 0, 2⟩]⟩
theorem two_c : Con Tryz.prog 24 [] { v := AG gTwo.cs } := by
  refine con_intro (fn := Tryz.f24) tok Tryz.func24 (by kernel_rfl) rfl ?_
  intro w0 X
  rw [entry_mkE _ _ [] rfl rfl];refine AWP_reg_seq tok fun K hK => ?_;refine s_alloc rfl rfl rfl rfl rfl rfl ?_;refine s_end (hK _ ?_); clear hK K;refine AWP_reg_seq tok fun K hK => ?_;refine s_makeSlice (sz := _) (es := _) (f := _) (v := _) rfl (mk_a (l := 2) (z := rw00.dc) rfl rfl rfl rfl rfl (Nat.le_of_ble_eq_true rfl) (by decide) rfl rfl (by decide)) rfl rfl ?_;refine s_build rfl rfl rfl ?_;refine s_build rfl rfl rfl ?_;refine s_buildSlice rfl rfl rfl rfl ?_;refine s_build rfl rfl rfl ?_;refine s_storeB rfl rfl rfl rfl rfl ?_;refine s_end (hK _ ?_); clear hK K;refine AWP_ret ?_
  repeat (with_reducible refine tq_ret ?_)
  exact post_ret (fin_mk (by rfl) (by rfl) (by rfl))
theorem gTwo_v : validB gTwo = true := by decide
theorem gTwo_res : resQ gTwo 0 1 = 1 / 3 := by
  have gv := validB_iff.1 gTwo_v
  refine (res_isR gv (i := 0) (j := 1) (by decide) (by decide) (by decide)).uniq (wls_l gv) (by decide) (by decide) ⟨fun v => if v = 0 then 1 / 3 else 0, fun v hv => ?_, by decide +kernel⟩
  have : v = 0 ∨ v = 1 := by
    have : gTwo.nodes.length = 2 := rfl
    omega
  rcases this with rfl | rfl <;> decide +kernel
theorem awake_c : Con Tryz.prog 5 [] { v := dB true } := by
  have cR := gResist_c gTwo 0 1
  have e1 : resistV gTwo 0 1 = (qzW (1 / 3), 0) := by
    rw [resistV, if_pos gTwo_v, if_pos (by decide)]
    show rstV gTwo 0 1 = _
    rw [rstV, if_pos (by decide), gTwo_res]
  rw [e1] at cR
  have cT := gTrees_c gTwo
  have e2 : treesV gTwo = (3, 0) := by decide
  rw [e2] at cT
  have c3 : Con Tryz.prog 25 [dI 1, dI 3] { v := AG (qzW (1 / 3)).cs } := by
    have c := r2Of_c 1 3 ⟨by decide, by decide⟩ ⟨by decide, by decide⟩
    have e : Rat.divInt 1 3 = 1 / 3 := by decide +kernel
    rw [e] at c;exact c
  have cB := rat_same (qzW (1 / 3)) ⟨by decide +kernel, by decide +kernel⟩
  have cI := bInt_c false false [3] [3] (by decide)
  refine con_intro (fn := Tryz.f5) tok Tryz.func5 (by kernel_rfl) rfl ?_
  intro w0 X
  rw [entry_mkE _ _ [] rfl rfl];refine AWP_reg_seq tok fun K hK => ?_;refine asQ ?_;refine s_end (hK _ ?_); clear hK K;refine AWP_reg_seq tok fun K hK => ?_;refine s_call rfl rfl (two_c) rfl rfl rfl rfl ?_;refine s_call rfl rfl (cR) rfl rfl rfl rfl ?_;refine mvQ ?_;refine s_extract rfl rfl rfl ?_;refine s_extract rfl rfl rfl ?_;refine s_alloc rfl rfl rfl rfl rfl rfl ?_;refine s_store rfl rfl rfl rfl rfl ?_;refine asQ ?_;refine s_end (hK _ ?_); clear hK K;refine AWP_reg_seq tok fun K hK => ?_;refine s_call rfl rfl (two_c) rfl rfl rfl rfl ?_;refine s_call rfl rfl (cT) rfl rfl rfl rfl ?_;refine mvQ ?_;refine s_extract rfl rfl rfl ?_;refine s_extract rfl rfl rfl ?_;refine s_alloc rfl rfl rfl rfl rfl rfl ?_;refine s_store rfl rfl rfl rfl rfl ?_;refine asQ ?_;refine s_end (hK _ ?_); clear hK K;refine a_draw tok mixed (A := [[], [], [0], [0, 1], [0, 1], [0, 1], [0, 1, 3, 4], [0, 1, 2, 3, 4], [0, 1, 2, 3, 4, 5, 6], [0, 1, 2, 3, 4, 5, 6], [0, 1, 2, 3, 4, 5, 6, 8], [0, 1, 2, 3, 4, 5, 6, 8, 9], [0, 1, 2, 3, 4, 5, 6, 7, 8, 9, 10], [0, 1, 2, 3, 4, 5, 6, 7, 8, 9, 10], [0, 1, 2, 3, 4, 5, 6, 7, 8, 9, 10], [0, 1, 2, 3, 4, 5, 6, 7, 8, 9, 10, 13], [0, 1, 2, 3, 4, 5, 6, 7, 8, 9, 10, 12, 13, 14], []]) (an := [{}, {}, {}, {}, {}, {}, {}, {}, {}, {}, {}, {}, {}, {}, {}, {}, {}, {}]) rfl (by kernel_rfl) rfl fun K hK => ?_;refine mvQ ?_;refine biQ ?_;refine mvQ ?_;refine ldQ ?_;refine s_call rfl rfl (c3) rfl rfl rfl rfl ?_;refine s_call rfl rfl (cB) rfl rfl rfl rfl ?_;refine piQ ?_;refine mvQ ?_;refine mvQ ?_;refine biQ ?_;refine piQ ?_;refine mvQ ?_;refine ldQ ?_;refine s_buildSlice rfl rfl rfl rfl ?_;refine s_build rfl rfl rfl ?_;refine s_callF rfl rfl (cI) ⟨rfl, fun _ _ h => by cases h⟩ rfl rfl rfl ?_;refine piQ ?_;refine asQ ?_;refine s_end (hK _ ?_); clear hK K;refine AWP_ret ?_
  repeat (with_reducible refine tq_ret ?_)
  exact post_ret (fin_mk (by rfl) (by rfl) (by rfl))

end Go.Proofs.YtgopibpkgmafiaaGreat

/- law32: Triangle, More. No condition. -/
namespace Go.Proofs.YtgopibpkgmafiaaGreat
attribute [local irreducible] lexA

theorem zcmp_le (x y : Int) : zcmp x y ≤ 0 ↔ x ≤ y := by unfold zcmp; (repeat' split) <;> omega
theorem qcmp_le (x y : Rat) : qcmp x y ≤ 0 ↔ x ≤ y := by
  unfold qcmp
  rw [zcmp_le, Rat.le_iff]
end Go.Proofs.YtgopibpkgmafiaaGreat

/- Union-find: root, single, join. No condition. -/
namespace Go.Proofs.YtgopibpkgmafiaaGreat
attribute [local irreducible] lexA
open Go.RowKit

def itS (s : Nat → Nat) : Nat → Nat → Nat
  | 0, v => v
  | k + 1, v => itS s k (s v)
/-- v's root is r. -/
def RT (n : Nat) (s : Nat → Nat) (v r : Nat) : Prop := (∀ x, x < n → s x < n) ∧ v < n ∧ s r = r ∧ ∃ k, itS s k v = r
theorem RT.lt {n : Nat} {s : Nat → Nat} {v r : Nat} (h : RT n s v r) : r < n := by
  obtain ⟨h1, h2, _, k, h4⟩ := h
  have : ∀ k v, v < n → itS s k v < n := by
    intro k
    induction k with
    | zero => intro v h; exact h
    | succ k ih => intro v h; exact ih _ (h1 v h)
  rw [← h4]; exact this k v h2
end Go.Proofs.YtgopibpkgmafiaaGreat

/- join. No condition. -/
namespace Go.Proofs.YtgopibpkgmafiaaGreat
attribute [local irreducible] lexA
open Go.RowKit

end Go.Proofs.YtgopibpkgmafiaaGreat

/- Union-find against connectedness; Forest. No condition. -/
namespace Go.Proofs.YtgopibpkgmafiaaGreat
attribute [local irreducible] lexA
open Go.RowKit

end Go.Proofs.YtgopibpkgmafiaaGreat

/- Forest. No condition. -/
namespace Go.Proofs.YtgopibpkgmafiaaGreat
attribute [local irreducible] lexA
open Go.RowKit

end Go.Proofs.YtgopibpkgmafiaaGreat

/- Bridges. No condition. -/
namespace Go.Proofs.YtgopibpkgmafiaaGreat
attribute [local irreducible] lexA
open Go.RowKit

end Go.Proofs.YtgopibpkgmafiaaGreat

/- Forests: how many links, which, what they join. No condition. -/
namespace Go.Proofs.YtgopibpkgmafiaaGreat
attribute [local irreducible] lexA

end Go.Proofs.YtgopibpkgmafiaaGreat

/- Bridges by components; labels that are merged; the first greatest. No condition. -/
namespace Go.Proofs.YtgopibpkgmafiaaGreat
attribute [local irreducible] lexA

/-- The first greatest. -/
def dmN (q : Nat → Rat) : Nat → Nat
  | 0 => 0
  | k + 1 => if q (dmN q k) < q k then k else dmN q k
theorem dmN_le (q : Nat → Rat) : ∀ k, dmN q (k + 1) ≤ k
  | 0 => by
    have e : dmN q 1 = 0 := by show (if q (dmN q 0) < q 0 then 0 else dmN q 0) = 0; split <;> rfl
    rw [e]; exact Nat.le_refl _
  | k + 1 => by
    have ih := dmN_le q k
    rw [dmN]; split
    · omega
    · omega
theorem dmN_lt (q : Nat → Rat) {k n : Nat} (hk : k ≤ n) (hn : 0 < n) : dmN q k < n := by
  cases k with
  | zero => exact hn
  | succ k => have := dmN_le q k; omega
end Go.Proofs.YtgopibpkgmafiaaGreat

/- law32: Links. No condition. -/
namespace Go.Proofs.YtgopibpkgmafiaaGreat
attribute [local irreducible] lexA
open Go.RowKit

/-- What Dominant answers. -/
def levN (g : GR) (i : Nat) : Rat := levQ g (g.links.getD i ⟨0, 0, 0, 0, 0⟩)
def domV (g : GR) : Int × Int := if validB g = true then (if g.links.length = 0 then (0, 7) else ((dmN (levN g) g.links.length : Nat), 0)) else (0, 1)
theorem levN_at {g : GR} {i : Nat} (h : i < g.links.length) : (g.links.map fun l => qzW (levQ g l))[i]'(by rw [List.length_map]; exact h) = qzW (levN g i) := by
  rw [List.getElem_map]; unfold levN;rw [List.getD_eq_getElem?_getD, List.getElem?_eq_getElem h]; rfl
theorem levN_ql {g : GR} (gv : GV g) {i : Nat} (h : i < g.links.length) : ql (levN g i) ≤ 65538 := by
  unfold levN
  rw [List.getD_eq_getElem?_getD, List.getElem?_eq_getElem h];exact levQ_ql gv (List.getElem_mem h)
theorem e_eqJ {T : Tab} {t : TypeId} {a b : Int} {c : Bool} (h : (a == b) = c) : effBin T .eql t (dI a) (dI b) = .set (dB c) := by subst h; rfl
theorem e_gtrK {T : Tab} {t : TypeId} {a b : Int} {c : Bool} (h : decide (a > b) = c) : effBin T .gtr t (dI a) (dI b) = .set (dB c) := by subst h; rfl
theorem sgn_gt (x y : Rat) : decide ((x - y).num.sign > 0) = decide (y < x) := by
  have h3 := sign3 (x - y).num
  have h1 := qSign_pos (q := x - y)
  rw [Bool.eq_iff_iff, decide_eq_true_eq, decide_eq_true_eq]
  constructor
  · intro h
    have := h1.1 (by omega)
    grind
  · intro h
    have := h1.2 (by grind)
    omega
theorem qcmp_gt (x y : Rat) : decide (qcmp x y > 0) = decide (y < x) := by
  rw [Bool.eq_iff_iff, decide_eq_true_eq, decide_eq_true_eq]
  have := qcmp_le x y
  constructor
  · intro h
    exact Rat.not_le.1 fun h' => by have := this.2 h'; omega
  · intro h
    have h' := Rat.not_le.2 h
    have : ¬ qcmp x y ≤ 0 := fun h2 => h' (this.1 h2)
    omega

set_option maxHeartbeats 1000000 in
theorem gDom_c (g : GR) : Con Tryz.prog 9 [AG g.cs] { v := .tup [.one (.d (lI (domV g).1)), .one (.d (lI (domV g).2))] } := by
  have cA := gAll_c g
  refine con_intro (fn := Tryz.f9) tok Tryz.func9 (by kernel_rfl) rfl ?_
  intro w0 X
  rw [entry_mkE _ _ [(0, AG g.cs)] rfl rfl];refine AWP_reg_seq tok fun K hK => ?_;refine s_box rfl rfl rfl rfl rfl rfl ?_;refine asQ ?_;refine asQ ?_;refine s_end (hK _ ?_); clear hK K
  by_cases hv : validB g = true
  · have gv := validB_iff.1 hv
    have l48 := gv.l
    rw [allV, if_pos hv] at cA;rw [domV, if_pos hv];refine AWP_reg_seq tok fun K hK => ?_;refine ldQ ?_;refine s_call rfl rfl (cA) rfl rfl rfl rfl ?_;refine mvQ ?_;refine s_extract rfl rfl rfl ?_;refine s_extract rfl rfl rfl ?_;refine asQ ?_;refine asQ ?_;refine s_end (hK _ ?_); clear hK K;refine AWP_seq ?_;refine AWP_reg_seq tok fun K hK => ?_;refine mvQ ?_;refine biQ ?_;refine s_end (hK _ ?_); clear hK K;refine a_cond rfl (fun h => by cases h) (fun _ => ?_);refine AWP_skip ?_;show AWP _ _ _ _ _ _;refine AWP_seq ?_
    have hlm : (g.links.map fun l => qzW (levQ g l)).length = g.links.length := List.length_map _
    refine AWP_reg_seq tok fun K hK => ?_;refine mvQ ?_;refine s_blt rfl (len_m RW.dc rfl rfl) rfl ?_;refine s_bin rfl (e_eqJ (c := decide (g.links.length = 0)) (by rw [hlm, Bool.eq_iff_iff, beq_iff_eq, decide_eq_true_eq]; omega)) rfl ?_;refine s_end (hK _ ?_); clear hK K;refine a_cond rfl (fun hd => ?_) (fun hd => ?_)
    · rw [if_pos (of_decide_eq_true hd)];refine AWP_reg_seq tok fun K hK => ?_;refine asQ ?_;refine asQ ?_;refine s_end (hK _ ?_); clear hK K;refine AWP_ret ?_
      repeat (with_reducible refine tq_ret ?_)
      exact post_ret (fin_mk (by rfl) (by rfl) (by rfl))
    have hd := of_decide_eq_false hd
    rw [if_neg hd];refine AWP_skip ?_;show AWP _ _ _ _ _ _;refine AWP_reg_seq tok fun K hK => ?_;refine asQ ?_;refine s_end (hK _ ?_); clear hK K;refine AWP_seq ?_
    have hat : ∀ i (h : i < g.links.length), (g.links.map fun l => qzW (levQ g l))[i]? = some (qzW (levN g i)) := fun i h => by
      rw [List.getElem?_eq_getElem (by rw [hlm]; exact h), levN_at h]
    have hql : ∀ i, i < g.links.length → (qzW (levN g i)).OK 65538 := fun i h => qzW_ok (levN_ql gv h)
    generalize (g.links.map fun l => qzW (levQ g l)) = LV at hlm hat ⊢;generalize levN g = q at hat hql ⊢;refine AWP_reg_seq tok fun K hK => ?_;refine mvQ ?_;refine s_blt rfl (len_m RW.dc rfl rfl) rfl ?_;refine mvQ ?_;refine s_end (hK _ ?_); clear hK K;refine AWP_block (a_loop (α := Nat) (fun i => mk 37 [(4, V1 (dRs LV)), (6, dI (dmN q i : Nat)), (20, V1 (dRs LV)), (21, dI LV.length), (22, dI i)] [] []) (fun i => i ≤ g.links.length) (fun i => g.links.length - i) 0 ?_ (Nat.zero_le _) ?_)
    · exact Wk.mk' ⟨rfl, rfl, rfl, rfl, rfl, trivial⟩ trivial
    intro i hi
    refine AWP_reg_seq tok fun K hK => ?_;refine biQ ?_;refine s_end (hK _ ?_); clear hK K;refine AWP_seq ?_;refine a_cond rfl (fun hg => ?_) (fun hg => ?_)
    · have hg : i < g.links.length := by simp at hg; omega
      have hm := dmN_lt q hi (by omega)
      have g1 : i < LV.length := by omega
      have g2 : dmN q i < LV.length := by omega
      have a1 : LV[i] = qzW (q i) := by have := hat i hg; rw [List.getElem?_eq_getElem g1] at this; exact Option.some.inj this
      have a2 : LV[dmN q i] = qzW (q (dmN q i)) := by have := hat _ hm; rw [List.getElem?_eq_getElem g2] at this; exact Option.some.inj this
      have cK := qCmp_t (qzW (q i)) (qzW (q (dmN q i))) ((hql i hg).mono rfl) ((hql _ hm).mono rfl)
      rw [qzW_v, qzW_v] at cK
      have hgt := qcmp_gt (q i) (q (dmN q i))
      have ds : dmN q (i + 1) = if q (dmN q i) < q i then i else dmN q i := rfl
      generalize qcmp (q i) (q (dmN q i)) = kk at cK hgt;rw [← a1, ← a2] at cK;refine AWP_skip ?_;show AWP _ _ _ _ _ _;refine AWP_seq ?_;refine AWP_block ?_;refine AWP_reg_seq tok fun K hK => ?_;refine mvQ ?_;refine s_indexAddr rfl (x_m RW.dc rfl rfl rfl rfl g1 rfl) rfl ?_;refine ldQ ?_;refine s_alloc rfl rfl rfl rfl rfl rfl ?_;refine asQ ?_;refine s_store rfl rfl rfl rfl rfl ?_;refine s_end (hK _ ?_); clear hK K;refine a_draw tok mixed (A := [[], [], [], [], [1, 2], [1, 2, 3], [0, 1, 2, 3, 4]]) (an := [{}, {}, {}, {}, {}, {}, {}]) rfl (by kernel_rfl) rfl fun K hK => ?_;refine ldQ ?_;refine mvQ ?_;refine mvQ ?_;refine s_indexAddr rfl (x_m RW.dc rfl rfl rfl rfl g2 rfl) rfl ?_;refine ldQ ?_;refine s_call rfl rfl (cK) rfl rfl rfl rfl ?_;refine s_bin rfl (e_gtrK hgt) rfl ?_;refine s_end (hK _ ?_); clear hK K;refine a_cond rfl (fun he => ?_) (fun he => ?_)
      · refine AWP_reg tok fun K hK => ?_;refine mvQ ?_;refine asQ ?_;refine s_end (hK _ ?_); clear hK K;show AWP _ _ _ _ _ _;refine AWP_reg tok fun K hK => ?_;refine s_bin rfl (e_add (c := ((i + 1 : Nat) : Int)) (by omega) (by omega)) rfl ?_;refine mvQ ?_;refine s_end (hK _ ?_); clear hK K;refine ⟨i + 1, by omega, hg, ?_⟩;rw [ds, if_pos (of_decide_eq_true he)];exact Wk.mk' ⟨rfl, rfl, rfl, rfl, rfl, trivial⟩ trivial
      · refine AWP_skip ?_;show AWP _ _ _ _ _ _;refine AWP_reg tok fun K hK => ?_;refine s_bin rfl (e_add (c := ((i + 1 : Nat) : Int)) (by omega) (by omega)) rfl ?_;refine mvQ ?_;refine s_end (hK _ ?_); clear hK K;refine ⟨i + 1, by omega, hg, ?_⟩;rw [ds, if_neg (of_decide_eq_false he)];exact Wk.mk' ⟨rfl, rfl, rfl, rfl, rfl, trivial⟩ trivial
    have hg : i = g.links.length := by simp at hg; omega
    subst hg
    refine AWP_exit ?_;show AWP _ _ _ _ _ _;refine AWP_reg_seq tok fun K hK => ?_;refine mvQ ?_;refine asQ ?_;refine asQ ?_;refine s_end (hK _ ?_); clear hK K;refine AWP_ret ?_
    repeat (with_reducible refine tq_ret ?_)
    exact post_ret (fin_mk (by rfl) (by rfl) (by rfl))
  · have e : allV g = ([], 1) := by rw [allV, if_neg hv]
    rw [e] at cA;rw [domV, if_neg hv];refine AWP_reg_seq tok fun K hK => ?_;refine ldQ ?_;refine s_call rfl rfl (cA) rfl rfl rfl rfl ?_;refine mvQ ?_;refine s_extract rfl rfl rfl ?_;refine s_extract rfl rfl rfl ?_;refine asQ ?_;refine asQ ?_;refine s_end (hK _ ?_); clear hK K;refine AWP_seq ?_;refine AWP_reg_seq tok fun K hK => ?_;refine mvQ ?_;refine biQ ?_;refine s_end (hK _ ?_); clear hK K;refine a_cond rfl (fun _ => ?_) (fun h => by cases h);refine AWP_reg_seq tok fun K hK => ?_;refine mvQ ?_;refine asQ ?_;refine asQ ?_;refine s_end (hK _ ?_); clear hK K;refine AWP_ret ?_
    repeat (with_reducible refine tq_ret ?_)
    exact post_ret (fin_mk (by rfl) (by rfl) (by rfl))

set_option maxHeartbeats 1000000 in
theorem rLev_c (g : GR) (k : Int) (hm : g.links.length ≤ 9223372036854775806) : Con Tryz.prog 10 [AG g.cs, dI k] { v := .tup [.agg (levV g k).1.cs, .one (.d (lI (levV g k).2))] } := by
  refine con_intro (fn := Tryz.f10) tok Tryz.func10 (by kernel_rfl) rfl ?_
  intro w0 X
  rw [entry_mkE _ _ [(0, AG g.cs), (1, dI k)] rfl rfl];refine AWP_reg_seq tok fun K hK => ?_;refine s_box rfl rfl rfl rfl rfl rfl ?_;refine s_alloc rfl rfl rfl rfl rfl rfl ?_;refine asQ ?_;refine s_end (hK _ ?_); clear hK K;refine AWP_seq ?_;refine AWP_reg_seq tok fun K hK => ?_;refine ldQ ?_;refine s_call rfl rfl (r28Valid_c g hm) rfl rfl rfl rfl ?_;refine s_un rfl rfl rfl ?_;refine s_end (hK _ ?_); clear hK K;refine a_cond rfl (fun hc => ?_) (fun hc => ?_)
  · rw [Bool.not_eq_true'] at hc
    have e : levV g k = (rw00, 1) := by rw [levV, if_neg (by rw [hc]; simp)]
    rw [e];refine AWP_reg_seq tok fun K hK => ?_;refine s_build rfl rfl rfl ?_;refine s_store rfl rfl rfl rfl rfl ?_;refine asQ ?_;refine s_end (hK _ ?_); clear hK K;refine AWP_ret ?_
    repeat (with_reducible refine tq_ret ?_)
    exact post_ret (fin_mk (by rfl) (by rfl) (by rfl))
  rw [Bool.not_eq_false'] at hc
  have gv := validB_iff.1 hc
  rw [levV, if_pos hc];refine AWP_skip ?_;show AWP _ _ _ _ _ _;refine AWP_seq ?_;refine a_join (α := Bool) (fun c => mk 48 [(1, dI k), (2, .ptr 2 0), (4, .ptr 4 0), (20, dB c)] [(2, some (.box g.cs)), (4, some box0)] []) (fun c => c = !decide (0 ≤ k ∧ k < (g.links.length : Int))) ?_ ?_
  · refine AWP_regW fun K hK => ?_;refine w_step tok rfl ?_;refine mvQ ?_;refine s_end ?_;refine w_step tok rfl ?_;refine biQ ?_;refine s_end ?_;refine w_step tok rfl ?_;refine mvQ ?_;refine s_end ?_;refine w_split (fun h0 => ?_) (fun h0 => ?_)
    · refine w_skip rfl rfl ?_;refine w_skip rfl rfl ?_;refine w_skip rfl rfl ?_;refine w_skip rfl rfl ?_;refine w_skip rfl rfl ?_;refine w_step tok rfl ?_;refine piQ ?_;refine s_end ?_;refine w_end rfl (hK _ ?_); clear hK K;exact ⟨_, (by simp only [decide_eq_true_eq, decide_eq_false_iff_not, Int.not_lt, ge_iff_le, Int.not_le] at h0; rw [Bool.eq_iff_iff]; simp only [Bool.not_eq_true', decide_eq_false_iff_not, decide_eq_true_eq, true_iff, ge_iff_le]; omega), Wk.mk' ⟨rfl, rfl, rfl, rfl, trivial⟩ ⟨rfl, rfl, trivial⟩⟩
    · refine w_step tok rfl ?_;refine mvQ ?_;refine s_end ?_;refine w_step tok rfl ?_;refine faQ ?_;refine s_end ?_;refine w_step tok rfl ?_;refine ldQ ?_;refine s_end ?_;refine w_step tok rfl ?_;refine s_blt rfl (len_m LK.dc rfl rfl) rfl ?_;refine s_end ?_;refine w_step tok rfl ?_;refine biQ ?_;refine s_end ?_;refine w_step tok rfl ?_;refine piQ ?_;refine s_end ?_;refine w_end rfl (hK _ ?_); clear hK K;exact ⟨_, (by simp only [decide_eq_true_eq, decide_eq_false_iff_not, Int.not_lt, ge_iff_le, Int.not_le] at h0; rw [Bool.eq_iff_iff]; simp only [Bool.not_eq_true', decide_eq_false_iff_not, decide_eq_true_eq, true_iff, ge_iff_le]; omega), Wk.mk' ⟨rfl, rfl, rfl, rfl, trivial⟩ ⟨rfl, rfl, trivial⟩⟩
  rintro c rfl
  refine a_cond rfl (fun hd => ?_) (fun hd => ?_)
  · rw [Bool.not_eq_true'] at hd;rw [dif_neg (of_decide_eq_false hd)];refine AWP_reg_seq tok fun K hK => ?_;refine s_build rfl rfl rfl ?_;refine s_store rfl rfl rfl rfl rfl ?_;refine asQ ?_;refine s_end (hK _ ?_); clear hK K;refine AWP_ret ?_
    repeat (with_reducible refine tq_ret ?_)
    exact post_ret (fin_mk (by rfl) (by rfl) (by rfl))
  rw [Bool.not_eq_false'] at hd
  have hd := of_decide_eq_true hd
  rw [dif_pos hd]
  obtain ⟨a, rfl⟩ : ∃ a : Nat, k = a := ⟨k.toNat, by omega⟩
  have ha : a < g.links.length := by omega
  simp only [Int.toNat_natCast]
  obtain ⟨l, el⟩ : ∃ l, l = g.links[a] := ⟨_, rfl⟩
  have hml : l ∈ g.links := el ▸ List.getElem_mem ha
  have lv := gLV gv l hml
  obtain ⟨p, q, hp, hq, e1, e2, hne⟩ := lv.lt
  have hlb : lab g p = lab g q := by
    have := lab_link gv (x := wlk l) (List.mem_map.2 ⟨l, hml, rfl⟩)
    have a1 : (wlk l).f = p := by show l.f.toNat = p; omega
    have a2 : (wlk l).t = q := by show l.t.toNat = q; omega
    rwa [a1, a2] at this
  have cr := rResist_c g l.f l.t hm
  have er : refR g l.f l.t = (qzW (resQ g p q), 0) := by
    rw [refR_eq, resistV, if_pos hc, if_pos ⟨by omega, by omega, by omega, by omega⟩, rstV, e1, e2, Int.toNat_natCast, Int.toNat_natCast, if_pos hlb]
  rw [er] at cr
  have co := r2OfI_c l.w lv.iw
  have qr := resQ_ql gv hp hq hlb
  have cm := r2Mul_r (qzW ((l.w : Int) : Rat)) (qzW (resQ g p q)) (levQ g l) ((qzW_ok (ql_i64 lv.iw)).mono rfl) ((qzW_ok qr).mono rfl) (by
    rw [qzW_v, qzW_v]; unfold levQ
    rw [e1, e2, Int.toNat_natCast, Int.toNat_natCast])
  rw [← el];rw [el] at cr co;refine AWP_skip ?_;show AWP _ _ _ _ _ _;refine a_draw tok mixed (A := [[], [], [], [], [1], [1, 2, 3], [1, 2, 3, 4], [], [], [], [7], [7, 8, 9], [7, 8, 9, 10], [1, 2, 3, 4, 5, 7, 8, 9, 10, 11], [0, 1, 2, 3, 4, 5, 6, 7, 8, 9, 10, 11, 12], [0, 1, 2, 3, 4, 5, 6, 7, 8, 9, 10, 11, 12, 13], [0, 1, 2, 3, 4, 5, 6, 7, 8, 9, 10, 11, 12, 13], [], [], []]) (an := [{}, {}, {}, {}, {}, {}, {}, {}, {}, {}, {}, {}, {}, {}, {}, {}, {}, { c := [36] }, {}, {}]) rfl (by kernel_rfl) rfl fun K hK => ?_;refine ldQ ?_;refine faQ ?_;refine ldQ ?_;refine mvQ ?_;refine s_indexAddr rfl (x_m LK.dc rfl rfl rfl rfl ha rfl) rfl ?_;refine faQ ?_;refine ldQ ?_;refine faQ ?_;refine ldQ ?_;refine mvQ ?_;refine s_indexAddr rfl (x_m LK.dc rfl rfl rfl rfl ha rfl) rfl ?_;refine faQ ?_;refine ldQ ?_;refine s_call rfl rfl (cr) rfl rfl rfl rfl ?_;refine mvQ ?_;refine s_extract rfl rfl rfl ?_;refine s_extract rfl rfl rfl ?_;refine s_alloc rfl rfl rfl rfl rfl rfl ?_;refine s_store rfl rfl rfl rfl rfl ?_;refine asQ ?_;refine s_end (hK _ ?_); clear hK K;refine a_draw tok mixed (A := [[], [], [], [0], [0, 1, 2], [0, 1, 2, 3], [0, 1, 2, 3, 4], [], [0, 1, 2, 3, 4, 5], [], []]) (an := [{}, {}, {}, {}, {}, {}, {}, { c := [45] }, {}, {}, {}]) rfl (by kernel_rfl) rfl fun K hK => ?_;refine faQ ?_;refine ldQ ?_;refine mvQ ?_;refine s_indexAddr rfl (x_m LK.dc rfl rfl rfl rfl ha rfl) rfl ?_;refine faQ ?_;refine ldQ ?_;refine s_call rfl rfl (co) rfl rfl rfl rfl ?_;refine ldQ ?_;refine s_call rfl rfl ((by rw [← el]; exact cm)) rfl rfl rfl rfl ?_;refine s_store rfl rfl rfl rfl rfl ?_;refine asQ ?_;refine s_end (hK _ ?_); clear hK K;refine AWP_ret ?_
  repeat (with_reducible refine tq_ret ?_)
  exact post_ret (fin_mk (by rfl) (by rfl) (by rfl))

theorem rAll_c (g : GR) (hm : g.links.length ≤ 9223372036854775806) : Con Tryz.prog 11 [AG g.cs] { v := .tup [.one (.d (dRs (allV g).1)), .one (.d (lI (allV g).2))] } := by
  refine con_intro (fn := Tryz.f11) tok Tryz.func11 (by kernel_rfl) rfl ?_
  intro w0 X
  rw [entry_mkE _ _ [(0, AG g.cs)] rfl rfl];refine AWP_reg_seq tok fun K hK => ?_;refine s_box rfl rfl rfl rfl rfl rfl ?_;refine asQ ?_;refine asQ ?_;refine s_end (hK _ ?_); clear hK K;refine AWP_seq ?_;refine AWP_reg_seq tok fun K hK => ?_;refine ldQ ?_;refine s_call rfl rfl (r28Valid_c g hm) rfl rfl rfl rfl ?_;refine s_un rfl rfl rfl ?_;refine s_end (hK _ ?_); clear hK K;refine a_cond rfl (fun hc => ?_) (fun hc => ?_)
  · rw [Bool.not_eq_true'] at hc
    have e : allV g = ([], 1) := by rw [allV, if_neg (by rw [hc]; simp)]
    rw [e];refine AWP_reg_seq tok fun K hK => ?_;refine asQ ?_;refine asQ ?_;refine s_end (hK _ ?_); clear hK K;refine AWP_ret ?_
    repeat (with_reducible refine tq_ret ?_)
    exact post_ret (fin_mk (by rfl) (by rfl) (by rfl))
  rw [Bool.not_eq_false'] at hc
  have gv := validB_iff.1 hc
  have l48 := gv.l
  rw [allV, if_pos hc];refine AWP_skip ?_;show AWP _ _ _ _ _ _;refine AWP_reg_seq tok fun K hK => ?_;refine asQ ?_;refine s_end (hK _ ?_); clear hK K;refine AWP_seq ?_;refine AWP_reg_seq tok fun K hK => ?_;refine asQ ?_;refine s_end (hK _ ?_); clear hK K;refine AWP_block (a_loop (α := Nat) (fun i => mk 29 [(1, .ptr 1 0), (4, ownN 200 4 i), (5, dI i)] [(1, some (.box g.cs)), (200, arrN 4 (allE g i) i)] []) (fun i => i ≤ g.links.length) (fun i => g.links.length - i) 0 ?_ (Nat.zero_le _) ?_)
  · exact Wk.mk' ⟨rfl, rfl, rfl, trivial⟩ ⟨rfl, rfl, trivial⟩
  intro i hi
  refine AWP_seq ?_;refine AWP_reg_seq tok fun K hK => ?_;refine mvQ ?_;refine faQ ?_;refine ldQ ?_;refine s_blt rfl (len_m LK.dc rfl rfl) rfl ?_;refine biQ ?_;refine s_end (hK _ ?_); clear hK K;refine a_cond rfl (fun hg => ?_) (fun hg => ?_)
  · have hg : i < g.links.length := by simp at hg; omega
    have cv := rLev_c g (i : Int) hm
    have ev : levV g (i : Int) = (qzW (levQ g g.links[i]), 0) := by
      rw [levV, if_pos hc, dif_pos (by omega)];simp only [Int.toNat_natCast]
    rw [ev] at cv
    have n1 : allE g i ++ [(qzW (levQ g g.links[i])).dc] = allE g (i + 1) := by
      unfold allE; rw [List.take_succ_eq_append_getElem hg, List.map_append, List.map_append]; rfl
    have z1 : (allE g i).length = i := by unfold allE; simp; omega
    generalize allE g i = es at n1 z1 ⊢;refine AWP_skip ?_;show AWP _ _ _ _ _ _;refine AWP_seq ?_;refine AWP_block ?_
    rcases i with _ | i
    · refine AWP_reg_seq tok fun K hK => ?_;refine ldQ ?_;refine mvQ ?_;refine s_call rfl rfl (cv) rfl rfl rfl rfl ?_;refine mvQ ?_;refine s_extract rfl rfl rfl ?_;refine s_extract rfl rfl rfl ?_;refine s_alloc rfl rfl rfl rfl rfl rfl ?_;refine s_store rfl rfl rfl rfl rfl ?_;refine asQ ?_;refine s_end (hK _ ?_); clear hK K;refine AWP_reg tok fun K hK => ?_;refine mvQ ?_;refine ldQ ?_;refine s_buildSlice rfl rfl rfl rfl ?_;refine s_append rfl (ap_nil rfl rfl rfl rfl rfl (by decide) (Nat.le_of_ble_eq_true rfl) rfl (by simp) rfl (by simp) (by simp)) rfl rfl rfl ?_;refine asQ ?_;refine s_end (hK _ ?_); clear hK K;show AWP _ _ _ _ _ _;refine AWP_reg tok fun K hK => ?_;refine mvQ ?_;refine s_bin rfl (e_add (c := ((0 + 1 : Nat) : Int)) (by omega) (by omega)) rfl ?_;refine asQ ?_;refine s_end (hK _ ?_); clear hK K;refine ⟨0 + 1, by omega, hg, Wk.rn [1, 4, 5] [1, 27] 27 200 rfl rfl rfl ⟨rfl, ?_, rfl, trivial⟩ ⟨rfl, ?_, trivial⟩⟩
      · first
          | rfl
          | (show SV.val (.one (.own 200 4 0 _)) = _
             rw [List.length_append, z1]; rfl)
      · first
          | (rw [← n1, List.length_eq_zero_iff.1 z1]; rfl)
          | (rw [← n1]; rfl)
    · refine AWP_reg_seq tok fun K hK => ?_;refine ldQ ?_;refine mvQ ?_;refine s_call rfl rfl (cv) rfl rfl rfl rfl ?_;refine mvQ ?_;refine s_extract rfl rfl rfl ?_;refine s_extract rfl rfl rfl ?_;refine s_alloc rfl rfl rfl rfl rfl rfl ?_;refine s_store rfl rfl rfl rfl rfl ?_;refine asQ ?_;refine s_end (hK _ ?_); clear hK K;refine AWP_reg tok fun K hK => ?_;refine mvQ ?_;refine ldQ ?_;refine s_buildSlice rfl rfl rfl rfl ?_;refine s_append rfl (ap_o rfl rfl rfl rfl rfl rfl (by decide) (Nat.le_of_ble_eq_true rfl) rfl (by simp) rfl rfl z1.symm (by simp <;> omega)) rfl rfl rfl ?_;refine asQ ?_;refine s_end (hK _ ?_); clear hK K;show AWP _ _ _ _ _ _;refine AWP_reg tok fun K hK => ?_;refine mvQ ?_;refine s_bin rfl (e_add (c := ((i + 1 + 1 : Nat) : Int)) (by omega) (by omega)) rfl ?_;refine asQ ?_;refine s_end (hK _ ?_); clear hK K;refine ⟨i + 1 + 1, by omega, hg, Wk.rn [1, 4, 5] [1, 27] 27 200 rfl rfl rfl ⟨rfl, ?_, rfl, trivial⟩ ⟨rfl, ?_, trivial⟩⟩
      · first
          | rfl
          | (show SV.val (.one (.own 200 4 0 _)) = _
             rw [List.length_append, z1]; rfl)
      · first
          | (rw [← n1, List.length_eq_zero_iff.1 z1]; rfl)
          | (rw [← n1]; rfl)
  have hg : i = g.links.length := by simp at hg; omega
  refine AWP_exit ?_;show AWP _ _ _ _ _ _
  have ea : allE g i = ((g.links.map fun l => qzW (levQ g l)).map RW.dc) := by unfold allE; rw [hg, List.take_length]
  have el : i = (g.links.map fun l => qzW (levQ g l)).length := by rw [List.length_map]; exact hg
  rw [ea];generalize (g.links.map fun l => qzW (levQ g l)) = L at el ⊢
  rcases i with _ | i
  · have : L = [] := List.length_eq_zero_iff.1 el.symm
    subst this
    refine AWP_reg_seq tok fun K hK => ?_;refine mvQ ?_;refine asQ ?_;refine asQ ?_;refine s_end (hK _ ?_); clear hK K;refine AWP_ret ?_
    repeat (with_reducible refine tq_ret ?_)
    exact post_ret (fin_mk (by rfl) (by rfl) (by rfl))
  · refine a_fz [4] [200] 200 [(4, V1 (dRs L))] [] rfl ?_ trivial ?_
    · exact ⟨frz_own rfl (by rw [List.length_map]; exact el), trivial⟩
    refine AWP_reg_seq tok fun K hK => ?_;refine mvQ ?_;refine asQ ?_;refine asQ ?_;refine s_end (hK _ ?_); clear hK K;refine AWP_ret ?_
    repeat (with_reducible refine tq_ret ?_)
    exact post_ret (fin_mk (by rfl) (by rfl) (by rfl))

theorem r2CmpS_t (a b : RW) (ha : a.OK 1048576) (hb : b.OK 1048576) : Con Tryz.prog 34 [AG a.cs, AG b.cs] { v := dI (a.v - b.v).num.sign } := by
  have c1 := r2Sub_r a b _ (ha.mono rfl) (hb.mono rfl) rfl
  have h1 := ql_sub_le (ha.ql rfl) (hb.ql rfl)
  have c2 := r2SignZ_c (a.v - b.v) (le_d h1 rfl)
  refine con_intro (fn := Tryz.f34) tok Tryz.func34 (by kernel_rfl) rfl ?_
  intro w0 X
  rw [entry_mkE _ _ [(0, AG a.cs), (1, AG b.cs)] rfl rfl];refine AWP_reg_seq tok fun K hK => ?_;refine s_box rfl rfl rfl rfl rfl rfl ?_;refine s_box rfl rfl rfl rfl rfl rfl ?_;refine asQ ?_;refine s_end (hK _ ?_); clear hK K;refine AWP_reg_seq tok fun K hK => ?_;refine ldQ ?_;refine ldQ ?_;refine s_call rfl rfl (c1) rfl rfl rfl rfl ?_;refine s_call rfl rfl (c2) rfl rfl rfl rfl ?_;refine asQ ?_;refine s_end (hK _ ?_); clear hK K;refine AWP_ret ?_
  repeat (with_reducible refine tq_ret ?_)
  exact post_ret (fin_mk (by rfl) (by rfl) (by rfl))

set_option maxHeartbeats 1000000 in
theorem rDom_c (g : GR) (hm : g.links.length ≤ 9223372036854775806) : Con Tryz.prog 12 [AG g.cs] { v := .tup [.one (.d (lI (domV g).1)), .one (.d (lI (domV g).2))] } := by
  have cA := rAll_c g hm
  refine con_intro (fn := Tryz.f12) tok Tryz.func12 (by kernel_rfl) rfl ?_
  intro w0 X
  rw [entry_mkE _ _ [(0, AG g.cs)] rfl rfl];refine AWP_reg_seq tok fun K hK => ?_;refine s_box rfl rfl rfl rfl rfl rfl ?_;refine asQ ?_;refine asQ ?_;refine s_end (hK _ ?_); clear hK K
  by_cases hv : validB g = true
  · have gv := validB_iff.1 hv
    have l48 := gv.l
    rw [allV, if_pos hv] at cA;rw [domV, if_pos hv];refine AWP_reg_seq tok fun K hK => ?_;refine ldQ ?_;refine s_call rfl rfl (cA) rfl rfl rfl rfl ?_;refine mvQ ?_;refine s_extract rfl rfl rfl ?_;refine s_extract rfl rfl rfl ?_;refine asQ ?_;refine asQ ?_;refine s_end (hK _ ?_); clear hK K;refine AWP_seq ?_;refine AWP_reg_seq tok fun K hK => ?_;refine mvQ ?_;refine biQ ?_;refine s_end (hK _ ?_); clear hK K;refine a_cond rfl (fun h => by cases h) (fun _ => ?_);refine AWP_skip ?_;show AWP _ _ _ _ _ _;refine AWP_seq ?_
    have hlm : (g.links.map fun l => qzW (levQ g l)).length = g.links.length := List.length_map _
    refine AWP_reg_seq tok fun K hK => ?_;refine mvQ ?_;refine s_blt rfl (len_m RW.dc rfl rfl) rfl ?_;refine s_bin rfl (e_eqJ (c := decide (g.links.length = 0)) (by rw [hlm, Bool.eq_iff_iff, beq_iff_eq, decide_eq_true_eq]; omega)) rfl ?_;refine s_end (hK _ ?_); clear hK K;refine a_cond rfl (fun hd => ?_) (fun hd => ?_)
    · rw [if_pos (of_decide_eq_true hd)];refine AWP_reg_seq tok fun K hK => ?_;refine asQ ?_;refine asQ ?_;refine s_end (hK _ ?_); clear hK K;refine AWP_ret ?_
      repeat (with_reducible refine tq_ret ?_)
      exact post_ret (fin_mk (by rfl) (by rfl) (by rfl))
    have hd := of_decide_eq_false hd
    rw [if_neg hd];refine AWP_skip ?_;show AWP _ _ _ _ _ _;refine AWP_reg_seq tok fun K hK => ?_;refine asQ ?_;refine s_end (hK _ ?_); clear hK K;refine AWP_seq ?_
    have hat : ∀ i (h : i < g.links.length), (g.links.map fun l => qzW (levQ g l))[i]? = some (qzW (levN g i)) := fun i h => by
      rw [List.getElem?_eq_getElem (by rw [hlm]; exact h), levN_at h]
    have hql : ∀ i, i < g.links.length → (qzW (levN g i)).OK 65538 := fun i h => qzW_ok (levN_ql gv h)
    generalize (g.links.map fun l => qzW (levQ g l)) = LV at hlm hat ⊢;generalize levN g = q at hat hql ⊢;refine AWP_reg_seq tok fun K hK => ?_;refine asQ ?_;refine s_end (hK _ ?_); clear hK K;refine AWP_block (a_loop (α := Nat) (fun i => mk 37 [(4, V1 (dRs LV)), (6, dI (dmN q i : Nat)), (7, dI i)] [] []) (fun i => 1 ≤ i ∧ i ≤ g.links.length) (fun i => g.links.length - i) 1 ?_ ⟨Nat.le_refl _, by omega⟩ ?_)
    · have e1 : dmN q 1 = 0 := by show (if q (dmN q 0) < q 0 then 0 else dmN q 0) = 0; split <;> rfl
      rw [e1];exact Wk.mk' ⟨rfl, rfl, rfl, trivial⟩ trivial
    rintro i ⟨hi1, hi⟩
    refine AWP_seq ?_;refine AWP_reg_seq tok fun K hK => ?_;refine mvQ ?_;refine mvQ ?_;refine s_blt rfl (len_m RW.dc rfl rfl) rfl ?_;refine biQ ?_;refine s_end (hK _ ?_); clear hK K;refine a_cond rfl (fun hg => ?_) (fun hg => ?_)
    · have hg : i < g.links.length := by simp at hg; omega
      have hm := dmN_lt q hi (by omega)
      have g1 : i < LV.length := by omega
      have g2 : dmN q i < LV.length := by omega
      have a1 : LV[i] = qzW (q i) := by have := hat i hg; rw [List.getElem?_eq_getElem g1] at this; exact Option.some.inj this
      have a2 : LV[dmN q i] = qzW (q (dmN q i)) := by have := hat _ hm; rw [List.getElem?_eq_getElem g2] at this; exact Option.some.inj this
      have cK := r2CmpS_t (qzW (q i)) (qzW (q (dmN q i))) ((hql i hg).mono rfl) ((hql _ hm).mono rfl)
      rw [qzW_v, qzW_v] at cK
      have hgt := sgn_gt (q i) (q (dmN q i))
      have ds : dmN q (i + 1) = if q (dmN q i) < q i then i else dmN q i := rfl
      generalize (q i - q (dmN q i)).num.sign = kk at cK hgt;rw [← a1, ← a2] at cK;refine AWP_skip ?_;show AWP _ _ _ _ _ _;refine AWP_seq ?_;refine AWP_block ?_;refine a_draw tok mixed (A := [[], [], [], [0, 1], [], [], [], [4, 5], [0, 1, 2, 4, 5, 6], [0, 1, 2, 3, 4, 5, 6, 7]]) (an := [{}, {}, {}, {}, {}, {}, {}, {}, {}, {}]) rfl (by kernel_rfl) rfl fun K hK => ?_;refine mvQ ?_;refine mvQ ?_;refine s_indexAddr rfl (x_m RW.dc rfl rfl rfl rfl g1 rfl) rfl ?_;refine ldQ ?_;refine mvQ ?_;refine mvQ ?_;refine s_indexAddr rfl (x_m RW.dc rfl rfl rfl rfl g2 rfl) rfl ?_;refine ldQ ?_;refine s_call rfl rfl (cK) rfl rfl rfl rfl ?_;refine s_bin rfl (e_gtrK hgt) rfl ?_;refine s_end (hK _ ?_); clear hK K;refine a_cond rfl (fun he => ?_) (fun he => ?_)
      · refine AWP_reg tok fun K hK => ?_;refine mvQ ?_;refine asQ ?_;refine s_end (hK _ ?_); clear hK K;show AWP _ _ _ _ _ _;refine AWP_reg tok fun K hK => ?_;refine mvQ ?_;refine s_bin rfl (e_add (c := ((i + 1 : Nat) : Int)) (by omega) (by omega)) rfl ?_;refine asQ ?_;refine s_end (hK _ ?_); clear hK K;refine ⟨i + 1, by omega, ⟨by omega, hg⟩, ?_⟩;rw [ds, if_pos (of_decide_eq_true he)];exact Wk.mk' ⟨rfl, rfl, rfl, trivial⟩ trivial
      · refine AWP_skip ?_;show AWP _ _ _ _ _ _;refine AWP_reg tok fun K hK => ?_;refine mvQ ?_;refine s_bin rfl (e_add (c := ((i + 1 : Nat) : Int)) (by omega) (by omega)) rfl ?_;refine asQ ?_;refine s_end (hK _ ?_); clear hK K;refine ⟨i + 1, by omega, ⟨by omega, hg⟩, ?_⟩;rw [ds, if_neg (of_decide_eq_false he)];exact Wk.mk' ⟨rfl, rfl, rfl, trivial⟩ trivial
    have hg : i = g.links.length := by simp at hg; omega
    subst hg
    refine AWP_exit ?_;show AWP _ _ _ _ _ _;refine AWP_reg_seq tok fun K hK => ?_;refine mvQ ?_;refine asQ ?_;refine asQ ?_;refine s_end (hK _ ?_); clear hK K;refine AWP_ret ?_
    repeat (with_reducible refine tq_ret ?_)
    exact post_ret (fin_mk (by rfl) (by rfl) (by rfl))
  · have e : allV g = ([], 1) := by rw [allV, if_neg hv]
    rw [e] at cA;rw [domV, if_neg hv];refine AWP_reg_seq tok fun K hK => ?_;refine ldQ ?_;refine s_call rfl rfl (cA) rfl rfl rfl rfl ?_;refine mvQ ?_;refine s_extract rfl rfl rfl ?_;refine s_extract rfl rfl rfl ?_;refine asQ ?_;refine asQ ?_;refine s_end (hK _ ?_); clear hK K;refine AWP_seq ?_;refine AWP_reg_seq tok fun K hK => ?_;refine mvQ ?_;refine biQ ?_;refine s_end (hK _ ?_); clear hK K;refine a_cond rfl (fun _ => ?_) (fun h => by cases h);refine AWP_reg_seq tok fun K hK => ?_;refine mvQ ?_;refine asQ ?_;refine asQ ?_;refine s_end (hK _ ?_); clear hK K;refine AWP_ret ?_
    repeat (with_reducible refine tq_ret ?_)
    exact post_ret (fin_mk (by rfl) (by rfl) (by rfl))

set_option maxHeartbeats 1000000 in
theorem lLinks_c (g : GR) (k : Int) : Con Tryz.prog 3 [AG g.cs, dI k] { v := dB true } := by
  refine con_intro (fn := Tryz.f3) tok Tryz.func3 (by kernel_rfl) rfl ?_
  intro w0 X
  rw [entry_mkE _ _ [(0, AG g.cs), (1, dI k)] rfl rfl];refine AWP_reg_seq tok fun K hK => ?_;refine s_box rfl rfl rfl rfl rfl rfl ?_;refine asQ ?_;refine s_end (hK _ ?_); clear hK K;refine AWP_seq ?_;refine a_join (α := Bool) (fun c => mk 85 [(1, dI k), (2, .ptr 2 0), (23, dB c)] [(2, some (.box g.cs))] []) (fun c => c = !fewL g) ?_ ?_
  · refine AWP_regW fun K hK => ?_;refine w_step tok rfl ?_;refine s_call rfl rfl (awake_c) rfl rfl rfl rfl ?_;refine s_end ?_;refine w_step tok rfl ?_;refine s_un rfl rfl rfl ?_;refine s_end ?_;refine w_step tok rfl ?_;refine mvQ ?_;refine s_end ?_;refine w_split (fun h0 => ?_) (fun h0 => ?_)
    · refine w_skip rfl rfl ?_;refine w_skip rfl rfl ?_;refine w_skip rfl rfl ?_;refine w_step tok rfl ?_;refine piQ ?_;refine s_end ?_;refine w_end rfl (hK _ ?_); clear hK K
      first|(exact absurd h0 (by decide))|exact ⟨_, (by simp only [Bool.not_eq_true', Bool.not_eq_false'] at h0; simp only [h0, Bool.not_false, Bool.not_true]), Wk.mk' ⟨rfl, rfl, rfl, trivial⟩ ⟨rfl, trivial⟩⟩
    · refine w_step tok rfl ?_;refine ldQ ?_;refine s_end ?_;refine w_step tok rfl ?_;refine s_call rfl rfl (rFew_c g) rfl rfl rfl rfl ?_;refine s_end ?_;refine w_step tok rfl ?_;refine s_un rfl rfl rfl ?_;refine s_end ?_;refine w_step tok rfl ?_;refine piQ ?_;refine s_end ?_;refine w_end rfl (hK _ ?_); clear hK K
      first|(exact absurd h0 (by decide))|exact ⟨_, (by simp only [Bool.not_eq_true', Bool.not_eq_false'] at h0; simp only [h0, Bool.not_false, Bool.not_true]), Wk.mk' ⟨rfl, rfl, rfl, trivial⟩ ⟨rfl, trivial⟩⟩
  rintro c rfl
  refine a_cond rfl (fun hc => ?_) (fun hc => ?_)
  · refine AWP_reg_seq tok fun K hK => ?_;refine s_call rfl rfl (awake_c) rfl rfl rfl rfl ?_;refine asQ ?_;refine s_end (hK _ ?_); clear hK K;refine AWP_ret ?_
    repeat (with_reducible refine tq_ret ?_)
    exact post_ret (fin_mk (by rfl) (by rfl) (by rfl))
  rw [Bool.not_eq_false'] at hc
  have h11 : g.links.length ≤ 11 := (of_decide_eq_true hc).2.1
  have c1 := gLev_c g k
  have c2 := gAll_c g
  have c3 := gDom_c g
  have c4 := rLev_c g k (by omega)
  have c5 := rAll_c g (by omega)
  have c6 := rDom_c g (by omega)
  have c7 : Con Tryz.prog 13 [AG (levV g k).1.cs, AG (levV g k).1.cs] { v := dB true } := rat_same _ (by
    unfold levV
    split
    · rename_i hv
      split
      · rename_i h
        have := qzW_ok (levQ_ql (validB_iff.1 hv) (List.getElem_mem (l := g.links) (n := k.toNat) (by omega)))
        exact ⟨Nat.le_trans this.lp (by decide), Nat.le_trans this.lq (by decide)⟩
      · exact ⟨Nat.zero_le _, Nat.zero_le _⟩
    · exact ⟨Nat.zero_le _, Nat.zero_le _⟩)
  have c8 : Con Tryz.prog 14 [V1 (dRs (allV g).1), V1 (dRs (allV g).1)] { v := dB true } := by
    refine rats_same _ ?_ ?_
    · unfold allV; split
      · rw [List.length_map]; omega
      · exact Nat.zero_le _
    · unfold allV; split
      · rename_i hv
        intro r hr
        obtain ⟨l, hl, rfl⟩ := List.mem_map.1 hr
        have := qzW_ok (levQ_ql (validB_iff.1 hv) hl)
        exact ⟨Nat.le_trans this.lp (by decide), Nat.le_trans this.lq (by decide)⟩
      · intro r hr; cases hr
  generalize levV g k = lv at c1 c4 c7;generalize allV g = av at c2 c5 c8;generalize domV g = dv at c3 c6
  obtain ⟨lv, e1⟩ := lv
  obtain ⟨av, e2⟩ := av
  obtain ⟨dv, e3⟩ := dv
  refine AWP_skip ?_;show AWP _ _ _ _ _ _;refine AWP_reg_seq tok fun K hK => ?_;refine ldQ ?_;refine mvQ ?_;refine s_call rfl rfl (c1) rfl rfl rfl rfl ?_;refine mvQ ?_;refine s_extract rfl rfl rfl ?_;refine s_extract rfl rfl rfl ?_;refine s_alloc rfl rfl rfl rfl rfl rfl ?_;refine s_store rfl rfl rfl rfl rfl ?_;refine asQ ?_;refine s_end (hK _ ?_); clear hK K;refine AWP_reg_seq tok fun K hK => ?_;refine ldQ ?_;refine s_call rfl rfl (c2) rfl rfl rfl rfl ?_;refine mvQ ?_;refine s_extract rfl rfl rfl ?_;refine s_extract rfl rfl rfl ?_;refine asQ ?_;refine asQ ?_;refine s_end (hK _ ?_); clear hK K;refine AWP_reg_seq tok fun K hK => ?_;refine ldQ ?_;refine s_call rfl rfl (c3) rfl rfl rfl rfl ?_;refine mvQ ?_;refine s_extract rfl rfl rfl ?_;refine s_extract rfl rfl rfl ?_;refine asQ ?_;refine asQ ?_;refine s_end (hK _ ?_); clear hK K;refine AWP_reg_seq tok fun K hK => ?_;refine ldQ ?_;refine mvQ ?_;refine s_call rfl rfl (c4) rfl rfl rfl rfl ?_;refine mvQ ?_;refine s_extract rfl rfl rfl ?_;refine s_extract rfl rfl rfl ?_;refine s_alloc rfl rfl rfl rfl rfl rfl ?_;refine s_store rfl rfl rfl rfl rfl ?_;refine asQ ?_;refine s_end (hK _ ?_); clear hK K;refine AWP_reg_seq tok fun K hK => ?_;refine ldQ ?_;refine s_call rfl rfl (c5) rfl rfl rfl rfl ?_;refine mvQ ?_;refine s_extract rfl rfl rfl ?_;refine s_extract rfl rfl rfl ?_;refine asQ ?_;refine asQ ?_;refine s_end (hK _ ?_); clear hK K;refine AWP_reg_seq tok fun K hK => ?_;refine ldQ ?_;refine s_call rfl rfl (c6) rfl rfl rfl rfl ?_;refine mvQ ?_;refine s_extract rfl rfl rfl ?_;refine s_extract rfl rfl rfl ?_;refine asQ ?_;refine asQ ?_;refine s_end (hK _ ?_); clear hK K;refine AWP_reg_seq tok fun K hK => ?_;refine mvQ ?_;refine mvQ ?_;refine s_bin rfl (e_eqI rfl) rfl ?_;refine mvQ ?_;refine mvQ ?_;refine mvQ ?_;refine s_bin rfl (e_eqI rfl) rfl ?_;refine piQ ?_;refine mvQ ?_;refine mvQ ?_;refine mvQ ?_;refine s_bin rfl (e_eqI rfl) rfl ?_;refine piQ ?_;refine mvQ ?_;refine ldQ ?_;refine ldQ ?_;refine s_call rfl rfl (c7) rfl rfl rfl rfl ?_;refine piQ ?_;refine mvQ ?_;refine mvQ ?_;refine mvQ ?_;refine s_call rfl rfl (c8) rfl rfl rfl rfl ?_;refine piQ ?_;refine mvQ ?_;refine mvQ ?_;refine mvQ ?_;refine s_bin rfl (e_eqI rfl) rfl ?_;refine piQ ?_;refine asQ ?_;refine s_end (hK _ ?_); clear hK K;refine AWP_ret ?_
  repeat (with_reducible refine tq_ret ?_)
  exact post_ret (fin_mk (by rfl) (by rfl) (by rfl))
end Go.Proofs.YtgopibpkgmafiaaGreat
