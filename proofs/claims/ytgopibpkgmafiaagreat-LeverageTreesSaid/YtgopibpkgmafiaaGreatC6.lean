/- Part of a proof that a Go function answers true for every input. No condition. -/
import Derived.Test.YtgopibpkgmafiaaGreatC5
set_option linter.unusedVariables false
set_option linter.unusedSimpArgs false
set_option linter.unusedSectionVars false
/- Bridges. No condition. -/
namespace Go.Proofs.YtgopibpkgmafiaaGreat
attribute [local irreducible] lexA
open Go.RowKit

def brB (g : GR) (i : Nat) : Bool := match g.links[i]? with | some l => decide (rhoL (g.links.eraseIdx i) l.f.toNat ≠ rhoL (g.links.eraseIdx i) l.t.toNat) | none => false
def brL (g : GR) (k : Nat) : List Nat := (List.range k).filter (brB g)
def bridgeV (g : GR) : List Nat × Int := if validB g = true then (brL g g.links.length, 0) else ([], 1)
theorem brL_succ (g : GR) (k : Nat) : brL g (k + 1) = if brB g k = true then brL g k ++ [k] else brL g k := by
  unfold brL
  rw [List.range_succ, List.filter_append]
  by_cases h : brB g k = true
  · rw [if_pos h]; simp [h]
  · rw [if_neg h]; simp [h]
theorem brL_len (g : GR) (k : Nat) : (brL g k).length ≤ k := Nat.le_trans (List.length_filter_le _ _) (by simp)

theorem gBridges_c (g : GR) : Con Tryz.prog 16 [AG g.cs] { v := .tup [.one (.d (dNs (bridgeV g).1)), .one (.d (lI (bridgeV g).2))] } := by
  refine con_intro (fn := Tryz.f16) tok Tryz.func16 (by kernel_rfl) rfl ?_
  intro w0 X
  rw [entry_mkE _ _ [(0, AG g.cs)] rfl rfl];refine AWP_reg_seq tok fun K hK => ?_;refine s_box rfl rfl rfl rfl rfl rfl ?_;refine asQ ?_;refine asQ ?_;refine s_end (hK _ ?_); clear hK K;refine AWP_seq ?_;refine AWP_reg_seq tok fun K hK => ?_;refine ldQ ?_;refine s_call rfl rfl (gValid_c g) rfl rfl rfl rfl ?_;refine s_un rfl rfl rfl ?_;refine s_end (hK _ ?_); clear hK K;refine a_cond rfl (fun hc => ?_) (fun hc => ?_)
  · rw [Bool.not_eq_true'] at hc
    have e : bridgeV g = ([], 1) := by rw [bridgeV, if_neg (by rw [hc]; simp)]
    rw [e];refine AWP_reg_seq tok fun K hK => ?_;refine asQ ?_;refine asQ ?_;refine s_end (hK _ ?_); clear hK K;refine AWP_ret ?_
    repeat (with_reducible refine tq_ret ?_)
    exact post_ret (fin_mk (by rfl) (by rfl) (by rfl))
  rw [Bool.not_eq_false'] at hc
  have gv := validB_iff.1 hc
  have n16 := gv.n2
  have l48 := gv.l
  rw [bridgeV, if_pos hc];refine AWP_skip ?_;show AWP _ _ _ _ _ _;refine AWP_reg_seq tok fun K hK => ?_;refine asQ ?_;refine s_end (hK _ ?_); clear hK K;refine AWP_seq ?_;refine AWP_reg_seq tok fun K hK => ?_;refine faQ ?_;refine ldQ ?_;refine s_blt rfl (len_m LK.dc rfl rfl) rfl ?_;refine mvQ ?_;refine s_end (hK _ ?_); clear hK K;refine AWP_block (a_loop (α := Nat) (fun i => mk 58 [(1, .ptr 1 0), (4, ownN 200 1 (brL g i).length), (14, V1 (dLs g.links)), (15, dI g.links.length), (16, dI i)] [(1, some (.box g.cs)), (200, arrN 1 ((brL g i).map cN) (brL g i).length)] []) (fun i => i ≤ g.links.length) (fun i => g.links.length - i) 0 ?_ (Nat.zero_le _) ?_)
  · exact Wk.mk' ⟨rfl, rfl, rfl, rfl, rfl, trivial⟩ ⟨rfl, rfl, trivial⟩
  intro i hi
  refine AWP_reg_seq tok fun K hK => ?_;refine biQ ?_;refine s_end (hK _ ?_); clear hK K;refine AWP_seq ?_;refine a_cond rfl (fun hg => ?_) (fun hg => ?_)
  · have hg : i < g.links.length := by simp at hg; omega
    obtain ⟨l, el⟩ : ∃ l, l = g.links[i] := ⟨_, rfl⟩
    have hml : l ∈ g.links := el ▸ List.getElem_mem hg
    have hget : g.links[i]? = some l := by rw [List.getElem?_eq_getElem hg, el]
    obtain ⟨x, y, hxn, hyn, hx, hy, _⟩ := (gLV gv l hml).lt
    have n1 := brL_succ g i
    have eb : brB g i = decide (rhoL (g.links.eraseIdx i) l.f.toNat ≠ rhoL (g.links.eraseIdx i) l.t.toNat) := by unfold brB; rw [hget]
    have zl' : (brL g i).length ≤ 48 := Nat.le_trans (brL_len g i) (by omega)
    obtain ⟨lf, lt, lx, ly, lw⟩ := l
    simp only at hx hy
    subst hx hy
    simp only [Int.toNat_natCast] at eb;refine AWP_skip ?_;show AWP _ _ _ _ _ _;refine AWP_seq ?_;refine AWP_block ?_;generalize brL g i = L at n1 zl' ⊢
    have z1 : (L.map cN).length = L.length := List.length_map _
    obtain ⟨es, hes⟩ : ∃ es, es = L.map cN := ⟨_, rfl⟩
    obtain ⟨b, hb⟩ : ∃ b, b = L.length := ⟨_, rfl⟩
    rw [← hes] at z1 ⊢;rw [← hb] at z1 zl' ⊢
    rcases b with _ | b
    · refine AWP_reg_seq tok fun K hK => ?_;refine mvQ ?_;refine s_indexAddr rfl (x_m LK.dc rfl rfl rfl rfl hg rfl) rfl ?_;refine ldQ ?_;refine s_alloc rfl rfl rfl rfl rfl rfl ?_;refine asQ ?_;refine s_store rfl rfl rfl rfl rfl ?_;refine s_end (hK _ ?_); clear hK K;rw [← el];refine AWP_reg_seq tok fun K hK => ?_;refine faQ ?_;refine ldQ ?_;refine s_blt rfl (len_m RW.dc rfl rfl) rfl ?_;refine s_callN rfl rfl (single_c g.nodes.length (by omega)) (Or.inl rfl) rfl rfl rfl rfl ?_;refine asQ ?_;refine s_end (hK _ ?_); clear hK K;refine AWP_seq ?_;refine AWP_reg_seq tok fun K hK => ?_;refine faQ ?_;refine ldQ ?_;refine s_blt rfl (len_m LK.dc rfl rfl) rfl ?_;refine mvQ ?_;refine s_end (hK _ ?_); clear hK K;refine AWP_block (a_loop (α := Nat × (Nat → Nat)) (fun p => mk 58 [(1, .ptr 1 0), (4, ownN 200 1 (0)), (5, dI i), (6, .ptr 6 0), (7, .val (.one (.own 24 1 0 g.nodes.length))), (14, V1 (dLs g.links)), (15, dI g.links.length), (16, dI i), (26, V1 (dLs g.links)), (27, dI g.links.length), (28, dI p.1)] [(1, some (.box g.cs)), (6, some (.box (LK.mk x y lx ly lw).cs)), (24, some (.arr 1 (nmD g.nodes.length p.2))), (200, arrN 1 es (0))] []) (fun p => p.1 ≤ g.links.length ∧ RTs g.nodes.length p.2 (rhoL (woL i g.links p.1))) (fun p => g.links.length - p.1) (0, id) ?_ ⟨Nat.zero_le _, by unfold woL; simp only [List.take_zero, List.eraseIdx_nil]; exact RTs_id _⟩ ?_)
      · exact Wk.mk' ⟨rfl, rfl, rfl, rfl, rfl, rfl, rfl, rfl, rfl, rfl, rfl, trivial⟩ ⟨rfl, rfl, rfl, rfl, trivial⟩
      rintro ⟨j, s⟩ ⟨hj, hs⟩
      simp only at hj hs ⊢
      refine AWP_reg_seq tok fun K hK => ?_;refine biQ ?_;refine s_end (hK _ ?_); clear hK K;refine AWP_seq ?_;refine a_cond rfl (fun hk => ?_) (fun hk => ?_)
      · have hk : j < g.links.length := by simp at hk; omega
        obtain ⟨m, em⟩ : ∃ m, m = g.links[j] := ⟨_, rfl⟩
        have hmm : m ∈ g.links := em ▸ List.getElem_mem hk
        obtain ⟨p, q, hpn, hqn, hp, hq, _⟩ := (gLV gv m hmm).lt
        have w1 := woL_succ (k := i) hk
        rw [← em] at w1
        obtain ⟨mf, mt, mx, my, mw⟩ := m
        simp only at hp hq
        subst hp hq
        refine AWP_skip ?_;show AWP _ _ _ _ _ _;refine AWP_seq ?_;refine AWP_block ?_;refine AWP_reg_seq tok fun K hK => ?_;refine mvQ ?_;refine s_indexAddr rfl (x_m LK.dc rfl rfl rfl rfl hk rfl) rfl ?_;refine ldQ ?_;refine s_alloc rfl rfl rfl rfl rfl rfl ?_;refine asQ ?_;refine s_store rfl rfl rfl rfl rfl ?_;refine s_end (hK _ ?_); clear hK K;rw [← em];refine AWP_reg_seq tok fun K hK => ?_;refine mvQ ?_;refine mvQ ?_;refine s_bin rfl (e_neN _ _) rfl ?_;refine s_end (hK _ ?_); clear hK K;refine a_cond rfl (fun hd => ?_) (fun hd => ?_)
        · have hd := of_decide_eq_true hd
          rw [if_neg hd] at w1
          have er : rhoL (woL i g.links (j + 1)) = jR (rhoL (woL i g.links j)) p q := by rw [w1, rhoL_snoc]; rfl
          generalize rhoL (woL i g.links j) = ρ at hs er
          have hrp := hs p hpn
          have hrq := hs q hqn
          have hs2 := RTs_join (s' := fun z => if z = ρ p then ρ q else s z) hs hpn hqn (fun _ => rfl)
          rw [← er] at hs2;refine AWP_regW fun K hK => ?_;refine w_step tok rfl ?_;refine mvQ ?_;refine s_end ?_;refine w_step tok rfl ?_;refine faQ ?_;refine s_end ?_;refine w_step tok rfl ?_;refine ldQ ?_;refine s_end ?_;refine w_step tok rfl ?_;refine faQ ?_;refine s_end ?_;refine w_step tok rfl ?_;refine ldQ ?_;refine s_end ?_;refine w_join (m := g.nodes.length) (s' := fun z => if z = ρ p then ρ q else s z) (join_m hrp hrq) rfl rfl rfl rfl rfl hrp.lt (fun _ _ => rfl) ?_;refine w_end rfl (hK _ ?_); clear hK K;show AWP _ _ _ _ _ _;refine AWP_reg tok fun K hK => ?_;refine s_bin rfl (e_add (c := ((j + 1 : Nat) : Int)) (by omega) (by omega)) rfl ?_;refine mvQ ?_;refine s_end (hK _ ?_); clear hK K;exact ⟨(j + 1, fun z => if z = ρ p then ρ q else s z), (by show g.links.length - (j + 1) < g.links.length - j; omega), ⟨hk, hs2⟩, Wk.mk' ⟨rfl, rfl, rfl, rfl, rfl, rfl, rfl, rfl, rfl, rfl, rfl, trivial⟩ ⟨rfl, rfl, rfl, rfl, trivial⟩⟩
        · have hd : j = i := Classical.byContradiction (of_decide_eq_false hd)
          rw [if_pos hd] at w1;refine AWP_skip ?_;show AWP _ _ _ _ _ _;refine AWP_reg tok fun K hK => ?_;refine s_bin rfl (e_add (c := ((j + 1 : Nat) : Int)) (by omega) (by omega)) rfl ?_;refine mvQ ?_;refine s_end (hK _ ?_); clear hK K;exact ⟨(j + 1, s), (by show g.links.length - (j + 1) < g.links.length - j; omega), ⟨hk, by simp only; rw [w1]; exact hs⟩, Wk.mk' ⟨rfl, rfl, rfl, rfl, rfl, rfl, rfl, rfl, rfl, rfl, rfl, trivial⟩ ⟨rfl, rfl, rfl, rfl, trivial⟩⟩
      have hk : j = g.links.length := by simp at hk; omega
      subst hk
      have ew : woL i g.links g.links.length = g.links.eraseIdx i := by unfold woL; rw [List.take_length]
      rw [ew] at hs;generalize rhoL (g.links.eraseIdx i) = ρ at hs eb
      have cx := root_c g.nodes.length s x (ρ x) (hs x hxn)
      have cy := root_c g.nodes.length s y (ρ y) (hs y hyn)
      refine AWP_exit ?_;show AWP _ _ _ _ _ _;refine a_fz [1, 4, 5, 6, 7, 14, 15, 16] [1, 6, 24, 200] 24 [(1, .ptr 1 0), (4, ownN 200 1 (0)), (5, dI i), (6, .ptr 6 0), (7, V1 (.sl (nmD g.nodes.length s))), (14, V1 (dLs g.links)), (15, dI g.links.length), (16, dI i)] [(1, some (.box g.cs)), (6, some (.box (LK.mk x y lx ly lw).cs)), (200, arrN 1 es (0))] rfl ?_ ⟨rfl, rfl, rfl, trivial⟩ ?_
      · exact ⟨rfl, rfl, rfl, rfl, frz_own rfl (by rw [nmD_length]), rfl, rfl, rfl, trivial⟩
      refine a_draw tok mixed (A := [[], [], [], [1], [], [], [], [0, 1, 2, 5], [0, 1, 2, 4, 5, 6]]) (an := [{}, {}, {}, {}, { c := [46] }, { c := [46] }, { c := [46] }, {}, {}]) rfl (by kernel_rfl) rfl fun K hK => ?_;refine mvQ ?_;refine faQ ?_;refine ldQ ?_;refine s_call rfl rfl (cx) rfl rfl rfl rfl ?_;refine mvQ ?_;refine faQ ?_;refine ldQ ?_;refine s_call rfl rfl (cy) rfl rfl rfl rfl ?_;refine s_bin rfl (e_neN _ _) rfl ?_;refine s_end (hK _ ?_); clear hK K;refine a_cond rfl (fun hd => ?_) (fun hd => ?_)
      · rw [← eb] at hd;rw [if_pos hd] at n1
        have n2 : es ++ [cN i] = (brL g (i + 1)).map cN := by rw [n1, hes, List.map_append]; rfl
        have k2 : (brL g (i + 1)).length = (0) + 1 := by rw [n1, List.length_append, ← hb]; rfl
        refine AWP_reg tok fun K hK => ?_;refine mvQ ?_;refine mvQ ?_;refine s_buildSlice rfl rfl rfl rfl ?_;refine s_append rfl (ap_nil rfl rfl rfl rfl rfl (by decide) (Nat.le_of_ble_eq_true rfl) rfl (by simp) rfl (by simp) (by simp)) rfl rfl rfl ?_;refine asQ ?_;refine s_end (hK _ ?_); clear hK K;show AWP _ _ _ _ _ _;refine AWP_reg tok fun K hK => ?_;refine s_bin rfl (e_add (c := ((i + 1 : Nat) : Int)) (by omega) (by omega)) rfl ?_;refine mvQ ?_;refine s_end (hK _ ?_); clear hK K;refine ⟨i + 1, by omega, hg, ?_⟩;rw [k2];refine Wk.rn [1, 4, 14, 15, 16] [1, 55] 55 200 rfl rfl rfl ⟨rfl, ?_, rfl, rfl, rfl, trivial⟩ ⟨rfl, ?_, trivial⟩
        · first
            | rfl
            | (show SV.val (.one (.own 200 1 0 _)) = _
               rw [List.length_append, z1]; rfl)
        · first
            | (rw [← n2, List.length_eq_zero_iff.1 z1]; rfl)
            | (rw [← n2]; rfl)
      · rw [← eb] at hd;rw [if_neg (by rw [hd]; simp)] at n1;refine AWP_skip ?_;show AWP _ _ _ _ _ _;refine AWP_reg tok fun K hK => ?_;refine s_bin rfl (e_add (c := ((i + 1 : Nat) : Int)) (by omega) (by omega)) rfl ?_;refine mvQ ?_;refine s_end (hK _ ?_); clear hK K;refine ⟨i + 1, by omega, hg, ?_⟩;rw [n1, ← hes, ← hb];exact Wk.mk' ⟨rfl, rfl, rfl, rfl, rfl, trivial⟩ ⟨rfl, rfl, trivial⟩
    · refine AWP_reg_seq tok fun K hK => ?_;refine mvQ ?_;refine s_indexAddr rfl (x_m LK.dc rfl rfl rfl rfl hg rfl) rfl ?_;refine ldQ ?_;refine s_alloc rfl rfl rfl rfl rfl rfl ?_;refine asQ ?_;refine s_store rfl rfl rfl rfl rfl ?_;refine s_end (hK _ ?_); clear hK K;rw [← el];refine AWP_reg_seq tok fun K hK => ?_;refine faQ ?_;refine ldQ ?_;refine s_blt rfl (len_m RW.dc rfl rfl) rfl ?_;refine s_callN rfl rfl (single_c g.nodes.length (by omega)) (Or.inl rfl) rfl rfl rfl rfl ?_;refine asQ ?_;refine s_end (hK _ ?_); clear hK K;refine AWP_seq ?_;refine AWP_reg_seq tok fun K hK => ?_;refine faQ ?_;refine ldQ ?_;refine s_blt rfl (len_m LK.dc rfl rfl) rfl ?_;refine mvQ ?_;refine s_end (hK _ ?_); clear hK K;refine AWP_block (a_loop (α := Nat × (Nat → Nat)) (fun p => mk 58 [(1, .ptr 1 0), (4, ownN 200 1 (b + 1)), (5, dI i), (6, .ptr 6 0), (7, .val (.one (.own 24 1 0 g.nodes.length))), (14, V1 (dLs g.links)), (15, dI g.links.length), (16, dI i), (26, V1 (dLs g.links)), (27, dI g.links.length), (28, dI p.1)] [(1, some (.box g.cs)), (6, some (.box (LK.mk x y lx ly lw).cs)), (24, some (.arr 1 (nmD g.nodes.length p.2))), (200, arrN 1 es (b + 1))] []) (fun p => p.1 ≤ g.links.length ∧ RTs g.nodes.length p.2 (rhoL (woL i g.links p.1))) (fun p => g.links.length - p.1) (0, id) ?_ ⟨Nat.zero_le _, by unfold woL; simp only [List.take_zero, List.eraseIdx_nil]; exact RTs_id _⟩ ?_)
      · exact Wk.mk' ⟨rfl, rfl, rfl, rfl, rfl, rfl, rfl, rfl, rfl, rfl, rfl, trivial⟩ ⟨rfl, rfl, rfl, rfl, trivial⟩
      rintro ⟨j, s⟩ ⟨hj, hs⟩
      simp only at hj hs ⊢
      refine AWP_reg_seq tok fun K hK => ?_;refine biQ ?_;refine s_end (hK _ ?_); clear hK K;refine AWP_seq ?_;refine a_cond rfl (fun hk => ?_) (fun hk => ?_)
      · have hk : j < g.links.length := by simp at hk; omega
        obtain ⟨m, em⟩ : ∃ m, m = g.links[j] := ⟨_, rfl⟩
        have hmm : m ∈ g.links := em ▸ List.getElem_mem hk
        obtain ⟨p, q, hpn, hqn, hp, hq, _⟩ := (gLV gv m hmm).lt
        have w1 := woL_succ (k := i) hk
        rw [← em] at w1
        obtain ⟨mf, mt, mx, my, mw⟩ := m
        simp only at hp hq
        subst hp hq
        refine AWP_skip ?_;show AWP _ _ _ _ _ _;refine AWP_seq ?_;refine AWP_block ?_;refine AWP_reg_seq tok fun K hK => ?_;refine mvQ ?_;refine s_indexAddr rfl (x_m LK.dc rfl rfl rfl rfl hk rfl) rfl ?_;refine ldQ ?_;refine s_alloc rfl rfl rfl rfl rfl rfl ?_;refine asQ ?_;refine s_store rfl rfl rfl rfl rfl ?_;refine s_end (hK _ ?_); clear hK K;rw [← em];refine AWP_reg_seq tok fun K hK => ?_;refine mvQ ?_;refine mvQ ?_;refine s_bin rfl (e_neN _ _) rfl ?_;refine s_end (hK _ ?_); clear hK K;refine a_cond rfl (fun hd => ?_) (fun hd => ?_)
        · have hd := of_decide_eq_true hd
          rw [if_neg hd] at w1
          have er : rhoL (woL i g.links (j + 1)) = jR (rhoL (woL i g.links j)) p q := by rw [w1, rhoL_snoc]; rfl
          generalize rhoL (woL i g.links j) = ρ at hs er
          have hrp := hs p hpn
          have hrq := hs q hqn
          have hs2 := RTs_join (s' := fun z => if z = ρ p then ρ q else s z) hs hpn hqn (fun _ => rfl)
          rw [← er] at hs2;refine AWP_regW fun K hK => ?_;refine w_step tok rfl ?_;refine mvQ ?_;refine s_end ?_;refine w_step tok rfl ?_;refine faQ ?_;refine s_end ?_;refine w_step tok rfl ?_;refine ldQ ?_;refine s_end ?_;refine w_step tok rfl ?_;refine faQ ?_;refine s_end ?_;refine w_step tok rfl ?_;refine ldQ ?_;refine s_end ?_;refine w_join (m := g.nodes.length) (s' := fun z => if z = ρ p then ρ q else s z) (join_m hrp hrq) rfl rfl rfl rfl rfl hrp.lt (fun _ _ => rfl) ?_;refine w_end rfl (hK _ ?_); clear hK K;show AWP _ _ _ _ _ _;refine AWP_reg tok fun K hK => ?_;refine s_bin rfl (e_add (c := ((j + 1 : Nat) : Int)) (by omega) (by omega)) rfl ?_;refine mvQ ?_;refine s_end (hK _ ?_); clear hK K;exact ⟨(j + 1, fun z => if z = ρ p then ρ q else s z), (by show g.links.length - (j + 1) < g.links.length - j; omega), ⟨hk, hs2⟩, Wk.mk' ⟨rfl, rfl, rfl, rfl, rfl, rfl, rfl, rfl, rfl, rfl, rfl, trivial⟩ ⟨rfl, rfl, rfl, rfl, trivial⟩⟩
        · have hd : j = i := Classical.byContradiction (of_decide_eq_false hd)
          rw [if_pos hd] at w1;refine AWP_skip ?_;show AWP _ _ _ _ _ _;refine AWP_reg tok fun K hK => ?_;refine s_bin rfl (e_add (c := ((j + 1 : Nat) : Int)) (by omega) (by omega)) rfl ?_;refine mvQ ?_;refine s_end (hK _ ?_); clear hK K;exact ⟨(j + 1, s), (by show g.links.length - (j + 1) < g.links.length - j; omega), ⟨hk, by simp only; rw [w1]; exact hs⟩, Wk.mk' ⟨rfl, rfl, rfl, rfl, rfl, rfl, rfl, rfl, rfl, rfl, rfl, trivial⟩ ⟨rfl, rfl, rfl, rfl, trivial⟩⟩
      have hk : j = g.links.length := by simp at hk; omega
      subst hk
      have ew : woL i g.links g.links.length = g.links.eraseIdx i := by unfold woL; rw [List.take_length]
      rw [ew] at hs;generalize rhoL (g.links.eraseIdx i) = ρ at hs eb
      have cx := root_c g.nodes.length s x (ρ x) (hs x hxn)
      have cy := root_c g.nodes.length s y (ρ y) (hs y hyn)
      refine AWP_exit ?_;show AWP _ _ _ _ _ _;refine a_fz [1, 4, 5, 6, 7, 14, 15, 16] [1, 6, 24, 200] 24 [(1, .ptr 1 0), (4, ownN 200 1 (b + 1)), (5, dI i), (6, .ptr 6 0), (7, V1 (.sl (nmD g.nodes.length s))), (14, V1 (dLs g.links)), (15, dI g.links.length), (16, dI i)] [(1, some (.box g.cs)), (6, some (.box (LK.mk x y lx ly lw).cs)), (200, arrN 1 es (b + 1))] rfl ?_ ⟨rfl, rfl, rfl, trivial⟩ ?_
      · exact ⟨rfl, rfl, rfl, rfl, frz_own rfl (by rw [nmD_length]), rfl, rfl, rfl, trivial⟩
      refine a_draw tok mixed (A := [[], [], [], [1], [], [], [], [0, 1, 2, 5], [0, 1, 2, 4, 5, 6]]) (an := [{}, {}, {}, {}, { c := [46] }, { c := [46] }, { c := [46] }, {}, {}]) rfl (by kernel_rfl) rfl fun K hK => ?_;refine mvQ ?_;refine faQ ?_;refine ldQ ?_;refine s_call rfl rfl (cx) rfl rfl rfl rfl ?_;refine mvQ ?_;refine faQ ?_;refine ldQ ?_;refine s_call rfl rfl (cy) rfl rfl rfl rfl ?_;refine s_bin rfl (e_neN _ _) rfl ?_;refine s_end (hK _ ?_); clear hK K;refine a_cond rfl (fun hd => ?_) (fun hd => ?_)
      · rw [← eb] at hd;rw [if_pos hd] at n1
        have n2 : es ++ [cN i] = (brL g (i + 1)).map cN := by rw [n1, hes, List.map_append]; rfl
        have k2 : (brL g (i + 1)).length = (b + 1) + 1 := by rw [n1, List.length_append, ← hb]; rfl
        refine AWP_reg tok fun K hK => ?_;refine mvQ ?_;refine mvQ ?_;refine s_buildSlice rfl rfl rfl rfl ?_;refine s_append rfl (ap_o rfl rfl rfl rfl rfl rfl (by decide) (Nat.le_of_ble_eq_true rfl) rfl (by simp) rfl rfl z1.symm (by simp <;> omega)) rfl rfl rfl ?_;refine asQ ?_;refine s_end (hK _ ?_); clear hK K;show AWP _ _ _ _ _ _;refine AWP_reg tok fun K hK => ?_;refine s_bin rfl (e_add (c := ((i + 1 : Nat) : Int)) (by omega) (by omega)) rfl ?_;refine mvQ ?_;refine s_end (hK _ ?_); clear hK K;refine ⟨i + 1, by omega, hg, ?_⟩;rw [k2];refine Wk.rn [1, 4, 14, 15, 16] [1, 55] 55 200 rfl rfl rfl ⟨rfl, ?_, rfl, rfl, rfl, trivial⟩ ⟨rfl, ?_, trivial⟩
        · first
            | rfl
            | (show SV.val (.one (.own 200 1 0 _)) = _
               rw [List.length_append, z1]; rfl)
        · first
            | (rw [← n2, List.length_eq_zero_iff.1 z1]; rfl)
            | (rw [← n2]; rfl)
      · rw [← eb] at hd;rw [if_neg (by rw [hd]; simp)] at n1;refine AWP_skip ?_;show AWP _ _ _ _ _ _;refine AWP_reg tok fun K hK => ?_;refine s_bin rfl (e_add (c := ((i + 1 : Nat) : Int)) (by omega) (by omega)) rfl ?_;refine mvQ ?_;refine s_end (hK _ ?_); clear hK K;refine ⟨i + 1, by omega, hg, ?_⟩;rw [n1, ← hes, ← hb];exact Wk.mk' ⟨rfl, rfl, rfl, rfl, rfl, trivial⟩ ⟨rfl, rfl, trivial⟩
  have hg : i = g.links.length := by simp at hg; omega
  subst hg
  refine AWP_exit ?_;show AWP _ _ _ _ _ _;generalize brL g g.links.length = L
  rcases L with _ | ⟨l, L⟩
  · refine AWP_reg_seq tok fun K hK => ?_;refine mvQ ?_;refine asQ ?_;refine asQ ?_;refine s_end (hK _ ?_); clear hK K;refine AWP_ret ?_
    repeat (with_reducible refine tq_ret ?_)
    exact post_ret (fin_mk (by rfl) (by rfl) (by rfl))
  · refine a_fz [4] [200] 200 [(4, V1 (dNs (l :: L)))] [] rfl ?_ trivial ?_
    · exact ⟨frz_own rfl (by simp), trivial⟩
    refine AWP_reg_seq tok fun K hK => ?_;refine mvQ ?_;refine asQ ?_;refine asQ ?_;refine s_end (hK _ ?_); clear hK K;refine AWP_ret ?_
    repeat (with_reducible refine tq_ret ?_)
    exact post_ret (fin_mk (by rfl) (by rfl) (by rfl))
end Go.Proofs.YtgopibpkgmafiaaGreat

/- Forests: how many links, which, what they join. No condition. -/
namespace Go.Proofs.YtgopibpkgmafiaaGreat
attribute [local irreducible] lexA

theorem lt_of_GV {g : GR} (gv : GV g) : ∀ l ∈ g.links, l.f.toNat < g.nodes.length ∧ l.t.toNat < g.nodes.length := fun l hl => by
  have lv := gLV gv l hl
  have h1 := lv.f
  have h2 := lv.t
  omega
theorem rho_idem {n : Nat} : ∀ (d : Nat) (ls : List LK), ls.length = d → (∀ l ∈ ls, l.f.toNat < n ∧ l.t.toNat < n) → ∀ x, x < n → rhoL ls x < n ∧ rhoL ls (rhoL ls x) = rhoL ls x
  | 0, ls, h, _ => fun x hx => by
    have : ls = [] := List.length_eq_zero_iff.1 h
    subst this
    exact ⟨hx, rfl⟩
  | d + 1, ls, h, hl => fun x hx => by
    obtain ⟨ys, l, rfl⟩ : ∃ ys l, ls = ys ++ [l] := by
      have hne : ls ≠ [] := fun e => by rw [e] at h; cases h
      exact ⟨ls.dropLast, ls.getLast hne, (List.dropLast_concat_getLast hne).symm⟩
    have hl' : ∀ x ∈ ys, x.f.toNat < n ∧ x.t.toNat < n := fun x hx => hl x (List.mem_append_left _ hx)
    obtain ⟨hf, ht⟩ := hl l (by simp)
    have ih := rho_idem d ys (by simpa using h) hl'
    rw [rhoL_snoc]
    have i1 := ih x hx
    have i2 := ih _ ht
    unfold jR
    by_cases e : rhoL ys x = rhoL ys l.f.toNat
    · rw [if_pos e];refine ⟨i2.1, ?_⟩;rw [i2.2]; split <;> rfl
    · rw [if_neg e];refine ⟨i1.1, ?_⟩;rw [i1.2, if_neg e]
theorem rt_join {n : Nat} {ρ : Nat → Nat} {f t : Nat} (hi : ∀ x, x < n → ρ x < n ∧ ρ (ρ x) = ρ x) (hf : f < n) (ht : t < n) : rtN n ρ = rtN n (jR ρ f t) + (if ρ f ≠ ρ t then 1 else 0) := by
  by_cases e : ρ f = ρ t
  · rw [if_neg (by simp [e])]
    have : jR ρ f t = ρ := by
      funext x; unfold jR
      by_cases h : ρ x = ρ f
      · rw [if_pos h, h, e]
      · rw [if_neg h]
    rw [this]; rfl
  · rw [if_pos e]
    have h1 := hi f hf
    have h2 := hi t ht
    refine kN_less (a := ρ f) ?_ ?_ h1.1 fun v hv hne => ?_
    · rw [beq_iff_eq]; exact h1.2
    · unfold jR; rw [if_pos h1.2]; exact beq_eq_false_iff_ne.2 (fun h => e h.symm)
    · rw [Bool.eq_iff_iff, beq_iff_eq, beq_iff_eq]
      unfold jR
      by_cases h : ρ v = ρ f
      · rw [if_pos h]
        constructor
        · intro h'; exact absurd (h'.symm.trans h) hne
        · intro h'
          rw [← h', h2.2] at h;exact absurd h.symm e
      · rw [if_neg h]
theorem cmp_rt {g : GR} (gv : GV g) {ρ : Nat → Nat} (hi : ∀ x, x < g.nodes.length → ρ x < g.nodes.length ∧ ρ (ρ x) = ρ x) (hk : ∀ u v, u < g.nodes.length → v < g.nodes.length → (ρ u = ρ v ↔ Cnn (prs g.links) u v)) : cmpN g = rtN g.nodes.length ρ := by
  have h : RG (partsR g) := (partsL_ok _ _).1
  rw [cmpN_num gv, num_rt];refine roots_eq (fun v hv => ⟨Nat.lt_of_le_of_lt (fd_le h v) hv, fd_idem h v⟩) hi fun u v hu hv => ?_;rw [hk u v hu hv, ← lab_cnn gv hu hv, lab_iff' gv hu hv]; rfl
theorem prs_mem {ls : List LK} {l : LK} (h : l ∈ ls) : (l.f.toNat, l.t.toNat) ∈ prs ls := List.mem_map.2 ⟨l, h, rfl⟩
theorem prs_sub {a b : List LK} (h : ∀ l ∈ a, l ∈ b) : ∀ p ∈ prs a, p ∈ prs b := fun p hp => by
  obtain ⟨l, hl, rfl⟩ := List.mem_map.1 hp
  exact prs_mem (h l hl)
end Go.Proofs.YtgopibpkgmafiaaGreat

/- Bridges by components; labels that are merged; the first greatest. No condition. -/
namespace Go.Proofs.YtgopibpkgmafiaaGreat
attribute [local irreducible] lexA

theorem erG_GV {g : GR} (gv : GV g) (k : Nat) : GV (woG g k) :=
  ⟨gv.n1, gv.n2, Nat.le_trans (List.length_eraseIdx_le _ _) gv.l, fun l hl => gv.lk l ((List.eraseIdx_sublist g.links k).subset hl)⟩
theorem br_comp {g : GR} (gv : GV g) {k : Nat} (hk : k < g.links.length) : decide (cmpN g < cmpN (woG g k)) = brB g k := by
  have hm := lt_of_GV gv _ (List.getElem_mem hk)
  have hE : ∀ l ∈ g.links.eraseIdx k, l.f.toNat < g.nodes.length ∧ l.t.toNat < g.nodes.length := fun l hl => lt_of_GV gv l ((List.eraseIdx_sublist g.links k).subset hl)
  have hi := rho_idem (n := g.nodes.length) _ (g.links.eraseIdx k) rfl hE
  have e1 : cmpN (woG g k) = rtN g.nodes.length (rhoL (g.links.eraseIdx k)) := cmp_rt (g := woG g k) (erG_GV gv k) hi (rho_cnn _ (g.links.eraseIdx k) rfl hE)
  have hE2 : ∀ l ∈ g.links.eraseIdx k ++ [g.links[k]], l.f.toNat < g.nodes.length ∧ l.t.toNat < g.nodes.length := fun l hl => by
    rcases List.mem_append.1 hl with h | h
    · exact hE l h
    · rw [List.mem_singleton.1 h]; exact hm
  have el : g.links = g.links.take k ++ g.links[k] :: g.links.drop (k + 1) := by
    rw [← List.drop_eq_getElem_cons hk, List.take_append_drop]
  have sub1 : ∀ l ∈ g.links.eraseIdx k ++ [g.links[k]], l ∈ g.links := fun l hl => by
    rcases List.mem_append.1 hl with h | h
    · exact (List.eraseIdx_sublist g.links k).subset h
    · rw [List.mem_singleton.1 h]; exact List.getElem_mem hk
  have sub2 : ∀ l ∈ g.links, l ∈ g.links.eraseIdx k ++ [g.links[k]] := fun l hl => by
    rw [el] at hl;rw [List.eraseIdx_eq_take_drop_succ]
    rcases List.mem_append.1 hl with h | h
    · exact List.mem_append_left _ (List.mem_append_left _ h)
    · rcases List.mem_cons.1 h with h | h
      · rw [h]; exact List.mem_append_right _ (List.mem_singleton.2 rfl)
      · exact List.mem_append_left _ (List.mem_append_right _ h)
  have e2 : cmpN g = rtN g.nodes.length (rhoL (g.links.eraseIdx k ++ [g.links[k]])) := cmp_rt gv (rho_idem _ _ rfl hE2) fun u v hu hv =>
    (rho_cnn _ _ rfl hE2 u v hu hv).trans ⟨fun h => h.mono (prs_sub sub1), fun h => h.mono (prs_sub sub2)⟩
  rw [rhoL_snoc] at e2
  have ej := rt_join hi hm.1 hm.2
  have eb : brB g k = decide (rhoL (g.links.eraseIdx k) g.links[k].f.toNat ≠ rhoL (g.links.eraseIdx k) g.links[k].t.toNat) := by unfold brB; rw [List.getElem?_eq_getElem hk]
  rw [eb, Bool.eq_iff_iff, decide_eq_true_eq, decide_eq_true_eq, e1, e2, ej]
  by_cases h : rhoL (g.links.eraseIdx k) g.links[k].f.toNat ≠ rhoL (g.links.eraseIdx k) g.links[k].t.toNat
  · rw [if_pos h]; exact ⟨fun _ => h, fun _ => by omega⟩
  · rw [if_neg h]; exact ⟨fun h' => by omega, fun h' => absurd h' h⟩
def LB (n : Nat) (p ρ : Nat → Nat) : Prop := ∀ u v, u < n → v < n → (p u = p v ↔ ρ u = ρ v)
theorem LB_id (n : Nat) : LB n id id := fun _ _ _ _ => Iff.rfl
theorem LB_join {n : Nat} {p ρ : Nat → Nat} {f t : Nat} (h : LB n p ρ) (hf : f < n) (ht : t < n) : LB n (if p f = p t then p else mg p (p f) (p t)) (jR ρ f t) := fun u v hu hv => by
  have h1 := h u v hu hv
  have h2 := h u f hu hf
  have h3 := h u t hu ht
  have h4 := h v f hv hf
  have h5 := h v t hv ht
  have h6 := h f t hf ht
  by_cases e : p f = p t
  · rw [if_pos e]; unfold jR
    (repeat' split) <;> omega
  · rw [if_neg e]; unfold jR mg
    (repeat' split) <;> omega
end Go.Proofs.YtgopibpkgmafiaaGreat

/- law32: Links. No condition. -/
namespace Go.Proofs.YtgopibpkgmafiaaGreat
attribute [local irreducible] lexA
open Go.RowKit

theorem e_gtrK {T : Tab} {t : TypeId} {a b : Int} {c : Bool} (h : decide (a > b) = c) : effBin T .gtr t (dI a) (dI b) = .set (dB c) := by subst h; rfl
end Go.Proofs.YtgopibpkgmafiaaGreat

/- law32: Trees. No condition. -/
namespace Go.Proofs.YtgopibpkgmafiaaGreat
attribute [local irreducible] lexA
open Go.RowKit

set_option maxHeartbeats 1000000 in
theorem rBridges_c (g : GR) (hm : g.links.length ≤ 9223372036854775806) : Con Tryz.prog 19 [AG g.cs] { v := .tup [.one (.d (dNs (bridgeV g).1)), .one (.d (lI (bridgeV g).2))] } := by
  refine con_intro (fn := Tryz.f19) tok Tryz.func19 (by kernel_rfl) rfl ?_
  intro w0 X
  rw [entry_mkE _ _ [(0, AG g.cs)] rfl rfl];refine AWP_reg_seq tok fun K hK => ?_;refine s_box rfl rfl rfl rfl rfl rfl ?_;refine asQ ?_;refine asQ ?_;refine s_end (hK _ ?_); clear hK K;refine AWP_seq ?_;refine AWP_reg_seq tok fun K hK => ?_;refine ldQ ?_;refine s_call rfl rfl (r28Valid_c g hm) rfl rfl rfl rfl ?_;refine s_un rfl rfl rfl ?_;refine s_end (hK _ ?_); clear hK K;refine a_cond rfl (fun hc => ?_) (fun hc => ?_)
  · rw [Bool.not_eq_true'] at hc
    have e : bridgeV g = ([], 1) := by rw [bridgeV, if_neg (by rw [hc]; simp)]
    rw [e];refine AWP_reg_seq tok fun K hK => ?_;refine asQ ?_;refine asQ ?_;refine s_end (hK _ ?_); clear hK K;refine AWP_ret ?_
    repeat (with_reducible refine tq_ret ?_)
    exact post_ret (fin_mk (by rfl) (by rfl) (by rfl))
  rw [Bool.not_eq_false'] at hc
  have gv := validB_iff.1 hc
  have n16 := gv.n2
  have l48 := gv.l
  rw [bridgeV, if_pos hc];refine AWP_skip ?_;show AWP _ _ _ _ _ _;refine AWP_reg_seq tok fun K hK => ?_;refine asQ ?_;refine s_end (hK _ ?_); clear hK K;refine AWP_seq ?_;refine AWP_reg_seq tok fun K hK => ?_;refine asQ ?_;refine s_end (hK _ ?_); clear hK K;refine AWP_block (a_loop (α := Nat) (fun i => mk 28 [(1, .ptr 1 0), (4, ownN 200 1 (brL g i).length), (5, dI i)] [(1, some (.box g.cs)), (200, arrN 1 ((brL g i).map cN) (brL g i).length)] []) (fun i => i ≤ g.links.length) (fun i => g.links.length - i) 0 ?_ (Nat.zero_le _) ?_)
  · exact Wk.mk' ⟨rfl, rfl, rfl, trivial⟩ ⟨rfl, rfl, trivial⟩
  intro i hi
  refine AWP_seq ?_;refine AWP_reg_seq tok fun K hK => ?_;refine mvQ ?_;refine faQ ?_;refine ldQ ?_;refine s_blt rfl (len_m LK.dc rfl rfl) rfl ?_;refine biQ ?_;refine s_end (hK _ ?_); clear hK K;refine a_cond rfl (fun hg => ?_) (fun hg => ?_)
  · have hg : i < g.links.length := by simp at hg; omega
    have n1 := brL_succ g i
    have eb := br_comp gv hg
    have zl' : (brL g i).length ≤ 48 := Nat.le_trans (brL_len g i) (by omega)
    have cW := rwithout_c g i (by omega)
    have cA := rcomps_c (woG g i) (erG_GV gv i)
    have cB := rcomps_c g gv
    have hgt : decide (((cmpN (woG g i) : Nat) : Int) > ((cmpN g : Nat) : Int)) = brB g i := by
      rw [← eb, Bool.eq_iff_iff, decide_eq_true_eq, decide_eq_true_eq]; omega
    generalize cmpN (woG g i) = ca at cA hgt;generalize cmpN g = cb at cB hgt;refine AWP_skip ?_;show AWP _ _ _ _ _ _;refine AWP_seq ?_;refine AWP_block ?_;generalize brL g i = L at n1 zl' ⊢
    have z1 : (L.map cN).length = L.length := List.length_map _
    obtain ⟨es, hes⟩ : ∃ es, es = L.map cN := ⟨_, rfl⟩
    obtain ⟨b, hb⟩ : ∃ b, b = L.length := ⟨_, rfl⟩
    rw [← hes] at z1 ⊢;rw [← hb] at z1 zl' ⊢
    rcases b with _ | b
    · refine a_draw tok mixed (A := [[], [], [], [0, 1], [], [0, 1, 2], [0, 1, 2, 4]]) (an := [{}, {}, {}, {}, { c := [18, 19] }, {}, {}]) rfl (by kernel_rfl) rfl fun K hK => ?_;refine ldQ ?_;refine mvQ ?_;refine s_call rfl rfl (cW) rfl rfl rfl rfl ?_;refine s_call rfl rfl (cA) rfl rfl rfl rfl ?_;refine ldQ ?_;refine s_call rfl rfl (cB) rfl rfl rfl rfl ?_;refine s_bin rfl (e_gtrK hgt) rfl ?_;refine s_end (hK _ ?_); clear hK K;refine a_cond rfl (fun hd => ?_) (fun hd => ?_)
      · rw [if_pos hd] at n1
        have n2 : es ++ [cN i] = (brL g (i + 1)).map cN := by rw [n1, hes, List.map_append]; rfl
        have k2 : (brL g (i + 1)).length = (0) + 1 := by rw [n1, List.length_append, ← hb]; rfl
        refine AWP_reg tok fun K hK => ?_;refine mvQ ?_;refine mvQ ?_;refine s_buildSlice rfl rfl rfl rfl ?_;refine s_append rfl (ap_nil rfl rfl rfl rfl rfl (by decide) (Nat.le_of_ble_eq_true rfl) rfl (by simp) rfl (by simp) (by simp)) rfl rfl rfl ?_;refine asQ ?_;refine s_end (hK _ ?_); clear hK K;show AWP _ _ _ _ _ _;refine AWP_reg tok fun K hK => ?_;refine mvQ ?_;refine s_bin rfl (e_add (c := ((i + 1 : Nat) : Int)) (by omega) (by omega)) rfl ?_;refine asQ ?_;refine s_end (hK _ ?_); clear hK K;refine ⟨i + 1, by omega, hg, ?_⟩;rw [k2];refine Wk.rn [1, 4, 5] [1, 26] 26 200 rfl rfl rfl ⟨rfl, ?_, rfl, trivial⟩ ⟨rfl, ?_, trivial⟩
        · first
            | rfl
            | (show SV.val (.one (.own 200 1 0 _)) = _
               rw [List.length_append, z1]; rfl)
        · first
            | (rw [← n2, List.length_eq_zero_iff.1 z1]; rfl)
            | (rw [← n2]; rfl)
      · rw [if_neg (by rw [hd]; simp)] at n1;refine AWP_skip ?_;show AWP _ _ _ _ _ _;refine AWP_reg tok fun K hK => ?_;refine mvQ ?_;refine s_bin rfl (e_add (c := ((i + 1 : Nat) : Int)) (by omega) (by omega)) rfl ?_;refine asQ ?_;refine s_end (hK _ ?_); clear hK K;refine ⟨i + 1, by omega, hg, ?_⟩;rw [n1, ← hes, ← hb];exact Wk.mk' ⟨rfl, rfl, rfl, trivial⟩ ⟨rfl, rfl, trivial⟩
    · refine a_draw tok mixed (A := [[], [], [], [0, 1], [], [0, 1, 2], [0, 1, 2, 4]]) (an := [{}, {}, {}, {}, { c := [18, 19] }, {}, {}]) rfl (by kernel_rfl) rfl fun K hK => ?_;refine ldQ ?_;refine mvQ ?_;refine s_call rfl rfl (cW) rfl rfl rfl rfl ?_;refine s_call rfl rfl (cA) rfl rfl rfl rfl ?_;refine ldQ ?_;refine s_call rfl rfl (cB) rfl rfl rfl rfl ?_;refine s_bin rfl (e_gtrK hgt) rfl ?_;refine s_end (hK _ ?_); clear hK K;refine a_cond rfl (fun hd => ?_) (fun hd => ?_)
      · rw [if_pos hd] at n1
        have n2 : es ++ [cN i] = (brL g (i + 1)).map cN := by rw [n1, hes, List.map_append]; rfl
        have k2 : (brL g (i + 1)).length = (b + 1) + 1 := by rw [n1, List.length_append, ← hb]; rfl
        refine AWP_reg tok fun K hK => ?_;refine mvQ ?_;refine mvQ ?_;refine s_buildSlice rfl rfl rfl rfl ?_;refine s_append rfl (ap_o rfl rfl rfl rfl rfl rfl (by decide) (Nat.le_of_ble_eq_true rfl) rfl (by simp) rfl rfl z1.symm (by simp <;> omega)) rfl rfl rfl ?_;refine asQ ?_;refine s_end (hK _ ?_); clear hK K;show AWP _ _ _ _ _ _;refine AWP_reg tok fun K hK => ?_;refine mvQ ?_;refine s_bin rfl (e_add (c := ((i + 1 : Nat) : Int)) (by omega) (by omega)) rfl ?_;refine asQ ?_;refine s_end (hK _ ?_); clear hK K;refine ⟨i + 1, by omega, hg, ?_⟩;rw [k2];refine Wk.rn [1, 4, 5] [1, 26] 26 200 rfl rfl rfl ⟨rfl, ?_, rfl, trivial⟩ ⟨rfl, ?_, trivial⟩
        · first
            | rfl
            | (show SV.val (.one (.own 200 1 0 _)) = _
               rw [List.length_append, z1]; rfl)
        · first
            | (rw [← n2, List.length_eq_zero_iff.1 z1]; rfl)
            | (rw [← n2]; rfl)
      · rw [if_neg (by rw [hd]; simp)] at n1;refine AWP_skip ?_;show AWP _ _ _ _ _ _;refine AWP_reg tok fun K hK => ?_;refine mvQ ?_;refine s_bin rfl (e_add (c := ((i + 1 : Nat) : Int)) (by omega) (by omega)) rfl ?_;refine asQ ?_;refine s_end (hK _ ?_); clear hK K;refine ⟨i + 1, by omega, hg, ?_⟩;rw [n1, ← hes, ← hb];exact Wk.mk' ⟨rfl, rfl, rfl, trivial⟩ ⟨rfl, rfl, trivial⟩
  have hg : i = g.links.length := by simp at hg; omega
  subst hg
  refine AWP_exit ?_;show AWP _ _ _ _ _ _;generalize brL g g.links.length = L
  rcases L with _ | ⟨l, L⟩
  · refine AWP_reg_seq tok fun K hK => ?_;refine mvQ ?_;refine asQ ?_;refine asQ ?_;refine s_end (hK _ ?_); clear hK K;refine AWP_ret ?_
    repeat (with_reducible refine tq_ret ?_)
    exact post_ret (fin_mk (by rfl) (by rfl) (by rfl))
  · refine a_fz [4] [200] 200 [(4, V1 (dNs (l :: L)))] [] rfl ?_ trivial ?_
    · exact ⟨frz_own rfl (by simp), trivial⟩
    refine AWP_reg_seq tok fun K hK => ?_;refine mvQ ?_;refine asQ ?_;refine asQ ?_;refine s_end (hK _ ?_); clear hK K;refine AWP_ret ?_
    repeat (with_reducible refine tq_ret ?_)
    exact post_ret (fin_mk (by rfl) (by rfl) (by rfl))

set_option maxHeartbeats 1000000 in
theorem rForest_c (g : GR) (hm : g.links.length ≤ 9223372036854775806) : Con Tryz.prog 20 [AG g.cs] { v := .tup [.one (.d (dNs (forestV g).1)), .one (.d (lI (forestV g).2))] } := by
  refine con_intro (fn := Tryz.f20) tok Tryz.func20 (by kernel_rfl) rfl ?_
  intro w0 X
  rw [entry_mkE _ _ [(0, AG g.cs)] rfl rfl];refine AWP_reg_seq tok fun K hK => ?_;refine s_box rfl rfl rfl rfl rfl rfl ?_;refine asQ ?_;refine asQ ?_;refine s_end (hK _ ?_); clear hK K;refine AWP_seq ?_;refine AWP_reg_seq tok fun K hK => ?_;refine ldQ ?_;refine s_call rfl rfl (r28Valid_c g hm) rfl rfl rfl rfl ?_;refine s_un rfl rfl rfl ?_;refine s_end (hK _ ?_); clear hK K;refine a_cond rfl (fun hc => ?_) (fun hc => ?_)
  · rw [Bool.not_eq_true'] at hc
    have e : forestV g = ([], 1) := by rw [forestV, if_neg (by rw [hc]; simp)]
    rw [e];refine AWP_reg_seq tok fun K hK => ?_;refine asQ ?_;refine asQ ?_;refine s_end (hK _ ?_); clear hK K;refine AWP_ret ?_
    repeat (with_reducible refine tq_ret ?_)
    exact post_ret (fin_mk (by rfl) (by rfl) (by rfl))
  rw [Bool.not_eq_false'] at hc
  have gv := validB_iff.1 hc
  have n16 := gv.n2
  have l48 := gv.l
  rw [forestV, if_pos hc];refine AWP_skip ?_;show AWP _ _ _ _ _ _;refine AWP_reg_seq tok fun K hK => ?_;refine faQ ?_;refine ldQ ?_;refine s_blt rfl (len_m RW.dc rfl rfl) rfl ?_;refine s_call rfl rfl (rNum_c g.nodes.length (by omega)) rfl rfl rfl rfl ?_;refine asQ ?_;refine s_end (hK _ ?_); clear hK K;refine AWP_reg_seq tok fun K hK => ?_;refine asQ ?_;refine s_end (hK _ ?_); clear hK K;refine AWP_seq ?_;refine AWP_reg_seq tok fun K hK => ?_;refine asQ ?_;refine s_end (hK _ ?_); clear hK K;refine AWP_block (a_loop (α := Nat × (Nat → Nat)) (fun p => mk 53 [(1, .ptr 1 0), (4, V1 (.sl (nmD g.nodes.length p.2))), (5, ownN 200 1 (foL g p.1).length), (6, dI p.1)] [(1, some (.box g.cs)), (200, arrN 1 ((foL g p.1).map cN) (foL g p.1).length)] []) (fun p => p.1 ≤ g.links.length ∧ LB g.nodes.length p.2 (rhoL (g.links.take p.1))) (fun p => g.links.length - p.1) (0, id) ?_ ⟨Nat.zero_le _, LB_id _⟩ ?_)
  · exact Wk.mk' ⟨rfl, rfl, rfl, rfl, trivial⟩ ⟨rfl, rfl, trivial⟩
  rintro ⟨i, s⟩ ⟨hi, hs⟩
  simp only at hi hs ⊢
  refine AWP_seq ?_;refine AWP_reg_seq tok fun K hK => ?_;refine mvQ ?_;refine faQ ?_;refine ldQ ?_;refine s_blt rfl (len_m LK.dc rfl rfl) rfl ?_;refine biQ ?_;refine s_end (hK _ ?_); clear hK K;refine a_cond rfl (fun hg => ?_) (fun hg => ?_)
  · have hg : i < g.links.length := by simp at hg; omega
    have hml : g.links[i] ∈ g.links := List.getElem_mem hg
    obtain ⟨x, y, hxn, hyn, hx, hy, _⟩ := (gLV gv g.links[i] hml).lt
    have n1 := foL_succ g i
    have eb : foB g i = decide (rhoL (g.links.take i) g.links[i].f.toNat ≠ rhoL (g.links.take i) g.links[i].t.toNat) := by unfold foB; rw [List.getElem?_eq_getElem hg]
    have er : rhoL (g.links.take (i + 1)) = jR (rhoL (g.links.take i)) g.links[i].f.toNat g.links[i].t.toNat := by rw [List.take_succ_eq_append_getElem hg, rhoL_snoc]
    have zl' : (foL g i).length ≤ 48 := Nat.le_trans (foL_len g i) (by omega)
    rw [hx, hy, Int.toNat_natCast, Int.toNat_natCast] at eb er;generalize rhoL (g.links.take i) = ρ at hs eb er
    have hs2 := LB_join hs hxn hyn
    rw [← er] at hs2
    have hxy := hs x y hxn hyn
    have eb2 : foB g i = decide (s x ≠ s y) := by
      rw [eb, Bool.eq_iff_iff, decide_eq_true_eq, decide_eq_true_eq]; exact not_congr hxy.symm
    have cM := rMerged_c g.nodes.length s (s x) (s y) (by omega)
    refine AWP_skip ?_;show AWP _ _ _ _ _ _;refine AWP_seq ?_;refine AWP_block ?_;generalize foL g i = L at n1 zl' ⊢
    have z1 : (L.map cN).length = L.length := List.length_map _
    obtain ⟨es, hes⟩ : ∃ es, es = L.map cN := ⟨_, rfl⟩
    obtain ⟨b, hb⟩ : ∃ b, b = L.length := ⟨_, rfl⟩
    rw [← hes] at z1 ⊢;rw [← hb] at z1 zl' ⊢
    rcases b with _ | b
    · refine a_draw tok mixed (A := [[], [], [], [], [1], [1, 2, 3], [1, 2, 3, 4], [1, 2, 3, 4, 5], [0, 1, 2, 3, 4, 5, 6], [], [], [], [], [10], [10, 11, 12], [10, 11, 12, 13], [10, 11, 12, 13, 14], [9, 10, 11, 12, 13, 14, 15], [], []]) (an := [{}, {}, {}, {}, {}, {}, {}, {}, {}, {}, {}, {}, {}, {}, {}, {}, {}, {}, {}, {}]) rfl (by kernel_rfl) rfl fun K hK => ?_;refine mvQ ?_;refine faQ ?_;refine ldQ ?_;refine mvQ ?_;refine s_indexAddr rfl (x_m LK.dc rfl rfl rfl rfl hg rfl) rfl ?_;refine faQ ?_;refine ldQ ?_;refine s_indexAddr rfl (by rw [hx]; exact x_n rfl rfl rfl rfl rfl hxn) rfl ?_;refine ldQ ?_;refine mvQ ?_;refine faQ ?_;refine ldQ ?_;refine mvQ ?_;refine s_indexAddr rfl (x_m LK.dc rfl rfl rfl rfl hg rfl) rfl ?_;refine faQ ?_;refine ldQ ?_;refine s_indexAddr rfl (by rw [hy]; exact x_n rfl rfl rfl rfl rfl hyn) rfl ?_;refine ldQ ?_;refine asQ ?_;refine asQ ?_;refine s_end (hK _ ?_); clear hK K;refine AWP_reg_seq tok fun K hK => ?_;refine mvQ ?_;refine mvQ ?_;refine s_bin rfl (e_neN _ _) rfl ?_;refine s_end (hK _ ?_); clear hK K;refine a_cond rfl (fun hd => ?_) (fun hd => ?_)
      · have hd' := of_decide_eq_true hd
        rw [← eb2] at hd;rw [if_pos hd] at n1;rw [if_neg hd'] at hs2
        have n2 : es ++ [cN i] = (foL g (i + 1)).map cN := by rw [n1, hes, List.map_append]; rfl
        have k2 : (foL g (i + 1)).length = (0) + 1 := by rw [n1, List.length_append, ← hb]; rfl
        refine AWP_reg_seq tok fun K hK => ?_;refine mvQ ?_;refine mvQ ?_;refine s_buildSlice rfl rfl rfl rfl ?_;refine s_append rfl (ap_nil rfl rfl rfl rfl rfl (by decide) (Nat.le_of_ble_eq_true rfl) rfl (by simp) rfl (by simp) (by simp)) rfl rfl rfl ?_;refine asQ ?_;refine s_end (hK _ ?_); clear hK K;refine AWP_reg tok fun K hK => ?_;refine mvQ ?_;refine mvQ ?_;refine mvQ ?_;refine s_call rfl rfl (cM) rfl rfl rfl rfl ?_;refine asQ ?_;refine s_end (hK _ ?_); clear hK K;show AWP _ _ _ _ _ _;refine AWP_reg tok fun K hK => ?_;refine mvQ ?_;refine s_bin rfl (e_add (c := ((i + 1 : Nat) : Int)) (by omega) (by omega)) rfl ?_;refine asQ ?_;refine s_end (hK _ ?_); clear hK K;refine ⟨(i + 1, mg s (s x) (s y)), (by show g.links.length - (i + 1) < g.links.length - i; omega), ⟨hg, hs2⟩, ?_⟩
        simp only
        rw [k2];refine Wk.rn [1, 4, 5, 6] [1, 47] 47 200 rfl rfl rfl ⟨rfl, rfl, ?_, rfl, trivial⟩ ⟨rfl, ?_, trivial⟩
        · first
            | rfl
            | (show SV.val (.one (.own 200 1 0 _)) = _
               rw [List.length_append, z1]; rfl)
        · first
            | (rw [← n2, List.length_eq_zero_iff.1 z1]; rfl)
            | (rw [← n2]; rfl)
      · have hd' := Classical.byContradiction fun h => of_decide_eq_false hd h
        rw [← eb2] at hd;rw [if_neg (by rw [hd]; simp)] at n1;rw [if_pos hd'] at hs2;refine AWP_skip ?_;show AWP _ _ _ _ _ _;refine AWP_reg tok fun K hK => ?_;refine mvQ ?_;refine s_bin rfl (e_add (c := ((i + 1 : Nat) : Int)) (by omega) (by omega)) rfl ?_;refine asQ ?_;refine s_end (hK _ ?_); clear hK K;refine ⟨(i + 1, s), (by show g.links.length - (i + 1) < g.links.length - i; omega), ⟨hg, hs2⟩, ?_⟩
        simp only
        rw [n1, ← hes, ← hb];exact Wk.mk' ⟨rfl, rfl, rfl, rfl, trivial⟩ ⟨rfl, rfl, trivial⟩
    · refine a_draw tok mixed (A := [[], [], [], [], [1], [1, 2, 3], [1, 2, 3, 4], [1, 2, 3, 4, 5], [0, 1, 2, 3, 4, 5, 6], [], [], [], [], [10], [10, 11, 12], [10, 11, 12, 13], [10, 11, 12, 13, 14], [9, 10, 11, 12, 13, 14, 15], [], []]) (an := [{}, {}, {}, {}, {}, {}, {}, {}, {}, {}, {}, {}, {}, {}, {}, {}, {}, {}, {}, {}]) rfl (by kernel_rfl) rfl fun K hK => ?_;refine mvQ ?_;refine faQ ?_;refine ldQ ?_;refine mvQ ?_;refine s_indexAddr rfl (x_m LK.dc rfl rfl rfl rfl hg rfl) rfl ?_;refine faQ ?_;refine ldQ ?_;refine s_indexAddr rfl (by rw [hx]; exact x_n rfl rfl rfl rfl rfl hxn) rfl ?_;refine ldQ ?_;refine mvQ ?_;refine faQ ?_;refine ldQ ?_;refine mvQ ?_;refine s_indexAddr rfl (x_m LK.dc rfl rfl rfl rfl hg rfl) rfl ?_;refine faQ ?_;refine ldQ ?_;refine s_indexAddr rfl (by rw [hy]; exact x_n rfl rfl rfl rfl rfl hyn) rfl ?_;refine ldQ ?_;refine asQ ?_;refine asQ ?_;refine s_end (hK _ ?_); clear hK K;refine AWP_reg_seq tok fun K hK => ?_;refine mvQ ?_;refine mvQ ?_;refine s_bin rfl (e_neN _ _) rfl ?_;refine s_end (hK _ ?_); clear hK K;refine a_cond rfl (fun hd => ?_) (fun hd => ?_)
      · have hd' := of_decide_eq_true hd
        rw [← eb2] at hd;rw [if_pos hd] at n1;rw [if_neg hd'] at hs2
        have n2 : es ++ [cN i] = (foL g (i + 1)).map cN := by rw [n1, hes, List.map_append]; rfl
        have k2 : (foL g (i + 1)).length = (b + 1) + 1 := by rw [n1, List.length_append, ← hb]; rfl
        refine AWP_reg_seq tok fun K hK => ?_;refine mvQ ?_;refine mvQ ?_;refine s_buildSlice rfl rfl rfl rfl ?_;refine s_append rfl (ap_o rfl rfl rfl rfl rfl rfl (by decide) (Nat.le_of_ble_eq_true rfl) rfl (by simp) rfl rfl z1.symm (by simp <;> omega)) rfl rfl rfl ?_;refine asQ ?_;refine s_end (hK _ ?_); clear hK K;refine AWP_reg tok fun K hK => ?_;refine mvQ ?_;refine mvQ ?_;refine mvQ ?_;refine s_call rfl rfl (cM) rfl rfl rfl rfl ?_;refine asQ ?_;refine s_end (hK _ ?_); clear hK K;show AWP _ _ _ _ _ _;refine AWP_reg tok fun K hK => ?_;refine mvQ ?_;refine s_bin rfl (e_add (c := ((i + 1 : Nat) : Int)) (by omega) (by omega)) rfl ?_;refine asQ ?_;refine s_end (hK _ ?_); clear hK K;refine ⟨(i + 1, mg s (s x) (s y)), (by show g.links.length - (i + 1) < g.links.length - i; omega), ⟨hg, hs2⟩, ?_⟩
        simp only
        rw [k2];refine Wk.rn [1, 4, 5, 6] [1, 47] 47 200 rfl rfl rfl ⟨rfl, rfl, ?_, rfl, trivial⟩ ⟨rfl, ?_, trivial⟩
        · first
            | rfl
            | (show SV.val (.one (.own 200 1 0 _)) = _
               rw [List.length_append, z1]; rfl)
        · first
            | (rw [← n2, List.length_eq_zero_iff.1 z1]; rfl)
            | (rw [← n2]; rfl)
      · have hd' := Classical.byContradiction fun h => of_decide_eq_false hd h
        rw [← eb2] at hd;rw [if_neg (by rw [hd]; simp)] at n1;rw [if_pos hd'] at hs2;refine AWP_skip ?_;show AWP _ _ _ _ _ _;refine AWP_reg tok fun K hK => ?_;refine mvQ ?_;refine s_bin rfl (e_add (c := ((i + 1 : Nat) : Int)) (by omega) (by omega)) rfl ?_;refine asQ ?_;refine s_end (hK _ ?_); clear hK K;refine ⟨(i + 1, s), (by show g.links.length - (i + 1) < g.links.length - i; omega), ⟨hg, hs2⟩, ?_⟩
        simp only
        rw [n1, ← hes, ← hb];exact Wk.mk' ⟨rfl, rfl, rfl, rfl, trivial⟩ ⟨rfl, rfl, trivial⟩
  have hg : i = g.links.length := by simp at hg; omega
  subst hg
  refine AWP_exit ?_;show AWP _ _ _ _ _ _;generalize foL g g.links.length = L
  rcases L with _ | ⟨l, L⟩
  · refine AWP_reg_seq tok fun K hK => ?_;refine mvQ ?_;refine asQ ?_;refine asQ ?_;refine s_end (hK _ ?_); clear hK K;refine AWP_ret ?_
    repeat (with_reducible refine tq_ret ?_)
    exact post_ret (fin_mk (by rfl) (by rfl) (by rfl))
  · refine a_fz [5] [200] 200 [(5, V1 (dNs (l :: L)))] [] rfl ?_ trivial ?_
    · exact ⟨frz_own rfl (by simp), trivial⟩
    refine AWP_reg_seq tok fun K hK => ?_;refine mvQ ?_;refine asQ ?_;refine asQ ?_;refine s_end (hK _ ?_); clear hK K;refine AWP_ret ?_
    repeat (with_reducible refine tq_ret ?_)
    exact post_ret (fin_mk (by rfl) (by rfl) (by rfl))

theorem ns_same (l : List Nat) (h : l.length ≤ 1048576) : Con Tryz.prog 22 [V1 (dNs l), V1 (dNs l)] { v := dB true } := by
  have e : dNs l = dIs (l.map fun n : Nat => (n : Int)) := by unfold dNs dIs; rw [List.map_map]; rfl
  rw [e];exact ints_same _ (by rw [List.length_map]; omega)

set_option maxHeartbeats 1000000 in
theorem lTrees_c (g : GR) : Con Tryz.prog 4 [AG g.cs] { v := dB true } := by
  refine con_intro (fn := Tryz.f4) tok Tryz.func4 (by kernel_rfl) rfl ?_
  intro w0 X
  rw [entry_mkE _ _ [(0, AG g.cs)] rfl rfl];refine AWP_reg_seq tok fun K hK => ?_;refine s_box rfl rfl rfl rfl rfl rfl ?_;refine asQ ?_;refine s_end (hK _ ?_); clear hK K;refine AWP_seq ?_;refine a_join (α := Bool) (fun c => mk 81 [(1, .ptr 1 0), (21, dB c)] [(1, some (.box g.cs))] []) (fun c => c = !fewL g) ?_ ?_
  · refine AWP_regW fun K hK => ?_;refine w_step tok rfl ?_;refine s_call rfl rfl (awake_c) rfl rfl rfl rfl ?_;refine s_end ?_;refine w_step tok rfl ?_;refine s_un rfl rfl rfl ?_;refine s_end ?_;refine w_step tok rfl ?_;refine mvQ ?_;refine s_end ?_;refine w_split (fun h0 => ?_) (fun h0 => ?_)
    · refine w_skip rfl rfl ?_;refine w_skip rfl rfl ?_;refine w_skip rfl rfl ?_;refine w_step tok rfl ?_;refine piQ ?_;refine s_end ?_;refine w_end rfl (hK _ ?_); clear hK K
      first|(exact absurd h0 (by decide))|exact ⟨_, (by simp only [Bool.not_eq_true', Bool.not_eq_false'] at h0; simp only [h0, Bool.not_false, Bool.not_true]), Wk.mk' ⟨rfl, rfl, trivial⟩ ⟨rfl, trivial⟩⟩
    · refine w_step tok rfl ?_;refine ldQ ?_;refine s_end ?_;refine w_step tok rfl ?_;refine s_call rfl rfl (rFew_c g) rfl rfl rfl rfl ?_;refine s_end ?_;refine w_step tok rfl ?_;refine s_un rfl rfl rfl ?_;refine s_end ?_;refine w_step tok rfl ?_;refine piQ ?_;refine s_end ?_;refine w_end rfl (hK _ ?_); clear hK K
      first|(exact absurd h0 (by decide))|exact ⟨_, (by simp only [Bool.not_eq_true', Bool.not_eq_false'] at h0; simp only [h0, Bool.not_false, Bool.not_true]), Wk.mk' ⟨rfl, rfl, trivial⟩ ⟨rfl, trivial⟩⟩
  rintro c rfl
  refine a_cond rfl (fun hc => ?_) (fun hc => ?_)
  · refine AWP_reg_seq tok fun K hK => ?_;refine s_call rfl rfl (awake_c) rfl rfl rfl rfl ?_;refine asQ ?_;refine s_end (hK _ ?_); clear hK K;refine AWP_ret ?_
    repeat (with_reducible refine tq_ret ?_)
    exact post_ret (fin_mk (by rfl) (by rfl) (by rfl))
  rw [Bool.not_eq_false'] at hc
  have h11 : g.links.length ≤ 11 := (of_decide_eq_true hc).2.1
  have c1 := gTrees_c g
  have c2 := gBridges_c g
  have c3 := gForest_c g
  have c4 := rTreesAll_c g (by omega)
  have c5 := rBridges_c g (by omega)
  have c6 := rForest_c g (by omega)
  have z1 : zl (treesV g).1 ≤ 8 := by
    unfold treesV; split
    · rename_i hv
      exact trZ_zl8 _ _ (fun l hl => by have := (gLV (validB_iff.1 hv) l hl).w; omega) h11
    · decide
  have c7 : Con Tryz.prog 21 [AG (ZC (treesV g).1), AG (ZC (treesV g).1)] { v := dB true } := by
    have c := bInt_c (decide ((treesV g).1 < 0)) (decide ((treesV g).1 < 0)) (wof (treesV g).1.natAbs) (wof (treesV g).1.natAbs) (Nat.le_trans z1 (by decide))
    rw [decide_eq_true (And.intro rfl rfl)] at c;exact c
  have c8 : Con Tryz.prog 22 [V1 (dNs (bridgeV g).1), V1 (dNs (bridgeV g).1)] { v := dB true } := ns_same _ (by
    unfold bridgeV; split
    · exact Nat.le_trans (brL_len _ _) (by omega)
    · exact Nat.zero_le _)
  have c9 : Con Tryz.prog 22 [V1 (dNs (forestV g).1), V1 (dNs (forestV g).1)] { v := dB true } := ns_same _ (by
    unfold forestV; split
    · exact Nat.le_trans (foL_len _ _) (by omega)
    · exact Nat.zero_le _)
  generalize treesV g = lv at c1 c4 c7;generalize bridgeV g = av at c2 c5 c8;generalize forestV g = dv at c3 c6 c9
  obtain ⟨lv, e1⟩ := lv
  obtain ⟨av, e2⟩ := av
  obtain ⟨dv, e3⟩ := dv
  refine AWP_skip ?_;show AWP _ _ _ _ _ _;refine AWP_reg_seq tok fun K hK => ?_;refine ldQ ?_;refine s_call rfl rfl (c1) rfl rfl rfl rfl ?_;refine mvQ ?_;refine s_extract rfl rfl rfl ?_;refine s_extract rfl rfl rfl ?_;refine s_alloc rfl rfl rfl rfl rfl rfl ?_;refine s_store rfl rfl rfl rfl rfl ?_;refine asQ ?_;refine s_end (hK _ ?_); clear hK K;refine AWP_reg_seq tok fun K hK => ?_;refine ldQ ?_;refine s_call rfl rfl (c2) rfl rfl rfl rfl ?_;refine mvQ ?_;refine s_extract rfl rfl rfl ?_;refine s_extract rfl rfl rfl ?_;refine asQ ?_;refine asQ ?_;refine s_end (hK _ ?_); clear hK K;refine AWP_reg_seq tok fun K hK => ?_;refine ldQ ?_;refine s_call rfl rfl (c3) rfl rfl rfl rfl ?_;refine mvQ ?_;refine s_extract rfl rfl rfl ?_;refine s_extract rfl rfl rfl ?_;refine asQ ?_;refine asQ ?_;refine s_end (hK _ ?_); clear hK K;refine AWP_reg_seq tok fun K hK => ?_;refine ldQ ?_;refine s_call rfl rfl (c4) rfl rfl rfl rfl ?_;refine mvQ ?_;refine s_extract rfl rfl rfl ?_;refine s_extract rfl rfl rfl ?_;refine s_alloc rfl rfl rfl rfl rfl rfl ?_;refine s_store rfl rfl rfl rfl rfl ?_;refine asQ ?_;refine s_end (hK _ ?_); clear hK K;refine AWP_reg_seq tok fun K hK => ?_;refine ldQ ?_;refine s_call rfl rfl (c5) rfl rfl rfl rfl ?_;refine mvQ ?_;refine s_extract rfl rfl rfl ?_;refine s_extract rfl rfl rfl ?_;refine asQ ?_;refine asQ ?_;refine s_end (hK _ ?_); clear hK K;refine AWP_reg_seq tok fun K hK => ?_;refine ldQ ?_;refine s_call rfl rfl (c6) rfl rfl rfl rfl ?_;refine mvQ ?_;refine s_extract rfl rfl rfl ?_;refine s_extract rfl rfl rfl ?_;refine asQ ?_;refine asQ ?_;refine s_end (hK _ ?_); clear hK K;refine AWP_reg_seq tok fun K hK => ?_;refine mvQ ?_;refine mvQ ?_;refine s_bin rfl (e_eqI rfl) rfl ?_;refine mvQ ?_;refine mvQ ?_;refine mvQ ?_;refine s_bin rfl (e_eqI rfl) rfl ?_;refine piQ ?_;refine mvQ ?_;refine mvQ ?_;refine mvQ ?_;refine s_bin rfl (e_eqI rfl) rfl ?_;refine piQ ?_;refine mvQ ?_;refine ldQ ?_;refine ldQ ?_;refine s_call rfl rfl (c7) rfl rfl rfl rfl ?_;refine piQ ?_;refine mvQ ?_;refine mvQ ?_;refine mvQ ?_;refine s_call rfl rfl (c8) rfl rfl rfl rfl ?_;refine piQ ?_;refine mvQ ?_;refine mvQ ?_;refine mvQ ?_;refine s_call rfl rfl (c9) rfl rfl rfl rfl ?_;refine piQ ?_;refine asQ ?_;refine s_end (hK _ ?_); clear hK K;refine AWP_ret ?_
  repeat (with_reducible refine tq_ret ?_)
  exact post_ret (fin_mk (by rfl) (by rfl) (by rfl))
end Go.Proofs.YtgopibpkgmafiaaGreat
