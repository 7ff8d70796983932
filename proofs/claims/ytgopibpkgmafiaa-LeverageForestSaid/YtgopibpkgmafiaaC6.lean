/- Part of a proof that a Go function answers true for every input. No condition. -/
import Derived.Test.YtgopibpkgmafiaaC5
set_option linter.unusedVariables false
set_option linter.unusedSimpArgs false
set_option linter.unusedSectionVars false
/- Bridges. No condition. -/
namespace Go.Proofs.Ytgopibpkgmafiaa
attribute [local irreducible] lexA
open Go.RowKit

def brB (g : GR) (i : Nat) : Bool := match g.links[i]? with | some l => decide (rhoL (g.links.eraseIdx i) l.f.toNat ≠ rhoL (g.links.eraseIdx i) l.t.toNat) | none => false
def brL (g : GR) (k : Nat) : List Nat := (List.range k).filter (brB g)
def bridgeV (g : GR) : List Nat × Int := if validB g = true then (brL g g.links.length, 0) else ([], 1)
theorem brL_succ (g : GR) (k : Nat) : brL g (k + 1) = if brB g k = true then brL g k ++ [k] else brL g k := by
  unfold brL
  rw [List.range_succ, List.filter_append]
  by_cases h : brB g k = true
  · rw [if_pos h]; simp [h]
  · rw [if_neg h]; simp [h]
theorem brL_len (g : GR) (k : Nat) : (brL g k).length ≤ k := Nat.le_trans (List.length_filter_le _ _) (by simp)

theorem gBridges_c (g : GR) : Con Try.prog 27 [AG g.cs] { v := .tup [.one (.d (dNs (bridgeV g).1)), .one (.d (lI (bridgeV g).2))] } := by
  refine con_intro (fn := Try.f27) tok Try.func27 (by kernel_rfl) rfl ?_
  intro w0 X
  rw [entry_mkE _ _ [(0, AG g.cs)] rfl rfl];refine AWP_reg_seq tok fun K hK => ?_;refine s_box rfl rfl rfl rfl rfl rfl ?_;refine s_assign rfl rfl rfl ?_;refine s_assign rfl rfl rfl ?_;refine s_end (hK _ ?_); clear hK K;refine AWP_seq ?_;refine AWP_reg_seq tok fun K hK => ?_;refine s_load rfl rfl rfl ?_;refine s_call rfl rfl (gValid_c g) rfl rfl rfl rfl ?_;refine s_un rfl rfl rfl ?_;refine s_end (hK _ ?_); clear hK K;refine a_cond rfl (fun hc => ?_) (fun hc => ?_)
  · rw [Bool.not_eq_true'] at hc
    have e : bridgeV g = ([], 1) := by rw [bridgeV, if_neg (by rw [hc]; simp)]
    rw [e];refine AWP_reg_seq tok fun K hK => ?_;refine s_assign rfl rfl rfl ?_;refine s_assign rfl rfl rfl ?_;refine s_end (hK _ ?_); clear hK K;refine AWP_ret ?_
    repeat (with_reducible refine tq_ret ?_)
    exact post_ret (fin_mk (by rfl) (by rfl) (by rfl))
  rw [Bool.not_eq_false'] at hc
  have gv := validB_iff.1 hc
  have n16 := gv.n2
  have l48 := gv.l
  rw [bridgeV, if_pos hc];refine AWP_skip ?_;show AWP _ _ _ _ _ _;refine AWP_reg_seq tok fun K hK => ?_;refine s_assign rfl rfl rfl ?_;refine s_end (hK _ ?_); clear hK K;refine AWP_seq ?_;refine AWP_reg_seq tok fun K hK => ?_;refine s_fieldAddr rfl rfl rfl ?_;refine s_load rfl rfl rfl ?_;refine s_blt rfl (len_m LK.dc rfl rfl) rfl ?_;refine s_move rfl rfl rfl ?_;refine s_end (hK _ ?_); clear hK K;refine AWP_block (a_loop (α := Nat) (fun i => mk 58 [(1, .ptr 1 0), (4, ownN 200 1 (brL g i).length), (14, V1 (dLs g.links)), (15, dI g.links.length), (16, dI i)] [(1, some (.box g.cs)), (200, arrN 1 ((brL g i).map cN) (brL g i).length)] []) (fun i => i ≤ g.links.length) (fun i => g.links.length - i) 0 ?_ (Nat.zero_le _) ?_)
  · exact Wk.mk' ⟨rfl, rfl, rfl, rfl, rfl, trivial⟩ ⟨rfl, rfl, trivial⟩
  intro i hi
  refine AWP_reg_seq tok fun K hK => ?_;refine s_bin rfl rfl rfl ?_;refine s_end (hK _ ?_); clear hK K;refine AWP_seq ?_;refine a_cond rfl (fun hg => ?_) (fun hg => ?_)
  · have hg : i < g.links.length := by simp at hg; omega
    obtain ⟨l, el⟩ : ∃ l, l = g.links[i] := ⟨_, rfl⟩
    have hml : l ∈ g.links := el ▸ List.getElem_mem hg
    have hget : g.links[i]? = some l := by rw [List.getElem?_eq_getElem hg, el]
    obtain ⟨x, y, hxn, hyn, hx, hy, _⟩ := (gLV gv l hml).lt
    have n1 := brL_succ g i
    have eb : brB g i = decide (rhoL (g.links.eraseIdx i) l.f.toNat ≠ rhoL (g.links.eraseIdx i) l.t.toNat) := by unfold brB; rw [hget]
    have zl' : (brL g i).length ≤ 48 := Nat.le_trans (brL_len g i) (by omega)
    obtain ⟨lf, lt, lx, ly, lw⟩ := l
    simp only at hx hy
    subst hx hy
    simp only [Int.toNat_natCast] at eb;refine AWP_skip ?_;show AWP _ _ _ _ _ _;refine AWP_seq ?_;refine AWP_block ?_;generalize brL g i = L at n1 zl' ⊢
    have z1 : (L.map cN).length = L.length := List.length_map _
    obtain ⟨es, hes⟩ : ∃ es, es = L.map cN := ⟨_, rfl⟩
    obtain ⟨b, hb⟩ : ∃ b, b = L.length := ⟨_, rfl⟩
    rw [← hes] at z1 ⊢;rw [← hb] at z1 zl' ⊢
    rcases b with _ | b
    · refine AWP_reg_seq tok fun K hK => ?_;refine s_move rfl rfl rfl ?_;refine s_indexAddr rfl (x_m LK.dc rfl rfl rfl rfl hg rfl) rfl ?_;refine s_load rfl rfl rfl ?_;refine s_alloc rfl rfl rfl rfl rfl rfl ?_;refine s_assign rfl rfl rfl ?_;refine s_store rfl rfl rfl rfl rfl ?_;refine s_end (hK _ ?_); clear hK K;rw [← el];refine AWP_reg_seq tok fun K hK => ?_;refine s_fieldAddr rfl rfl rfl ?_;refine s_load rfl rfl rfl ?_;refine s_blt rfl (len_m RW.dc rfl rfl) rfl ?_;refine s_callN rfl rfl (single_c g.nodes.length (by omega)) (Or.inl rfl) rfl rfl rfl rfl ?_;refine s_assign rfl rfl rfl ?_;refine s_end (hK _ ?_); clear hK K;refine AWP_seq ?_;refine AWP_reg_seq tok fun K hK => ?_;refine s_fieldAddr rfl rfl rfl ?_;refine s_load rfl rfl rfl ?_;refine s_blt rfl (len_m LK.dc rfl rfl) rfl ?_;refine s_move rfl rfl rfl ?_;refine s_end (hK _ ?_); clear hK K;refine AWP_block (a_loop (α := Nat × (Nat → Nat)) (fun p => mk 58 [(1, .ptr 1 0), (4, ownN 200 1 (0)), (5, dI i), (6, .ptr 6 0), (7, .val (.one (.own 24 1 0 g.nodes.length))), (14, V1 (dLs g.links)), (15, dI g.links.length), (16, dI i), (26, V1 (dLs g.links)), (27, dI g.links.length), (28, dI p.1)] [(1, some (.box g.cs)), (6, some (.box (LK.mk x y lx ly lw).cs)), (24, some (.arr 1 (nmD g.nodes.length p.2))), (200, arrN 1 es (0))] []) (fun p => p.1 ≤ g.links.length ∧ RTs g.nodes.length p.2 (rhoL (woL i g.links p.1))) (fun p => g.links.length - p.1) (0, id) ?_ ⟨Nat.zero_le _, by unfold woL; simp only [List.take_zero, List.eraseIdx_nil]; exact RTs_id _⟩ ?_)
      · exact Wk.mk' ⟨rfl, rfl, rfl, rfl, rfl, rfl, rfl, rfl, rfl, rfl, rfl, trivial⟩ ⟨rfl, rfl, rfl, rfl, trivial⟩
      rintro ⟨j, s⟩ ⟨hj, hs⟩
      simp only at hj hs ⊢
      refine AWP_reg_seq tok fun K hK => ?_;refine s_bin rfl rfl rfl ?_;refine s_end (hK _ ?_); clear hK K;refine AWP_seq ?_;refine a_cond rfl (fun hk => ?_) (fun hk => ?_)
      · have hk : j < g.links.length := by simp at hk; omega
        obtain ⟨m, em⟩ : ∃ m, m = g.links[j] := ⟨_, rfl⟩
        have hmm : m ∈ g.links := em ▸ List.getElem_mem hk
        obtain ⟨p, q, hpn, hqn, hp, hq, _⟩ := (gLV gv m hmm).lt
        have w1 := woL_succ (k := i) hk
        rw [← em] at w1
        obtain ⟨mf, mt, mx, my, mw⟩ := m
        simp only at hp hq
        subst hp hq
        refine AWP_skip ?_;show AWP _ _ _ _ _ _;refine AWP_seq ?_;refine AWP_block ?_;refine AWP_reg_seq tok fun K hK => ?_;refine s_move rfl rfl rfl ?_;refine s_indexAddr rfl (x_m LK.dc rfl rfl rfl rfl hk rfl) rfl ?_;refine s_load rfl rfl rfl ?_;refine s_alloc rfl rfl rfl rfl rfl rfl ?_;refine s_assign rfl rfl rfl ?_;refine s_store rfl rfl rfl rfl rfl ?_;refine s_end (hK _ ?_); clear hK K;rw [← em];refine AWP_reg_seq tok fun K hK => ?_;refine s_move rfl rfl rfl ?_;refine s_move rfl rfl rfl ?_;refine s_bin rfl (e_neN _ _) rfl ?_;refine s_end (hK _ ?_); clear hK K;refine a_cond rfl (fun hd => ?_) (fun hd => ?_)
        · have hd := of_decide_eq_true hd
          rw [if_neg hd] at w1
          have er : rhoL (woL i g.links (j + 1)) = jR (rhoL (woL i g.links j)) p q := by rw [w1, rhoL_snoc]; rfl
          generalize rhoL (woL i g.links j) = ρ at hs er
          have hrp := hs p hpn
          have hrq := hs q hqn
          have hs2 := RTs_join (s' := fun z => if z = ρ p then ρ q else s z) hs hpn hqn (fun _ => rfl)
          rw [← er] at hs2;refine AWP_regW fun K hK => ?_;refine w_step tok rfl ?_;refine s_move rfl rfl rfl ?_;refine s_end ?_;refine w_step tok rfl ?_;refine s_fieldAddr rfl rfl rfl ?_;refine s_end ?_;refine w_step tok rfl ?_;refine s_load rfl rfl rfl ?_;refine s_end ?_;refine w_step tok rfl ?_;refine s_fieldAddr rfl rfl rfl ?_;refine s_end ?_;refine w_step tok rfl ?_;refine s_load rfl rfl rfl ?_;refine s_end ?_;refine w_join (m := g.nodes.length) (s' := fun z => if z = ρ p then ρ q else s z) (join_m hrp hrq) rfl rfl rfl rfl rfl hrp.lt (fun _ _ => rfl) ?_;refine w_end rfl (hK _ ?_); clear hK K;show AWP _ _ _ _ _ _;refine AWP_reg tok fun K hK => ?_;refine s_bin rfl (e_add (c := ((j + 1 : Nat) : Int)) (by omega) (by omega)) rfl ?_;refine s_move rfl rfl rfl ?_;refine s_end (hK _ ?_); clear hK K;exact ⟨(j + 1, fun z => if z = ρ p then ρ q else s z), (by show g.links.length - (j + 1) < g.links.length - j; omega), ⟨hk, hs2⟩, Wk.mk' ⟨rfl, rfl, rfl, rfl, rfl, rfl, rfl, rfl, rfl, rfl, rfl, trivial⟩ ⟨rfl, rfl, rfl, rfl, trivial⟩⟩
        · have hd : j = i := Classical.byContradiction (of_decide_eq_false hd)
          rw [if_pos hd] at w1;refine AWP_skip ?_;show AWP _ _ _ _ _ _;refine AWP_reg tok fun K hK => ?_;refine s_bin rfl (e_add (c := ((j + 1 : Nat) : Int)) (by omega) (by omega)) rfl ?_;refine s_move rfl rfl rfl ?_;refine s_end (hK _ ?_); clear hK K;exact ⟨(j + 1, s), (by show g.links.length - (j + 1) < g.links.length - j; omega), ⟨hk, by simp only; rw [w1]; exact hs⟩, Wk.mk' ⟨rfl, rfl, rfl, rfl, rfl, rfl, rfl, rfl, rfl, rfl, rfl, trivial⟩ ⟨rfl, rfl, rfl, rfl, trivial⟩⟩
      have hk : j = g.links.length := by simp at hk; omega
      subst hk
      have ew : woL i g.links g.links.length = g.links.eraseIdx i := by unfold woL; rw [List.take_length]
      rw [ew] at hs;generalize rhoL (g.links.eraseIdx i) = ρ at hs eb
      have cx := root_c g.nodes.length s x (ρ x) (hs x hxn)
      have cy := root_c g.nodes.length s y (ρ y) (hs y hyn)
      refine AWP_exit ?_;show AWP _ _ _ _ _ _;refine a_fz [1, 4, 5, 6, 7, 14, 15, 16] [1, 6, 24, 200] 24 [(1, .ptr 1 0), (4, ownN 200 1 (0)), (5, dI i), (6, .ptr 6 0), (7, V1 (.sl (nmD g.nodes.length s))), (14, V1 (dLs g.links)), (15, dI g.links.length), (16, dI i)] [(1, some (.box g.cs)), (6, some (.box (LK.mk x y lx ly lw).cs)), (200, arrN 1 es (0))] rfl ?_ ⟨rfl, rfl, rfl, trivial⟩ ?_
      · exact ⟨rfl, rfl, rfl, rfl, frz_own rfl (by rw [nmD_length]), rfl, rfl, rfl, trivial⟩
      refine a_draw tok mixed (A := [[], [], [], [1], [], [], [], [0, 1, 2, 5], [0, 1, 2, 4, 5, 6]]) (an := [{}, {}, {}, {}, { c := [46] }, { c := [46] }, { c := [46] }, {}, {}]) rfl (by kernel_rfl) rfl fun K hK => ?_;refine s_move rfl rfl rfl ?_;refine s_fieldAddr rfl rfl rfl ?_;refine s_load rfl rfl rfl ?_;refine s_call rfl rfl (cx) rfl rfl rfl rfl ?_;refine s_move rfl rfl rfl ?_;refine s_fieldAddr rfl rfl rfl ?_;refine s_load rfl rfl rfl ?_;refine s_call rfl rfl (cy) rfl rfl rfl rfl ?_;refine s_bin rfl (e_neN _ _) rfl ?_;refine s_end (hK _ ?_); clear hK K;refine a_cond rfl (fun hd => ?_) (fun hd => ?_)
      · rw [← eb] at hd;rw [if_pos hd] at n1
        have n2 : es ++ [cN i] = (brL g (i + 1)).map cN := by rw [n1, hes, List.map_append]; rfl
        have k2 : (brL g (i + 1)).length = (0) + 1 := by rw [n1, List.length_append, ← hb]; rfl
        refine AWP_reg tok fun K hK => ?_;refine s_move rfl rfl rfl ?_;refine s_move rfl rfl rfl ?_;refine s_buildSlice rfl rfl rfl rfl ?_;refine s_append rfl (ap_nil rfl rfl rfl rfl rfl (by decide) (Nat.le_of_ble_eq_true rfl) rfl (by simp) rfl (by simp) (by simp)) rfl rfl rfl ?_;refine s_assign rfl rfl rfl ?_;refine s_end (hK _ ?_); clear hK K;show AWP _ _ _ _ _ _;refine AWP_reg tok fun K hK => ?_;refine s_bin rfl (e_add (c := ((i + 1 : Nat) : Int)) (by omega) (by omega)) rfl ?_;refine s_move rfl rfl rfl ?_;refine s_end (hK _ ?_); clear hK K;refine ⟨i + 1, by omega, hg, ?_⟩;rw [k2];refine Wk.rn [1, 4, 14, 15, 16] [1, 55] 55 200 rfl rfl rfl ⟨rfl, ?_, rfl, rfl, rfl, trivial⟩ ⟨rfl, ?_, trivial⟩
        · first
            | rfl
            | (show SV.val (.one (.own 200 1 0 _)) = _
               rw [List.length_append, z1]; rfl)
        · first
            | (rw [← n2, List.length_eq_zero_iff.1 z1]; rfl)
            | (rw [← n2]; rfl)
      · rw [← eb] at hd;rw [if_neg (by rw [hd]; simp)] at n1;refine AWP_skip ?_;show AWP _ _ _ _ _ _;refine AWP_reg tok fun K hK => ?_;refine s_bin rfl (e_add (c := ((i + 1 : Nat) : Int)) (by omega) (by omega)) rfl ?_;refine s_move rfl rfl rfl ?_;refine s_end (hK _ ?_); clear hK K;refine ⟨i + 1, by omega, hg, ?_⟩;rw [n1, ← hes, ← hb];exact Wk.mk' ⟨rfl, rfl, rfl, rfl, rfl, trivial⟩ ⟨rfl, rfl, trivial⟩
    · refine AWP_reg_seq tok fun K hK => ?_;refine s_move rfl rfl rfl ?_;refine s_indexAddr rfl (x_m LK.dc rfl rfl rfl rfl hg rfl) rfl ?_;refine s_load rfl rfl rfl ?_;refine s_alloc rfl rfl rfl rfl rfl rfl ?_;refine s_assign rfl rfl rfl ?_;refine s_store rfl rfl rfl rfl rfl ?_;refine s_end (hK _ ?_); clear hK K;rw [← el];refine AWP_reg_seq tok fun K hK => ?_;refine s_fieldAddr rfl rfl rfl ?_;refine s_load rfl rfl rfl ?_;refine s_blt rfl (len_m RW.dc rfl rfl) rfl ?_;refine s_callN rfl rfl (single_c g.nodes.length (by omega)) (Or.inl rfl) rfl rfl rfl rfl ?_;refine s_assign rfl rfl rfl ?_;refine s_end (hK _ ?_); clear hK K;refine AWP_seq ?_;refine AWP_reg_seq tok fun K hK => ?_;refine s_fieldAddr rfl rfl rfl ?_;refine s_load rfl rfl rfl ?_;refine s_blt rfl (len_m LK.dc rfl rfl) rfl ?_;refine s_move rfl rfl rfl ?_;refine s_end (hK _ ?_); clear hK K;refine AWP_block (a_loop (α := Nat × (Nat → Nat)) (fun p => mk 58 [(1, .ptr 1 0), (4, ownN 200 1 (b + 1)), (5, dI i), (6, .ptr 6 0), (7, .val (.one (.own 24 1 0 g.nodes.length))), (14, V1 (dLs g.links)), (15, dI g.links.length), (16, dI i), (26, V1 (dLs g.links)), (27, dI g.links.length), (28, dI p.1)] [(1, some (.box g.cs)), (6, some (.box (LK.mk x y lx ly lw).cs)), (24, some (.arr 1 (nmD g.nodes.length p.2))), (200, arrN 1 es (b + 1))] []) (fun p => p.1 ≤ g.links.length ∧ RTs g.nodes.length p.2 (rhoL (woL i g.links p.1))) (fun p => g.links.length - p.1) (0, id) ?_ ⟨Nat.zero_le _, by unfold woL; simp only [List.take_zero, List.eraseIdx_nil]; exact RTs_id _⟩ ?_)
      · exact Wk.mk' ⟨rfl, rfl, rfl, rfl, rfl, rfl, rfl, rfl, rfl, rfl, rfl, trivial⟩ ⟨rfl, rfl, rfl, rfl, trivial⟩
      rintro ⟨j, s⟩ ⟨hj, hs⟩
      simp only at hj hs ⊢
      refine AWP_reg_seq tok fun K hK => ?_;refine s_bin rfl rfl rfl ?_;refine s_end (hK _ ?_); clear hK K;refine AWP_seq ?_;refine a_cond rfl (fun hk => ?_) (fun hk => ?_)
      · have hk : j < g.links.length := by simp at hk; omega
        obtain ⟨m, em⟩ : ∃ m, m = g.links[j] := ⟨_, rfl⟩
        have hmm : m ∈ g.links := em ▸ List.getElem_mem hk
        obtain ⟨p, q, hpn, hqn, hp, hq, _⟩ := (gLV gv m hmm).lt
        have w1 := woL_succ (k := i) hk
        rw [← em] at w1
        obtain ⟨mf, mt, mx, my, mw⟩ := m
        simp only at hp hq
        subst hp hq
        refine AWP_skip ?_;show AWP _ _ _ _ _ _;refine AWP_seq ?_;refine AWP_block ?_;refine AWP_reg_seq tok fun K hK => ?_;refine s_move rfl rfl rfl ?_;refine s_indexAddr rfl (x_m LK.dc rfl rfl rfl rfl hk rfl) rfl ?_;refine s_load rfl rfl rfl ?_;refine s_alloc rfl rfl rfl rfl rfl rfl ?_;refine s_assign rfl rfl rfl ?_;refine s_store rfl rfl rfl rfl rfl ?_;refine s_end (hK _ ?_); clear hK K;rw [← em];refine AWP_reg_seq tok fun K hK => ?_;refine s_move rfl rfl rfl ?_;refine s_move rfl rfl rfl ?_;refine s_bin rfl (e_neN _ _) rfl ?_;refine s_end (hK _ ?_); clear hK K;refine a_cond rfl (fun hd => ?_) (fun hd => ?_)
        · have hd := of_decide_eq_true hd
          rw [if_neg hd] at w1
          have er : rhoL (woL i g.links (j + 1)) = jR (rhoL (woL i g.links j)) p q := by rw [w1, rhoL_snoc]; rfl
          generalize rhoL (woL i g.links j) = ρ at hs er
          have hrp := hs p hpn
          have hrq := hs q hqn
          have hs2 := RTs_join (s' := fun z => if z = ρ p then ρ q else s z) hs hpn hqn (fun _ => rfl)
          rw [← er] at hs2;refine AWP_regW fun K hK => ?_;refine w_step tok rfl ?_;refine s_move rfl rfl rfl ?_;refine s_end ?_;refine w_step tok rfl ?_;refine s_fieldAddr rfl rfl rfl ?_;refine s_end ?_;refine w_step tok rfl ?_;refine s_load rfl rfl rfl ?_;refine s_end ?_;refine w_step tok rfl ?_;refine s_fieldAddr rfl rfl rfl ?_;refine s_end ?_;refine w_step tok rfl ?_;refine s_load rfl rfl rfl ?_;refine s_end ?_;refine w_join (m := g.nodes.length) (s' := fun z => if z = ρ p then ρ q else s z) (join_m hrp hrq) rfl rfl rfl rfl rfl hrp.lt (fun _ _ => rfl) ?_;refine w_end rfl (hK _ ?_); clear hK K;show AWP _ _ _ _ _ _;refine AWP_reg tok fun K hK => ?_;refine s_bin rfl (e_add (c := ((j + 1 : Nat) : Int)) (by omega) (by omega)) rfl ?_;refine s_move rfl rfl rfl ?_;refine s_end (hK _ ?_); clear hK K;exact ⟨(j + 1, fun z => if z = ρ p then ρ q else s z), (by show g.links.length - (j + 1) < g.links.length - j; omega), ⟨hk, hs2⟩, Wk.mk' ⟨rfl, rfl, rfl, rfl, rfl, rfl, rfl, rfl, rfl, rfl, rfl, trivial⟩ ⟨rfl, rfl, rfl, rfl, trivial⟩⟩
        · have hd : j = i := Classical.byContradiction (of_decide_eq_false hd)
          rw [if_pos hd] at w1;refine AWP_skip ?_;show AWP _ _ _ _ _ _;refine AWP_reg tok fun K hK => ?_;refine s_bin rfl (e_add (c := ((j + 1 : Nat) : Int)) (by omega) (by omega)) rfl ?_;refine s_move rfl rfl rfl ?_;refine s_end (hK _ ?_); clear hK K;exact ⟨(j + 1, s), (by show g.links.length - (j + 1) < g.links.length - j; omega), ⟨hk, by simp only; rw [w1]; exact hs⟩, Wk.mk' ⟨rfl, rfl, rfl, rfl, rfl, rfl, rfl, rfl, rfl, rfl, rfl, trivial⟩ ⟨rfl, rfl, rfl, rfl, trivial⟩⟩
      have hk : j = g.links.length := by simp at hk; omega
      subst hk
      have ew : woL i g.links g.links.length = g.links.eraseIdx i := by unfold woL; rw [List.take_length]
      rw [ew] at hs;generalize rhoL (g.links.eraseIdx i) = ρ at hs eb
      have cx := root_c g.nodes.length s x (ρ x) (hs x hxn)
      have cy := root_c g.nodes.length s y (ρ y) (hs y hyn)
      refine AWP_exit ?_;show AWP _ _ _ _ _ _;refine a_fz [1, 4, 5, 6, 7, 14, 15, 16] [1, 6, 24, 200] 24 [(1, .ptr 1 0), (4, ownN 200 1 (b + 1)), (5, dI i), (6, .ptr 6 0), (7, V1 (.sl (nmD g.nodes.length s))), (14, V1 (dLs g.links)), (15, dI g.links.length), (16, dI i)] [(1, some (.box g.cs)), (6, some (.box (LK.mk x y lx ly lw).cs)), (200, arrN 1 es (b + 1))] rfl ?_ ⟨rfl, rfl, rfl, trivial⟩ ?_
      · exact ⟨rfl, rfl, rfl, rfl, frz_own rfl (by rw [nmD_length]), rfl, rfl, rfl, trivial⟩
      refine a_draw tok mixed (A := [[], [], [], [1], [], [], [], [0, 1, 2, 5], [0, 1, 2, 4, 5, 6]]) (an := [{}, {}, {}, {}, { c := [46] }, { c := [46] }, { c := [46] }, {}, {}]) rfl (by kernel_rfl) rfl fun K hK => ?_;refine s_move rfl rfl rfl ?_;refine s_fieldAddr rfl rfl rfl ?_;refine s_load rfl rfl rfl ?_;refine s_call rfl rfl (cx) rfl rfl rfl rfl ?_;refine s_move rfl rfl rfl ?_;refine s_fieldAddr rfl rfl rfl ?_;refine s_load rfl rfl rfl ?_;refine s_call rfl rfl (cy) rfl rfl rfl rfl ?_;refine s_bin rfl (e_neN _ _) rfl ?_;refine s_end (hK _ ?_); clear hK K;refine a_cond rfl (fun hd => ?_) (fun hd => ?_)
      · rw [← eb] at hd;rw [if_pos hd] at n1
        have n2 : es ++ [cN i] = (brL g (i + 1)).map cN := by rw [n1, hes, List.map_append]; rfl
        have k2 : (brL g (i + 1)).length = (b + 1) + 1 := by rw [n1, List.length_append, ← hb]; rfl
        refine AWP_reg tok fun K hK => ?_;refine s_move rfl rfl rfl ?_;refine s_move rfl rfl rfl ?_;refine s_buildSlice rfl rfl rfl rfl ?_;refine s_append rfl (ap_o rfl rfl rfl rfl rfl rfl (by decide) (Nat.le_of_ble_eq_true rfl) rfl (by simp) rfl rfl z1.symm (by simp <;> omega)) rfl rfl rfl ?_;refine s_assign rfl rfl rfl ?_;refine s_end (hK _ ?_); clear hK K;show AWP _ _ _ _ _ _;refine AWP_reg tok fun K hK => ?_;refine s_bin rfl (e_add (c := ((i + 1 : Nat) : Int)) (by omega) (by omega)) rfl ?_;refine s_move rfl rfl rfl ?_;refine s_end (hK _ ?_); clear hK K;refine ⟨i + 1, by omega, hg, ?_⟩;rw [k2];refine Wk.rn [1, 4, 14, 15, 16] [1, 55] 55 200 rfl rfl rfl ⟨rfl, ?_, rfl, rfl, rfl, trivial⟩ ⟨rfl, ?_, trivial⟩
        · first
            | rfl
            | (show SV.val (.one (.own 200 1 0 _)) = _
               rw [List.length_append, z1]; rfl)
        · first
            | (rw [← n2, List.length_eq_zero_iff.1 z1]; rfl)
            | (rw [← n2]; rfl)
      · rw [← eb] at hd;rw [if_neg (by rw [hd]; simp)] at n1;refine AWP_skip ?_;show AWP _ _ _ _ _ _;refine AWP_reg tok fun K hK => ?_;refine s_bin rfl (e_add (c := ((i + 1 : Nat) : Int)) (by omega) (by omega)) rfl ?_;refine s_move rfl rfl rfl ?_;refine s_end (hK _ ?_); clear hK K;refine ⟨i + 1, by omega, hg, ?_⟩;rw [n1, ← hes, ← hb];exact Wk.mk' ⟨rfl, rfl, rfl, rfl, rfl, trivial⟩ ⟨rfl, rfl, trivial⟩
  have hg : i = g.links.length := by simp at hg; omega
  subst hg
  refine AWP_exit ?_;show AWP _ _ _ _ _ _;generalize brL g g.links.length = L
  rcases L with _ | ⟨l, L⟩
  · refine AWP_reg_seq tok fun K hK => ?_;refine s_move rfl rfl rfl ?_;refine s_assign rfl rfl rfl ?_;refine s_assign rfl rfl rfl ?_;refine s_end (hK _ ?_); clear hK K;refine AWP_ret ?_
    repeat (with_reducible refine tq_ret ?_)
    exact post_ret (fin_mk (by rfl) (by rfl) (by rfl))
  · refine a_fz [4] [200] 200 [(4, V1 (dNs (l :: L)))] [] rfl ?_ trivial ?_
    · exact ⟨frz_own rfl (by simp), trivial⟩
    refine AWP_reg_seq tok fun K hK => ?_;refine s_move rfl rfl rfl ?_;refine s_assign rfl rfl rfl ?_;refine s_assign rfl rfl rfl ?_;refine s_end (hK _ ?_); clear hK K;refine AWP_ret ?_
    repeat (with_reducible refine tq_ret ?_)
    exact post_ret (fin_mk (by rfl) (by rfl) (by rfl))
end Go.Proofs.Ytgopibpkgmafiaa

/- Forests: how many links, which, what they join. No condition. -/
namespace Go.Proofs.Ytgopibpkgmafiaa
attribute [local irreducible] lexA

theorem lt_of_GV {g : GR} (gv : GV g) : ∀ l ∈ g.links, l.f.toNat < g.nodes.length ∧ l.t.toNat < g.nodes.length := fun l hl => by
  have lv := gLV gv l hl
  have h1 := lv.f
  have h2 := lv.t
  omega
theorem rho_idem {n : Nat} : ∀ (d : Nat) (ls : List LK), ls.length = d → (∀ l ∈ ls, l.f.toNat < n ∧ l.t.toNat < n) → ∀ x, x < n → rhoL ls x < n ∧ rhoL ls (rhoL ls x) = rhoL ls x
  | 0, ls, h, _ => fun x hx => by
    have : ls = [] := List.length_eq_zero_iff.1 h
    subst this
    exact ⟨hx, rfl⟩
  | d + 1, ls, h, hl => fun x hx => by
    obtain ⟨ys, l, rfl⟩ : ∃ ys l, ls = ys ++ [l] := by
      have hne : ls ≠ [] := fun e => by rw [e] at h; cases h
      exact ⟨ls.dropLast, ls.getLast hne, (List.dropLast_concat_getLast hne).symm⟩
    have hl' : ∀ x ∈ ys, x.f.toNat < n ∧ x.t.toNat < n := fun x hx => hl x (List.mem_append_left _ hx)
    obtain ⟨hf, ht⟩ := hl l (by simp)
    have ih := rho_idem d ys (by simpa using h) hl'
    rw [rhoL_snoc]
    have i1 := ih x hx
    have i2 := ih _ ht
    unfold jR
    by_cases e : rhoL ys x = rhoL ys l.f.toNat
    · rw [if_pos e];refine ⟨i2.1, ?_⟩;rw [i2.2]; split <;> rfl
    · rw [if_neg e];refine ⟨i1.1, ?_⟩;rw [i1.2, if_neg e]
theorem rt_join {n : Nat} {ρ : Nat → Nat} {f t : Nat} (hi : ∀ x, x < n → ρ x < n ∧ ρ (ρ x) = ρ x) (hf : f < n) (ht : t < n) : rtN n ρ = rtN n (jR ρ f t) + (if ρ f ≠ ρ t then 1 else 0) := by
  by_cases e : ρ f = ρ t
  · rw [if_neg (by simp [e])]
    have : jR ρ f t = ρ := by
      funext x; unfold jR
      by_cases h : ρ x = ρ f
      · rw [if_pos h, h, e]
      · rw [if_neg h]
    rw [this]; rfl
  · rw [if_pos e]
    have h1 := hi f hf
    have h2 := hi t ht
    refine kN_less (a := ρ f) ?_ ?_ h1.1 fun v hv hne => ?_
    · rw [beq_iff_eq]; exact h1.2
    · unfold jR; rw [if_pos h1.2]; exact beq_eq_false_iff_ne.2 (fun h => e h.symm)
    · rw [Bool.eq_iff_iff, beq_iff_eq, beq_iff_eq]
      unfold jR
      by_cases h : ρ v = ρ f
      · rw [if_pos h]
        constructor
        · intro h'; exact absurd (h'.symm.trans h) hne
        · intro h'
          rw [← h', h2.2] at h;exact absurd h.symm e
      · rw [if_neg h]
theorem foL_count {g : GR} (gv : GV g) : ∀ k, k ≤ g.links.length → (foL g k).length + rtN g.nodes.length (rhoL (g.links.take k)) = g.nodes.length
  | 0, _ => by
    show 0 + rtN g.nodes.length id = _
    unfold rtN kN
    have : (List.range g.nodes.length).filter (fun v => id v == v) = List.range g.nodes.length := List.filter_eq_self.2 fun v _ => by simp
    rw [this, List.length_range, Nat.zero_add]
  | k + 1, hk => by
    have ih := foL_count gv k (by omega)
    have hk' : k < g.links.length := by omega
    have hm := lt_of_GV gv _ (List.getElem_mem hk')
    have hi := rho_idem (n := g.nodes.length) _ (g.links.take k) rfl fun l hl => lt_of_GV gv l (List.mem_of_mem_take hl)
    rw [foL_succ, List.take_succ_eq_append_getElem hk', rhoL_snoc]
    have e := rt_join hi hm.1 hm.2
    have eb : foB g k = decide (rhoL (g.links.take k) g.links[k].f.toNat ≠ rhoL (g.links.take k) g.links[k].t.toNat) := by unfold foB; rw [List.getElem?_eq_getElem hk']
    by_cases h : rhoL (g.links.take k) g.links[k].f.toNat ≠ rhoL (g.links.take k) g.links[k].t.toNat
    · rw [if_pos (eb.trans (decide_eq_true h)), List.length_append, List.length_singleton];rw [if_pos h] at e; omega
    · rw [if_neg (by rw [eb, decide_eq_false h]; simp)];rw [if_neg h] at e; omega
/-- Components by connectedness. -/
theorem cmp_rt {g : GR} (gv : GV g) {ρ : Nat → Nat} (hi : ∀ x, x < g.nodes.length → ρ x < g.nodes.length ∧ ρ (ρ x) = ρ x) (hk : ∀ u v, u < g.nodes.length → v < g.nodes.length → (ρ u = ρ v ↔ Cnn (prs g.links) u v)) : cmpN g = rtN g.nodes.length ρ := by
  have h : RG (partsR g) := (partsL_ok _ _).1
  rw [cmpN_num gv, num_rt];refine roots_eq (fun v hv => ⟨Nat.lt_of_le_of_lt (fd_le h v) hv, fd_idem h v⟩) hi fun u v hu hv => ?_;rw [hk u v hu hv, ← lab_cnn gv hu hv, lab_iff' gv hu hv]; rfl
theorem forest_count {g : GR} (gv : GV g) : (foL g g.links.length).length + cmpN g = g.nodes.length := by
  have h := foL_count gv g.links.length (Nat.le_refl _)
  rw [List.take_length] at h;rw [cmp_rt gv (rho_idem _ g.links rfl (lt_of_GV gv)) (rho_cnn _ g.links rfl (lt_of_GV gv))]; exact h
theorem prs_mem {ls : List LK} {l : LK} (h : l ∈ ls) : (l.f.toNat, l.t.toNat) ∈ prs ls := List.mem_map.2 ⟨l, h, rfl⟩
theorem prs_sub {a b : List LK} (h : ∀ l ∈ a, l ∈ b) : ∀ p ∈ prs a, p ∈ prs b := fun p hp => by
  obtain ⟨l, hl, rfl⟩ := List.mem_map.1 hp
  exact prs_mem (h l hl)
/-- Every bridge is in the forest. -/
theorem br_fo {g : GR} (gv : GV g) {i : Nat} (h : brB g i = true) : foB g i = true := by
  unfold brB at h
  unfold foB
  cases hl : g.links[i]? with
  | none => rw [hl] at h; cases h
  | some l =>
    rw [hl] at h
    have h := of_decide_eq_true h
    refine decide_eq_true fun e => h ?_
    have hm := lt_of_GV gv l (List.mem_of_getElem? hl)
    have c := (rho_cnn (n := g.nodes.length) _ (g.links.take i) rfl (fun l hl => lt_of_GV gv l (List.mem_of_mem_take hl)) _ _ hm.1 hm.2).1 e
    refine (rho_cnn (n := g.nodes.length) _ (g.links.eraseIdx i) rfl (fun l hl => lt_of_GV gv l ((List.eraseIdx_sublist g.links i).subset hl)) _ _ hm.1 hm.2).2 (c.mono (prs_sub fun x hx => ?_));rw [List.eraseIdx_eq_take_drop_succ];exact List.mem_append_left _ hx
/-- The kept links. -/
def keG (g : GR) (k : Nat) : GR := ⟨g.nodes, (foL g k).map fun j => g.links.getD j ⟨0, 0, 0, 0, 0⟩⟩
theorem keG_sub {g : GR} {k : Nat} (hk : k ≤ g.links.length) : ∀ l ∈ (keG g k).links, l ∈ g.links := fun l hl => by
  obtain ⟨j, hj, rfl⟩ := List.mem_map.1 hl
  have := List.mem_range.1 (List.mem_filter.1 hj).1
  rw [List.getD_eq_getElem?_getD, List.getElem?_eq_getElem (by omega)];exact List.getElem_mem _
theorem keG_GV {g : GR} (gv : GV g) {k : Nat} (hk : k ≤ g.links.length) : GV (keG g k) := by
  refine ⟨gv.n1, gv.n2, ?_, fun l hl => gv.lk l (keG_sub hk l hl)⟩
  show ((foL g k).map _).length ≤ 48
  rw [List.length_map]; exact Nat.le_trans (foL_len g k) (Nat.le_trans hk gv.l)
theorem ke_cnn {g : GR} (gv : GV g) : ∀ k, k ≤ g.links.length → ∀ u v, Cnn (prs (g.links.take k)) u v → Cnn (prs (keG g k).links) u v
  | 0, _ => fun u v h => by have := h.nil; rw [this]; exact .refl _
  | k + 1, hk => fun u v h => by
    have ih := ke_cnn gv k (by omega)
    have hk' : k < g.links.length := by omega
    have hm := lt_of_GV gv _ (List.getElem_mem hk')
    have sub : ∀ l ∈ (keG g k).links, l ∈ (keG g (k + 1)).links := fun l hl => by
      obtain ⟨j, hj, rfl⟩ := List.mem_map.1 hl
      refine List.mem_map.2 ⟨j, ?_, rfl⟩;rw [foL_succ]; split
      · exact List.mem_append_left _ hj
      · exact hj
    have ih' : ∀ u v, Cnn (prs (g.links.take k)) u v → Cnn (prs (keG g (k + 1)).links) u v := fun u v h => (ih u v h).mono (prs_sub sub)
    have ep : prs (g.links.take (k + 1)) = prs (g.links.take k) ++ [(g.links[k].f.toNat, g.links[k].t.toNat)] := by
      rw [List.take_succ_eq_append_getElem hk']; unfold prs; rw [List.map_append]; rfl
    have hlink : Cnn (prs (keG g (k + 1)).links) g.links[k].f.toNat g.links[k].t.toNat := by
      have eb : foB g k = decide (rhoL (g.links.take k) g.links[k].f.toNat ≠ rhoL (g.links.take k) g.links[k].t.toNat) := by unfold foB; rw [List.getElem?_eq_getElem hk']
      by_cases h : rhoL (g.links.take k) g.links[k].f.toNat = rhoL (g.links.take k) g.links[k].t.toNat
      · exact ih' _ _ ((rho_cnn (n := g.nodes.length) _ (g.links.take k) rfl (fun l hl => lt_of_GV gv l (List.mem_of_mem_take hl)) _ _ hm.1 hm.2).1 h)
      · refine .one (Or.inl (prs_mem (List.mem_map.2 ⟨k, ?_, ?_⟩)))
        · rw [foL_succ, if_pos (eb.trans (decide_eq_true h))]; simp
        · rw [List.getD_eq_getElem?_getD, List.getElem?_eq_getElem hk']; rfl
    rw [ep, Cnn.snoc] at h
    rcases h with h | ⟨h1, h2⟩ | ⟨h1, h2⟩
    · exact ih' _ _ h
    · exact ((ih' _ _ h1).trans hlink).trans (ih' _ _ h2)
    · exact ((ih' _ _ h1).trans hlink.symm).trans (ih' _ _ h2)
theorem ke_cmp {g : GR} (gv : GV g) : cmpN (keG g g.links.length) = cmpN g := by
  have gk := keG_GV gv (Nat.le_refl g.links.length)
  have hi := rho_idem _ g.links rfl (lt_of_GV gv)
  have hk := rho_cnn _ g.links rfl (lt_of_GV gv)
  rw [cmp_rt gv hi hk];refine cmp_rt gk hi fun u v hu hv => (hk u v hu hv).trans ⟨fun h => ?_, fun h => h.mono (prs_sub (keG_sub (Nat.le_refl _)))⟩
  have := ke_cnn gv g.links.length (Nat.le_refl _) u v
  rw [List.take_length] at this;exact this h
end Go.Proofs.Ytgopibpkgmafiaa

/- law32: Forest. No condition. -/
namespace Go.Proofs.Ytgopibpkgmafiaa
attribute [local irreducible] lexA

theorem br_filter {g : GR} (gv : GV g) (k : Nat) : brL g k = (foL g k).filter (brB g) := by
  unfold brL foL
  rw [List.filter_filter];refine List.filter_congr fun v _ => ?_;rw [Bool.eq_iff_iff, Bool.and_eq_true];exact ⟨fun h => ⟨h, br_fo gv h⟩, fun h => h.1⟩
theorem at_filter {P : Nat → Bool} {L : List Nat} {i : Nat} (hi : i < L.length) : (((L.take i).filter P).length < (L.filter P).length ∧ (L.filter P).getD ((L.take i).filter P).length 0 = L[i]) ↔ P L[i] = true := by
  have e : L.filter P = (L.take i).filter P ++ (L.drop i).filter P := by rw [← List.filter_append, List.take_append_drop]
  have ed : L.drop i = L[i] :: L.drop (i + 1) := List.drop_eq_getElem_cons hi
  constructor
  · rintro ⟨h1, h2⟩
    rw [List.getD_eq_getElem?_getD, List.getElem?_eq_getElem h1] at h2
    have h2 : (L.filter P)[((L.take i).filter P).length] = L[i] := h2
    rw [← h2];exact (List.mem_filter.1 (List.getElem_mem h1)).2
  · intro h
    have e2 : L.filter P = (L.take i).filter P ++ L[i] :: (L.drop (i + 1)).filter P := by
      rw [e, ed, List.filter_cons_of_pos h]
    refine ⟨by rw [e2, List.length_append, List.length_cons]; omega, ?_⟩;rw [e2, List.getD_eq_getElem?_getD, List.getElem?_append_right (Nat.le_refl _), Nat.sub_self]; rfl
theorem fo_lt {g : GR} {k i : Nat} (hi : i < (foL g k).length) : (foL g k)[i] < k := List.mem_range.1 (List.mem_filter.1 (List.getElem_mem hi)).1
theorem fo_asc {g : GR} {k i j : Nat} (hj : j < (foL g k).length) (hij : i < j) : (foL g k)[i]'(by omega) < (foL g k)[j] := by
  have hp : (foL g k).Pairwise (· < ·) := List.Pairwise.filter _ List.pairwise_lt_range
  exact List.pairwise_iff_getElem.1 hp i j (by omega) hj hij
theorem gd_at {l : List Nat} {i : Nat} (h : i < l.length) : l.getD i 0 = l[i] := by rw [List.getD_eq_getElem?_getD, List.getElem?_eq_getElem h]; rfl
theorem e_lssJ {T : Tab} {t : TypeId} {a b : Int} {c : Bool} (h : decide (a < b) = c) : effBin T .lss t (dI a) (dI b) = .set (dB c) := by subst h; rfl
theorem e_geqJ {T : Tab} {t : TypeId} {a b : Int} {c : Bool} (h : decide (a ≥ b) = c) : effBin T .geq t (dI a) (dI b) = .set (dB c) := by subst h; rfl
theorem e_gtrJ {T : Tab} {t : TypeId} {a b : Int} {c : Bool} (h : decide (a > b) = c) : effBin T .gtr t (dI a) (dI b) = .set (dB c) := by subst h; rfl
def ptB (g : GR) (fo : List Nat) (i : Nat) : Nat := ((fo.take i).filter (brB g)).length
theorem ptB_succ {g : GR} {fo : List Nat} {i : Nat} (hi : i < fo.length) : ptB g fo (i + 1) = if brB g fo[i] = true then ptB g fo i + 1 else ptB g fo i := by
  unfold ptB
  rw [List.take_succ_eq_append_getElem hi, List.filter_append]
  by_cases h : brB g fo[i] = true
  · rw [if_pos h]; simp [h]
  · rw [if_neg h]; simp [h]

set_option maxHeartbeats 1000000 in
theorem lForest_c (g : GR) : Con Try.prog 7 [AG g.cs] { v := dB true } := by
  refine con_intro (fn := Try.f7) tok Try.func7 (by kernel_rfl) rfl ?_
  intro w0 X
  rw [entry_mkE _ _ [(0, AG g.cs)] rfl rfl];refine AWP_reg_seq tok fun K hK => ?_;refine s_box rfl rfl rfl rfl rfl rfl ?_;refine s_assign rfl rfl rfl ?_;refine s_end (hK _ ?_); clear hK K;refine AWP_seq ?_;refine a_join (α := Bool) (fun c => mk 127 [(1, .ptr 1 0), (16, dB c)] [(1, some (.box g.cs))] []) (fun c => c = !fewL g) ?_ ?_
  · refine AWP_regW fun K hK => ?_;refine w_step tok rfl ?_;refine s_call rfl rfl (awake_c) rfl rfl rfl rfl ?_;refine s_end ?_;refine w_step tok rfl ?_;refine s_un rfl rfl rfl ?_;refine s_end ?_;refine w_step tok rfl ?_;refine s_move rfl rfl rfl ?_;refine s_end ?_;refine w_split (fun h0 => ?_) (fun h0 => ?_)
    · refine w_skip rfl rfl ?_;refine w_skip rfl rfl ?_;refine w_skip rfl rfl ?_;refine w_step tok rfl ?_;refine s_pick rfl rfl rfl ?_;refine s_end ?_;refine w_end rfl (hK _ ?_); clear hK K
      first|(exact absurd h0 (by decide))|exact ⟨_, (by simp only [Bool.not_eq_true', Bool.not_eq_false'] at h0; simp only [h0, Bool.not_false, Bool.not_true]), Wk.mk' ⟨rfl, rfl, trivial⟩ ⟨rfl, trivial⟩⟩
    · refine w_step tok rfl ?_;refine s_load rfl rfl rfl ?_;refine s_end ?_;refine w_step tok rfl ?_;refine s_call rfl rfl (rFew_c g) rfl rfl rfl rfl ?_;refine s_end ?_;refine w_step tok rfl ?_;refine s_un rfl rfl rfl ?_;refine s_end ?_;refine w_step tok rfl ?_;refine s_pick rfl rfl rfl ?_;refine s_end ?_;refine w_end rfl (hK _ ?_); clear hK K
      first|(exact absurd h0 (by decide))|exact ⟨_, (by simp only [Bool.not_eq_true', Bool.not_eq_false'] at h0; simp only [h0, Bool.not_false, Bool.not_true]), Wk.mk' ⟨rfl, rfl, trivial⟩ ⟨rfl, trivial⟩⟩
  rintro c rfl
  refine a_cond rfl (fun hc => ?_) (fun hc => ?_)
  · refine AWP_reg_seq tok fun K hK => ?_;refine s_call rfl rfl (awake_c) rfl rfl rfl rfl ?_;refine s_assign rfl rfl rfl ?_;refine s_end (hK _ ?_); clear hK K;refine AWP_ret ?_
    repeat (with_reducible refine tq_ret ?_)
    exact post_ret (fin_mk (by rfl) (by rfl) (by rfl))
  rw [Bool.not_eq_false'] at hc
  have h11 : g.links.length ≤ 11 := (of_decide_eq_true hc).2.1
  have cF := gForest_c g
  have cB := gBridges_c g
  have cV := r28Valid_c g (by omega)
  refine AWP_skip ?_;show AWP _ _ _ _ _ _
  by_cases hv : validB g = true
  · have gv := validB_iff.1 hv
    have n16 := gv.n2
    have e1 : forestV g = (foL g g.links.length, 0) := by rw [forestV, if_pos hv]
    have e2 : bridgeV g = (brL g g.links.length, 0) := by rw [bridgeV, if_pos hv]
    rw [e1] at cF;rw [e2] at cB
    have hcnt := forest_count gv
    have hbf := br_filter gv g.links.length
    have cC := rComps_c g gv
    have gk := keG_GV gv (Nat.le_refl g.links.length)
    have cK := rComps_c (keG g g.links.length) gk
    rw [ke_cmp gv] at cK
    have hlt : ∀ i, i < (foL g g.links.length).length → (foL g g.links.length).getD i 0 < g.links.length := fun i hi => by rw [gd_at hi]; exact fo_lt hi
    have hasc : ∀ i j, j < (foL g g.links.length).length → i < j → (foL g g.links.length).getD i 0 < (foL g g.links.length).getD j 0 := fun i j hj hij => by rw [gd_at hj, gd_at (Nat.lt_trans hij hj)]; exact fo_asc hj hij
    have hfl := foL_len g g.links.length
    have eK : keG g g.links.length = ⟨g.nodes, (foL g g.links.length).map fun j => g.links.getD j ⟨0, 0, 0, 0, 0⟩⟩ := rfl
    rw [eK] at cK;generalize brL g g.links.length = br at cB hbf;generalize foL g g.links.length = fo at cF hcnt hbf cK hlt hasc hfl;generalize cmpN g = cm at hcnt cC cK
    have hbr : br.length ≤ fo.length := by rw [hbf]; exact List.length_filter_le _ _
    refine AWP_reg_seq tok fun K hK => ?_;refine s_load rfl rfl rfl ?_;refine s_call rfl rfl (cF) rfl rfl rfl rfl ?_;refine s_move rfl rfl rfl ?_;refine s_extract rfl rfl rfl ?_;refine s_extract rfl rfl rfl ?_;refine s_assign rfl rfl rfl ?_;refine s_assign rfl rfl rfl ?_;refine s_end (hK _ ?_); clear hK K;refine AWP_reg_seq tok fun K hK => ?_;refine s_load rfl rfl rfl ?_;refine s_call rfl rfl (cB) rfl rfl rfl rfl ?_;refine s_move rfl rfl rfl ?_;refine s_extract rfl rfl rfl ?_;refine s_extract rfl rfl rfl ?_;refine s_assign rfl rfl rfl ?_;refine s_assign rfl rfl rfl ?_;refine s_end (hK _ ?_); clear hK K;refine AWP_seq ?_;refine AWP_reg_seq tok fun K hK => ?_;refine s_move rfl rfl rfl ?_;refine s_bin rfl rfl rfl ?_;refine s_move rfl rfl rfl ?_;refine s_move rfl rfl rfl ?_;refine s_bin rfl rfl rfl ?_;refine s_pick rfl rfl rfl ?_;refine s_end (hK _ ?_); clear hK K;refine a_cond rfl (fun h => by cases h) (fun _ => ?_);refine AWP_skip ?_;show AWP _ _ _ _ _ _;refine AWP_seq ?_;refine a_draw tok mixed (A := [[], [], [], [], [2], [], [], [2, 3, 5], [0, 2, 3, 4, 5, 6]]) (an := [{}, {}, {}, {}, {}, {}, {}, {}, {}]) rfl (by kernel_rfl) rfl fun K hK => ?_;refine s_move rfl rfl rfl ?_;refine s_blt rfl (len_m cN rfl rfl) rfl ?_;refine s_fieldAddr rfl rfl rfl ?_;refine s_load rfl rfl rfl ?_;refine s_blt rfl (len_m RW.dc rfl rfl) rfl ?_;refine s_load rfl rfl rfl ?_;refine s_call rfl rfl (cC) rfl rfl rfl rfl ?_;refine s_bin rfl (e_sub (c := (fo.length : Int)) (by omega) (by omega)) rfl ?_;refine s_bin rfl (e_neJ (c := false) (by simp)) rfl ?_;refine s_end (hK _ ?_); clear hK K;refine a_cond rfl (fun h => by cases h) (fun _ => ?_);refine AWP_skip ?_;show AWP _ _ _ _ _ _;refine AWP_reg_seq tok fun K hK => ?_;refine s_fieldAddr rfl rfl rfl ?_;refine s_load rfl rfl rfl ?_;refine s_build rfl rfl rfl ?_;refine s_alloc rfl rfl rfl rfl rfl rfl ?_;refine s_store rfl rfl rfl rfl rfl ?_;refine s_end (hK _ ?_); clear hK K;refine AWP_reg_seq tok fun K hK => ?_;refine s_assign rfl rfl rfl ?_;refine s_end (hK _ ?_); clear hK K;refine AWP_seq ?_;refine AWP_reg_seq tok fun K hK => ?_;refine s_assign rfl rfl rfl ?_;refine s_end (hK _ ?_); clear hK K;refine AWP_block (a_loop (α := Nat) (fun i => mk 127 [(1, .ptr 1 0), (3, V1 (dNs fo)), (5, V1 (dNs br)), (7, .ptr 7 0), (8, dI (ptB g fo i : Nat)), (9, dI i)] [(1, some (.box g.cs)), (7, some (.box [.d (dRs g.nodes), ownC 200 5 i])), (200, arrN 5 (((fo.take i).map fun j => g.links.getD j ⟨0, 0, 0, 0, 0⟩).map LK.dc) i)] [7]) (fun i => i ≤ fo.length) (fun i => fo.length - i) 0 ?_ (Nat.zero_le _) ?_)
    · exact Wk.trans (Wk.rbE rfl) (Wk.mk' ⟨rfl, rfl, rfl, rfl, rfl, rfl, trivial⟩ ⟨rfl, rfl, rfl, trivial⟩)
    intro i hi
    refine AWP_seq ?_;refine AWP_reg_seq tok fun K hK => ?_;refine s_move rfl rfl rfl ?_;refine s_move rfl rfl rfl ?_;refine s_blt rfl (len_m cN rfl rfl) rfl ?_;refine s_bin rfl rfl rfl ?_;refine s_end (hK _ ?_); clear hK K;refine a_cond rfl (fun hg => ?_) (fun hg => ?_)
    · have hg : i < fo.length := by simp at hg; omega
      have hfi := hlt i hg
      rw [gd_at hg] at hfi;refine AWP_skip ?_;show AWP _ _ _ _ _ _;refine AWP_seq ?_;refine AWP_block ?_;refine AWP_seq ?_;refine a_join (α := Bool) (fun c => mk 127 [(1, .ptr 1 0), (3, V1 (dNs fo)), (5, V1 (dNs br)), (7, .ptr 7 0), (8, dI (ptB g fo i : Nat)), (9, dI i), (85, dB c)] [(1, some (.box g.cs)), (7, some (.box [.d (dRs g.nodes), ownC 200 5 i])), (200, arrN 5 (((fo.take i).map fun j => g.links.getD j ⟨0, 0, 0, 0, 0⟩).map LK.dc) i)] [7]) (fun c => c = false) ?_ ?_
      · by_cases hi0 : i = 0
        · refine a_draw1 tok mixed (A := [[], [], [], [0, 1], [0, 1, 2], [0, 1, 2, 3], [0, 1, 2, 3, 4], [0, 1, 2, 3, 4], [0, 1, 2, 3, 4], [0, 1, 2, 3, 4, 6, 7], [0, 1, 2, 3, 4], [0, 1, 2, 3, 4], [0, 1, 2, 3, 4, 10], [0, 1, 2, 3, 4, 6, 7, 8, 10, 11], [0, 1, 2, 3, 4, 6, 7, 8, 9, 10, 11, 12], [0, 1, 2, 3, 4, 6, 7, 8, 9, 10, 11, 12, 13], [0, 1, 2, 3, 4, 5, 6, 7, 8, 9, 10, 11, 12, 13, 14], [0, 1, 2, 3, 4, 5, 6, 7, 8, 9, 10, 11, 12, 13, 14], [0, 1, 2, 3, 4, 5, 6, 7, 8, 9, 10, 11, 12, 13, 14, 16], [0, 1, 2, 3, 4, 5, 6, 7, 8, 9, 10, 11, 12, 13, 14, 15, 16, 17], [0, 1, 2, 3, 4, 5, 6, 7, 8, 9, 10, 11, 12, 13, 14, 15, 16, 17], [0, 1, 2, 3, 4, 5, 6, 7, 8, 9, 10, 11, 12, 13, 14, 15, 16, 17], [0, 1, 2, 3, 4, 5, 6, 7, 8, 9, 10, 11, 12, 13, 14, 15, 16, 17, 19, 20], [0, 1, 2, 3, 4, 5, 6, 7, 8, 9, 10, 11, 12, 13, 14, 15, 16, 17], [0, 1, 2, 3, 4, 5, 6, 7, 8, 9, 10, 11, 12, 13, 14, 15, 16, 17], [0, 1, 2, 3, 4, 5, 6, 7, 8, 9, 10, 11, 12, 13, 14, 15, 16, 17], [0, 1, 2, 3, 4, 5, 6, 7, 8, 9, 10, 11, 12, 13, 14, 15, 16, 17, 24], [0, 1, 2, 3, 4, 5, 6, 7, 8, 9, 10, 11, 12, 13, 14, 15, 16, 17, 23, 24, 25], [0, 1, 2, 3, 4, 5, 6, 7, 8, 9, 10, 11, 12, 13, 14, 15, 16, 17, 19, 20, 21, 23, 24, 25, 26], [0, 1, 2, 3, 4, 5, 6, 7, 8, 9, 10, 11, 12, 13, 14, 16, 17, 19, 20, 21, 22, 23, 24, 25, 26, 27], [0, 1, 2, 3, 4, 5, 6, 7, 8, 9, 10, 11, 12, 13, 14, 16, 17, 18, 19, 20, 21, 22, 23, 24, 25, 26, 27, 28]]) (an := [{}, {}, {}, {}, {}, {}, {}, {}, {}, {}, {}, {}, {}, {}, {}, {}, {}, {}, {}, {}, {}, {}, {}, {}, {}, {}, {}, {}, {}, {}, {}]) rfl (by kernel_rfl) rfl fun K hK => ?_;refine s_move rfl rfl rfl ?_;refine s_move rfl rfl rfl ?_;refine s_indexAddr rfl (x_m cN rfl rfl rfl rfl hg rfl) rfl ?_;refine s_load rfl rfl rfl ?_;refine s_bin rfl (e_lssJ (c := false) (decide_eq_false (by omega))) rfl ?_;refine s_move rfl rfl rfl ?_;refine s_move rfl rfl rfl ?_;refine s_move rfl rfl rfl ?_;refine s_indexAddr rfl (x_m cN rfl rfl rfl rfl hg rfl) rfl ?_;refine s_load rfl rfl rfl ?_;refine s_fieldAddr rfl rfl rfl ?_;refine s_load rfl rfl rfl ?_;refine s_blt rfl (len_m LK.dc rfl rfl) rfl ?_;refine s_bin rfl (e_geqJ (c := false) (decide_eq_false (by omega))) rfl ?_;refine s_pick rfl rfl rfl ?_;refine s_move rfl rfl rfl ?_;refine s_move rfl rfl rfl ?_;refine s_bin rfl (e_gtrJ (c := false) (decide_eq_false (by omega))) rfl ?_;refine s_move rfl rfl rfl ?_;refine s_skip rfl ?_;refine s_skip rfl ?_;refine s_skip rfl ?_;refine s_skip rfl ?_;refine s_skip rfl ?_;refine s_skip rfl ?_;refine s_skip rfl ?_;refine s_skip rfl ?_;refine s_skip rfl ?_;refine s_skip rfl ?_;refine s_pick rfl rfl rfl ?_;refine s_pick rfl rfl rfl ?_;refine s_end (hK _ ?_); clear hK K;exact ⟨_, rfl, Wk.mk' ⟨rfl, rfl, rfl, rfl, rfl, rfl, rfl, trivial⟩ ⟨rfl, rfl, rfl, trivial⟩⟩
        · have h' : i - 1 < fo.length := by omega
          have P2 : decide ((fo[i] : Int) ≤ (fo[i - 1] : Int)) = false := by
            have := hasc (i - 1) i hg (by omega)
            rw [gd_at hg, gd_at h'] at this;exact decide_eq_false (by omega)
          refine a_draw1 tok mixed (A := [[], [], [], [0, 1], [0, 1, 2], [0, 1, 2, 3], [0, 1, 2, 3, 4], [0, 1, 2, 3, 4], [0, 1, 2, 3, 4], [0, 1, 2, 3, 4, 6, 7], [0, 1, 2, 3, 4], [0, 1, 2, 3, 4], [0, 1, 2, 3, 4, 10], [0, 1, 2, 3, 4, 6, 7, 8, 10, 11], [0, 1, 2, 3, 4, 6, 7, 8, 9, 10, 11, 12], [0, 1, 2, 3, 4, 6, 7, 8, 9, 10, 11, 12, 13], [0, 1, 2, 3, 4, 5, 6, 7, 8, 9, 10, 11, 12, 13, 14], [0, 1, 2, 3, 4, 5, 6, 7, 8, 9, 10, 11, 12, 13, 14], [0, 1, 2, 3, 4, 5, 6, 7, 8, 9, 10, 11, 12, 13, 14, 16], [0, 1, 2, 3, 4, 5, 6, 7, 8, 9, 10, 11, 12, 13, 14, 15, 16, 17], [0, 1, 2, 3, 4, 5, 6, 7, 8, 9, 10, 11, 12, 13, 14, 15, 16, 17], [0, 1, 2, 3, 4, 5, 6, 7, 8, 9, 10, 11, 12, 13, 14, 15, 16, 17], [0, 1, 2, 3, 4, 5, 6, 7, 8, 9, 10, 11, 12, 13, 14, 15, 16, 17, 19, 20], [0, 1, 2, 3, 4, 5, 6, 7, 8, 9, 10, 11, 12, 13, 14, 15, 16, 17], [0, 1, 2, 3, 4, 5, 6, 7, 8, 9, 10, 11, 12, 13, 14, 15, 16, 17], [0, 1, 2, 3, 4, 5, 6, 7, 8, 9, 10, 11, 12, 13, 14, 15, 16, 17], [0, 1, 2, 3, 4, 5, 6, 7, 8, 9, 10, 11, 12, 13, 14, 15, 16, 17, 24], [0, 1, 2, 3, 4, 5, 6, 7, 8, 9, 10, 11, 12, 13, 14, 15, 16, 17, 23, 24, 25], [0, 1, 2, 3, 4, 5, 6, 7, 8, 9, 10, 11, 12, 13, 14, 15, 16, 17, 19, 20, 21, 23, 24, 25, 26], [0, 1, 2, 3, 4, 5, 6, 7, 8, 9, 10, 11, 12, 13, 14, 16, 17, 19, 20, 21, 22, 23, 24, 25, 26, 27], [0, 1, 2, 3, 4, 5, 6, 7, 8, 9, 10, 11, 12, 13, 14, 16, 17, 18, 19, 20, 21, 22, 23, 24, 25, 26, 27, 28]]) (an := [{}, {}, {}, {}, {}, {}, {}, {}, {}, {}, {}, {}, {}, {}, {}, {}, {}, {}, {}, {}, {}, {}, {}, {}, {}, {}, {}, {}, {}, {}, {}]) rfl (by kernel_rfl) rfl fun K hK => ?_;refine s_move rfl rfl rfl ?_;refine s_move rfl rfl rfl ?_;refine s_indexAddr rfl (x_m cN rfl rfl rfl rfl hg rfl) rfl ?_;refine s_load rfl rfl rfl ?_;refine s_bin rfl (e_lssJ (c := false) (decide_eq_false (by omega))) rfl ?_;refine s_move rfl rfl rfl ?_;refine s_move rfl rfl rfl ?_;refine s_move rfl rfl rfl ?_;refine s_indexAddr rfl (x_m cN rfl rfl rfl rfl hg rfl) rfl ?_;refine s_load rfl rfl rfl ?_;refine s_fieldAddr rfl rfl rfl ?_;refine s_load rfl rfl rfl ?_;refine s_blt rfl (len_m LK.dc rfl rfl) rfl ?_;refine s_bin rfl (e_geqJ (c := false) (decide_eq_false (by omega))) rfl ?_;refine s_pick rfl rfl rfl ?_;refine s_move rfl rfl rfl ?_;refine s_move rfl rfl rfl ?_;refine s_bin rfl (e_gtrJ (c := true) (decide_eq_true (by omega))) rfl ?_;refine s_move rfl rfl rfl ?_;refine s_move rfl rfl rfl ?_;refine s_move rfl rfl rfl ?_;refine s_indexAddr rfl (x_m cN rfl rfl rfl rfl hg rfl) rfl ?_;refine s_load rfl rfl rfl ?_;refine s_move rfl rfl rfl ?_;refine s_move rfl rfl rfl ?_;refine s_bin rfl (e_sub (c := ((i - 1 : Nat) : Int)) (by omega) (by omega)) rfl ?_;refine s_indexAddr rfl (x_m cN rfl rfl rfl rfl h' rfl) rfl ?_;refine s_load rfl rfl rfl ?_;refine s_bin rfl (e_leI P2) rfl ?_;refine s_pick rfl rfl rfl ?_;refine s_pick rfl rfl rfl ?_;refine s_end (hK _ ?_); clear hK K;exact ⟨_, rfl, Wk.mk' ⟨rfl, rfl, rfl, rfl, rfl, rfl, rfl, trivial⟩ ⟨rfl, rfl, rfl, trivial⟩⟩
      rintro c rfl
      refine a_cond rfl (fun h => by cases h) (fun _ => ?_);refine AWP_skip ?_;show AWP _ _ _ _ _ _
      have K : (ptB g fo i < br.length ∧ br.getD (ptB g fo i) 0 = fo[i]) ↔ brB g fo[i] = true := by rw [hbf]; exact at_filter hg
      have Pt : ∀ h : ptB g fo i < br.length, decide (br[ptB g fo i] = fo[i]) = brB g fo[i] := fun h => by
        rw [gd_at h] at K;rw [Bool.eq_iff_iff, decide_eq_true_eq, ← K];exact ⟨fun e => ⟨h, e⟩, fun e => e.2⟩
      have Pf : ¬ ptB g fo i < br.length → false = brB g fo[i] := fun h => by
        rw [Bool.eq_iff_iff, ← K]
        simp [h]
      have ps := ptB_succ (g := g) hg
      have pl : ptB g fo i ≤ i := by
        unfold ptB; exact Nat.le_trans (List.length_filter_le _ _) (List.length_take_le _ _)
      refine a_join (α := Unit) (fun _ => mk 127 [(1, .ptr 1 0), (3, V1 (dNs fo)), (5, V1 (dNs br)), (7, .ptr 7 0), (8, dI (ptB g fo (i + 1) : Nat)), (9, dI i)] [(1, some (.box g.cs)), (7, some (.box [.d (dRs g.nodes), ownC 200 5 i])), (200, arrN 5 (((fo.take i).map fun j => g.links.getD j ⟨0, 0, 0, 0, 0⟩).map LK.dc) i)] [7]) (fun _ => True) ?_ ?_
      · refine a_join (α := Bool) (fun c => mk 127 [(1, .ptr 1 0), (3, V1 (dNs fo)), (5, V1 (dNs br)), (7, .ptr 7 0), (8, dI (ptB g fo i : Nat)), (9, dI i), (100, dB c)] [(1, some (.box g.cs)), (7, some (.box [.d (dRs g.nodes), ownC 200 5 i])), (200, arrN 5 (((fo.take i).map fun j => g.links.getD j ⟨0, 0, 0, 0, 0⟩).map LK.dc) i)] [7]) (fun c => c = brB g fo[i]) ?_ ?_
        · refine a_draw1 tok mixed (A := [[], [], [], [1], [0, 1, 2], [0, 1, 2, 3], [0, 1, 2, 3], [0, 1, 2, 3], [0, 1, 2, 3, 5, 6], [0, 1, 2, 3], [0, 1, 2, 3], [0, 1, 2, 3], [0, 1, 2, 3, 9, 10], [0, 1, 2, 3, 5, 6, 7, 9, 10, 11], [0, 1, 2, 3, 5, 6, 7, 8, 9, 10, 11, 12]]) (an := [{}, {}, {}, {}, {}, {}, {}, {}, {}, {}, {}, {}, {}, {}, {}]) rfl (by kernel_rfl) rfl fun K hK => ?_;refine s_move rfl rfl rfl ?_;refine s_move rfl rfl rfl ?_;refine s_blt rfl (len_m cN rfl rfl) rfl ?_;refine s_bin rfl (e_lssT _ _) rfl ?_;refine s_move rfl rfl rfl ?_;refine s_split (fun h0 => ?_) (fun h0 => ?_)
          · refine s_move rfl rfl rfl ?_;refine s_move rfl rfl rfl ?_;refine s_indexAddr rfl (x_m cN rfl rfl rfl rfl (of_decide_eq_true h0) rfl) rfl ?_;refine s_load rfl rfl rfl ?_;refine s_move rfl rfl rfl ?_;refine s_move rfl rfl rfl ?_;refine s_indexAddr rfl (x_m cN rfl rfl rfl rfl hg rfl) rfl ?_;refine s_load rfl rfl rfl ?_;refine s_bin rfl (e_eqN _ _) rfl ?_;refine s_pick rfl rfl rfl ?_;refine s_end (hK _ ?_); clear hK K;exact ⟨_, (by first|exact Pt (of_decide_eq_true h0)|exact Pf (of_decide_eq_false h0)), Wk.mk' ⟨rfl, rfl, rfl, rfl, rfl, rfl, rfl, trivial⟩ ⟨rfl, rfl, rfl, trivial⟩⟩
          · refine s_skip rfl ?_;refine s_skip rfl ?_;refine s_skip rfl ?_;refine s_skip rfl ?_;refine s_skip rfl ?_;refine s_skip rfl ?_;refine s_skip rfl ?_;refine s_skip rfl ?_;refine s_skip rfl ?_;refine s_pick rfl rfl rfl ?_;refine s_end (hK _ ?_); clear hK K;exact ⟨_, (by first|exact Pt (of_decide_eq_true h0)|exact Pf (of_decide_eq_false h0)), Wk.mk' ⟨rfl, rfl, rfl, rfl, rfl, rfl, rfl, trivial⟩ ⟨rfl, rfl, rfl, trivial⟩⟩
        rintro c rfl
        refine a_cond rfl (fun hd => ?_) (fun hd => ?_)
        · rw [if_pos hd] at ps;refine AWP_reg tok fun K hK => ?_;refine s_move rfl rfl rfl ?_;refine s_bin rfl (e_add (c := ((ptB g fo (i + 1) : Nat) : Int)) (by omega) (by omega)) rfl ?_;refine s_assign rfl rfl rfl ?_;refine s_end (hK _ ?_); clear hK K;exact ⟨(), trivial, Wk.mk' ⟨rfl, rfl, rfl, rfl, rfl, rfl, trivial⟩ ⟨rfl, rfl, rfl, trivial⟩⟩
        · rw [if_neg (by rw [hd]; simp)] at ps;rw [ps];refine AWP_skip ?_;exact ⟨(), trivial, Wk.mk' ⟨rfl, rfl, rfl, rfl, rfl, rfl, trivial⟩ ⟨rfl, rfl, rfl, trivial⟩⟩
      rintro - -
      show AWP _ _ _ _ _ _
      have hge : g.links.getD fo[i] ⟨0, 0, 0, 0, 0⟩ = g.links[fo[i]] := by rw [List.getD_eq_getElem?_getD, List.getElem?_eq_getElem hfi]; rfl
      have n2 : ((fo.take i).map fun j => g.links.getD j ⟨0, 0, 0, 0, 0⟩).map LK.dc ++ [(g.links[fo[i]]).dc] = ((fo.take (i + 1)).map fun j => g.links.getD j ⟨0, 0, 0, 0, 0⟩).map LK.dc := by
        rw [List.take_succ_eq_append_getElem hg, List.map_append, List.map_append, ← hge]; rfl
      have z2 : (((fo.take i).map fun j => g.links.getD j ⟨0, 0, 0, 0, 0⟩).map LK.dc).length = i := by
        rw [List.length_map, List.length_map, List.length_take_of_le (by omega)]
      generalize ((fo.take i).map fun j => g.links.getD j ⟨0, 0, 0, 0, 0⟩).map LK.dc = es at n2 z2 ⊢;clear K Pt Pf ps pl
      rcases i with _ | i
      · refine a_draw1 tok mixed (A := [[], [], [], [], [], [], [], [4, 5], [2, 4, 5, 6], [2, 3, 4, 5, 6, 7], [2, 3, 4, 5, 6, 7, 8], [0, 2, 3, 4, 5, 6, 7, 8, 9], [], []]) (an := [{}, {}, {}, {}, {}, {}, {}, {}, {}, {}, {}, {}, {}, {}]) rfl (by kernel_rfl) rfl fun K hK => ?_;refine s_fieldAddr rfl rfl rfl ?_;refine s_load rfl rfl rfl ?_;refine s_fieldAddr rfl rfl rfl ?_;refine s_load rfl rfl rfl ?_;refine s_move rfl rfl rfl ?_;refine s_move rfl rfl rfl ?_;refine s_indexAddr rfl (x_m cN rfl rfl rfl rfl hg rfl) rfl ?_;refine s_load rfl rfl rfl ?_;refine s_indexAddr rfl (x_m LK.dc rfl rfl rfl rfl hfi rfl) rfl ?_;refine s_load rfl rfl rfl ?_;refine s_buildSlice rfl rfl rfl rfl ?_;refine s_append rfl (ap_nil rfl rfl rfl rfl rfl (by decide) (Nat.le_of_ble_eq_true rfl) rfl (by simp) rfl (by simp) (by simp)) rfl rfl rfl ?_;refine s_fieldAddr rfl rfl rfl ?_;refine s_storeB rfl rfl rfl rfl rfl ?_;refine s_end (hK _ ?_); clear hK K;show AWP _ _ _ _ _ _;refine AWP_reg tok fun K hK => ?_;refine s_move rfl rfl rfl ?_;refine s_bin rfl (e_add (c := ((0 + 1 : Nat) : Int)) (by omega) (by omega)) rfl ?_;refine s_assign rfl rfl rfl ?_;refine s_end (hK _ ?_); clear hK K;refine ⟨0 + 1, by omega, hg, Wk.rnB [1, 3, 5, 7, 8, 9] [1, 7, 114] 114 200 rfl rfl rfl ⟨rfl, rfl, rfl, rfl, rfl, rfl, trivial⟩ ⟨rfl, ?_, ?_, trivial⟩ rfl⟩
        · first
            | rfl
            | (show some (OO.box [_, .own 200 5 0 _]) = _
               rw [List.length_append, z2]; rfl)
        · first
            | (rw [← n2, List.length_eq_zero_iff.1 z2]; rfl)
            | (rw [← n2]; rfl)
      · refine a_draw1 tok mixed (A := [[], [], [], [], [], [], [], [4, 5], [2, 4, 5, 6], [2, 3, 4, 5, 6, 7], [2, 3, 4, 5, 6, 7, 8], [0, 2, 3, 4, 5, 6, 7, 8, 9], [], []]) (an := [{}, {}, {}, {}, {}, {}, {}, {}, {}, {}, {}, {}, {}, {}]) rfl (by kernel_rfl) rfl fun K hK => ?_;refine s_fieldAddr rfl rfl rfl ?_;refine s_load rfl rfl rfl ?_;refine s_fieldAddr rfl rfl rfl ?_;refine s_load rfl rfl rfl ?_;refine s_move rfl rfl rfl ?_;refine s_move rfl rfl rfl ?_;refine s_indexAddr rfl (x_m cN rfl rfl rfl rfl hg rfl) rfl ?_;refine s_load rfl rfl rfl ?_;refine s_indexAddr rfl (x_m LK.dc rfl rfl rfl rfl hfi rfl) rfl ?_;refine s_load rfl rfl rfl ?_;refine s_buildSlice rfl rfl rfl rfl ?_;refine s_append rfl (ap_o rfl rfl rfl rfl rfl rfl (by decide) (Nat.le_of_ble_eq_true rfl) rfl (by simp) rfl rfl z2.symm (by simp <;> omega)) rfl rfl rfl ?_;refine s_fieldAddr rfl rfl rfl ?_;refine s_storeB rfl rfl rfl rfl rfl ?_;refine s_end (hK _ ?_); clear hK K;show AWP _ _ _ _ _ _;refine AWP_reg tok fun K hK => ?_;refine s_move rfl rfl rfl ?_;refine s_bin rfl (e_add (c := ((i + 1 + 1 : Nat) : Int)) (by omega) (by omega)) rfl ?_;refine s_assign rfl rfl rfl ?_;refine s_end (hK _ ?_); clear hK K;refine ⟨i + 1 + 1, by omega, hg, Wk.rnB [1, 3, 5, 7, 8, 9] [1, 7, 114] 114 200 rfl rfl rfl ⟨rfl, rfl, rfl, rfl, rfl, rfl, trivial⟩ ⟨rfl, ?_, ?_, trivial⟩ rfl⟩
        · first
            | rfl
            | (show some (OO.box [_, .own 200 5 0 _]) = _
               rw [List.length_append, z2]; rfl)
        · first
            | (rw [← n2, List.length_eq_zero_iff.1 z2]; rfl)
            | (rw [← n2]; rfl)
    have hg : i = fo.length := by simp at hg; omega
    subst hg
    have ep : ptB g fo fo.length = br.length := by unfold ptB; rw [List.take_length, hbf]
    rw [ep, List.take_length]
    have zL : (fo.map fun j => g.links.getD j ⟨0, 0, 0, 0, 0⟩).length = fo.length := List.length_map _
    rw [← zL];generalize (fo.map fun j => g.links.getD j ⟨0, 0, 0, 0, 0⟩) = LL at cK;refine AWP_exit ?_;show AWP _ _ _ _ _ _
    rcases LL with _ | ⟨l, LL⟩
    · refine a_draw tok mixed (A := [[], [], [], [1], [0, 1, 2], [0, 1, 2, 3], [0, 1, 2, 3], [0, 1, 2, 3], [0, 1, 2, 3, 5], [0, 1, 2, 3, 5, 7], [0, 1, 2, 3, 5, 6, 7, 8], []]) (an := [{}, {}, {}, {}, {}, {}, {}, { c := [122] }, {}, {}, {}, {}]) rfl (by kernel_rfl) rfl fun K hK => ?_;refine s_move rfl rfl rfl ?_;refine s_move rfl rfl rfl ?_;refine s_blt rfl (len_m cN rfl rfl) rfl ?_;refine s_bin rfl (e_eqI rfl) rfl ?_;refine s_move rfl rfl rfl ?_;refine s_load rfl rfl rfl ?_;refine s_call rfl rfl (cK) rfl rfl rfl rfl ?_;refine s_load rfl rfl rfl ?_;refine s_call rfl rfl (cC) rfl rfl rfl rfl ?_;refine s_bin rfl (e_eqI rfl) rfl ?_;refine s_pick rfl rfl rfl ?_;refine s_assign rfl rfl rfl ?_;refine s_end (hK _ ?_); clear hK K;refine AWP_ret ?_
      repeat (with_reducible refine tq_ret ?_)
      exact post_ret (fin_mk (by rfl) (by rfl) (by rfl))
    · refine a_fz [1, 5, 7, 8] [1, 7, 200] 200 [(1, .ptr 1 0), (5, V1 (dNs br)), (7, .ptr 7 0), (8, dI (br.length : Nat))] [(1, some (.box g.cs)), (7, some (.box (GR.mk g.nodes (l :: LL)).cs))] rfl ⟨rfl, rfl, rfl, rfl, trivial⟩ ⟨rfl, ?_, trivial⟩ ?_
      · show some (OO.box [_, frzC 200 5 _ (.own 200 5 0 _)]) = _
        rw [frzC_own rfl (by simp)]; rfl
      refine a_draw tok mixed (A := [[], [], [], [1], [0, 1, 2], [0, 1, 2, 3], [0, 1, 2, 3], [0, 1, 2, 3], [0, 1, 2, 3, 5], [0, 1, 2, 3, 5, 7], [0, 1, 2, 3, 5, 6, 7, 8], []]) (an := [{}, {}, {}, {}, {}, {}, {}, { c := [122] }, {}, {}, {}, {}]) rfl (by kernel_rfl) rfl fun K hK => ?_;refine s_move rfl rfl rfl ?_;refine s_move rfl rfl rfl ?_;refine s_blt rfl (len_m cN rfl rfl) rfl ?_;refine s_bin rfl (e_eqI rfl) rfl ?_;refine s_move rfl rfl rfl ?_;refine s_load rfl rfl rfl ?_;refine s_call rfl rfl (cK) rfl rfl rfl rfl ?_;refine s_load rfl rfl rfl ?_;refine s_call rfl rfl (cC) rfl rfl rfl rfl ?_;refine s_bin rfl (e_eqI rfl) rfl ?_;refine s_pick rfl rfl rfl ?_;refine s_assign rfl rfl rfl ?_;refine s_end (hK _ ?_); clear hK K;refine AWP_ret ?_
      repeat (with_reducible refine tq_ret ?_)
      exact post_ret (fin_mk (by rfl) (by rfl) (by rfl))
  · have hv : validB g = false := by simpa using hv
    have e1 : forestV g = ([], 1) := by rw [forestV, if_neg (by rw [hv]; simp)]
    have e2 : bridgeV g = ([], 1) := by rw [bridgeV, if_neg (by rw [hv]; simp)]
    rw [e1] at cF;rw [e2] at cB;rw [hv] at cV;refine AWP_reg_seq tok fun K hK => ?_;refine s_load rfl rfl rfl ?_;refine s_call rfl rfl (cF) rfl rfl rfl rfl ?_;refine s_move rfl rfl rfl ?_;refine s_extract rfl rfl rfl ?_;refine s_extract rfl rfl rfl ?_;refine s_assign rfl rfl rfl ?_;refine s_assign rfl rfl rfl ?_;refine s_end (hK _ ?_); clear hK K;refine AWP_reg_seq tok fun K hK => ?_;refine s_load rfl rfl rfl ?_;refine s_call rfl rfl (cB) rfl rfl rfl rfl ?_;refine s_move rfl rfl rfl ?_;refine s_extract rfl rfl rfl ?_;refine s_extract rfl rfl rfl ?_;refine s_assign rfl rfl rfl ?_;refine s_assign rfl rfl rfl ?_;refine s_end (hK _ ?_); clear hK K;refine AWP_seq ?_;refine a_join (α := Unit) (fun c => mk 127 [(1, .ptr 1 0), (33, dB true)] [(1, some (.box g.cs))] []) (fun c => True) ?_ ?_
    · refine AWP_regW fun K hK => ?_;refine w_step tok rfl ?_;refine s_move rfl rfl rfl ?_;refine s_end ?_;refine w_step tok rfl ?_;refine s_bin rfl rfl rfl ?_;refine s_end ?_;refine w_step tok rfl ?_;refine s_move rfl rfl rfl ?_;refine s_end ?_;refine w_split (fun h0 => ?_) (fun h0 => ?_)
      · refine w_skip rfl rfl ?_;refine w_skip rfl rfl ?_;refine w_step tok rfl ?_;refine s_pick rfl rfl rfl ?_;refine s_end ?_;refine w_end rfl (hK _ ?_); clear hK K
        first|(exact absurd h0 (by decide))|exact ⟨(), trivial, Wk.mk' ⟨rfl, rfl, trivial⟩ ⟨rfl, trivial⟩⟩
      · refine w_step tok rfl ?_;refine s_move rfl rfl rfl ?_;refine s_end ?_;refine w_step tok rfl ?_;refine s_bin rfl rfl rfl ?_;refine s_end ?_;refine w_step tok rfl ?_;refine s_pick rfl rfl rfl ?_;refine s_end ?_;refine w_end rfl (hK _ ?_); clear hK K
        first|(exact absurd h0 (by decide))|exact ⟨(), trivial, Wk.mk' ⟨rfl, rfl, trivial⟩ ⟨rfl, trivial⟩⟩
    rintro - -
    refine a_cond rfl (fun _ => ?_) (fun h => by cases h);refine AWP_reg_seq tok fun K hK => ?_;refine s_load rfl rfl rfl ?_;refine s_call rfl rfl (cV) rfl rfl rfl rfl ?_;refine s_un rfl rfl rfl ?_;refine s_assign rfl rfl rfl ?_;refine s_end (hK _ ?_); clear hK K;refine AWP_ret ?_
    repeat (with_reducible refine tq_ret ?_)
    exact post_ret (fin_mk (by rfl) (by rfl) (by rfl))
end Go.Proofs.Ytgopibpkgmafiaa
