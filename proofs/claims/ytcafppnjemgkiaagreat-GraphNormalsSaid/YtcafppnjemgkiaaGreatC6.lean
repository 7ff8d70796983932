/- Part of a proof that a Go function answers true for every input. No condition. -/
import Derived.Test.YtcafppnjemgkiaaGreatC5
set_option linter.unusedVariables false
set_option linter.unusedSimpArgs false
set_option linter.unusedSectionVars false
/- The reference's normal equations. No condition. -/
namespace Go.Proofs.YtcafppnjemgkiaaGreat
attribute [local irreducible] lexA

def cfN (i : Nat) (l : LK) : Int := if l.f = (i : Int) then -l.w else if l.t = (i : Int) then l.w else 0
theorem nr_a (x a : Rat) (w : Int) : x + a * (w : Rat) = x + (w : Rat) * a := by rw [Rat.mul_comm]
theorem nrS_at {g : GR} {n : Nat} (p : (Nat → Rat) × (Nat → Rat)) {l : LK} (lv : LV n l) (i : Nat) :
    (nrS g p l).1 i = p.1 i + ((cfN i l : Int) : Rat) * alX (frN g l) l ∧ (nrS g p l).2 i = p.2 i + ((cfN i l : Int) : Rat) * alY (frN g l) l := by
  have h1 := lv.f
  have h2 := lv.t
  have h3 := lv.fn.1
  simp only [nrS, updF, cfN]
  by_cases hf : l.f = (i : Int)
  · have hi : i = l.f.toNat := by omega
    rw [if_pos hf, if_pos hi, if_neg (by omega), if_pos hi, if_neg (by omega), hi]
    exact ⟨nr_a _ _ _, nr_a _ _ _⟩
  · by_cases ht : l.t = (i : Int)
    · have hi : i = l.t.toNat := by omega
      rw [if_neg hf, if_pos ht, if_neg (by omega), if_pos hi, if_neg (by omega), if_pos hi, hi]
      exact ⟨nr_a _ _ _, nr_a _ _ _⟩
    · rw [if_neg hf, if_neg ht, if_neg (by omega), if_neg (by omega), if_neg (by omega), if_neg (by omega)]
      constructor <;> grind
theorem nrM_snoc (n : Nat) (M : Nat → Nat → Int) (k : Nat) : (nrM n M k).map cM ++ [cM ((lapR n M (k + 1)).drop 1)] = (nrM n M (k + 1)).map cM := by
  rw [nrM, nrM, List.range_succ (n := k), List.map_append, List.map_append]; rfl
theorem nrX_snoc (X : Nat → Rat) (k : Nat) : (nrX X k).map RW.dc ++ [(qzW (X (k + 1))).dc] = (nrX X (k + 1)).map RW.dc := by
  rw [nrX, nrX, List.range_succ (n := k), List.map_append, List.map_append]; rfl

theorem r28Normal_c (g : GR) (ok : ∀ r ∈ g.nodes, r.OK 4096) (hl : g.links.length ≤ 9223372036854775806) :
    Con Tryz.prog 17 [AG g.cs] { v := .tup [.one (.d (dMs (nrV g).1)), .one (.d (dRs (nrV g).2.1)), .one (.d (dRs (nrV g).2.2.1)), .one (.d (lI (nrV g).2.2.2))] } := by
  refine con_intro (fn := Tryz.f17) tok Tryz.func17 (by kernel_rfl) rfl ?_
  intro w0 X
  rw [entry_mkE _ _ [(0, AG g.cs)] rfl rfl]
  have cl := r28Lap_c g hl
  cases hc : validB g with
  | false =>
    have e : nrV g = ([], [], [], 1) := by rw [nrV, if_neg (by rw [hc]; simp)]
    have e2 : lapV g = ([], 1) := by rw [lapV, if_neg (by rw [hc]; simp)]
    rw [e2] at cl
    rw [e]
    refine AWP_reg_seq tok fun K hK => ?_
    refine s_box rfl rfl rfl rfl rfl rfl ?_
    refine s_assign rfl rfl rfl ?_
    refine s_assign rfl rfl rfl ?_
    refine s_assign rfl rfl rfl ?_
    refine s_assign rfl rfl rfl ?_
    refine s_end (hK _ ?_); clear hK K
    refine AWP_reg_seq tok fun K hK => ?_
    refine s_load rfl rfl rfl ?_
    refine s_call rfl rfl (cl) rfl rfl rfl rfl ?_
    refine s_move rfl rfl rfl ?_
    refine s_extract rfl rfl rfl ?_
    refine s_extract rfl rfl rfl ?_
    refine s_assign rfl rfl rfl ?_
    refine s_assign rfl rfl rfl ?_
    refine s_end (hK _ ?_); clear hK K
    refine AWP_seq ?_
    refine AWP_reg_seq tok fun K hK => ?_
    refine s_move rfl rfl rfl ?_
    refine s_bin rfl rfl rfl ?_
    refine s_end (hK _ ?_); clear hK K
    refine a_cond rfl (fun hx => ?_) (fun hx => ?_)
    · refine AWP_reg_seq tok fun K hK => ?_
      refine s_move rfl rfl rfl ?_
      refine s_assign rfl rfl rfl ?_
      refine s_assign rfl rfl rfl ?_
      refine s_assign rfl rfl rfl ?_
      refine s_assign rfl rfl rfl ?_
      refine s_end (hK _ ?_); clear hK K
      refine AWP_ret ?_
      repeat (with_reducible refine tq_ret ?_)
      exact post_ret (fin_mk (by rfl) (by rfl) (by rfl))
    · exact absurd (show ((1 : Int) != 0) = false from hx) (by decide)
  | true =>
    have gv := validB_iff.1 hc
    obtain ⟨m, hm⟩ : ∃ m, g.nodes.length = m + 1 := ⟨g.nodes.length - 1, by have := gv.n1; omega⟩
    have n16 := gv.n2
    have l48 := gv.l
    have e2 : lapV g = (lapQ (m + 1) (lapM g.links), 0) := by rw [lapV, if_pos hc, hm]
    have e : nrV g = (nrM (m + 1) (lapM g.links) m, nrX (nrL g g.links).1 m, nrX (nrL g g.links).2 m, 0) := by rw [nrV, if_pos hc, hm]; rfl
    rw [e2] at cl
    rw [e]
    have e0 := r2OfI_c 0 ⟨by decide, by decide⟩
    have eall : g.links.take g.links.length = g.links := List.take_length
    have hbd : ∀ j, j ≤ g.links.length → ∀ i, ql ((nrL g (g.links.take j)).1 i) ≤ 2097152 ∧ ql ((nrL g (g.links.take j)).2 i) ≤ 2097152 := by
      intro j hj i
      have := nrL_le gv ok j hj i
      omega
    have hQ : ∀ i (h : i < (lapQ (m + 1) (lapM g.links)).length), (lapQ (m + 1) (lapM g.links))[i] = lapR (m + 1) (lapM g.links) i := fun i h => lapQ_get h
    have hQl : (lapQ (m + 1) (lapM g.links)).length = m + 1 := lapQ_len _ _
    refine AWP_reg_seq tok fun K hK => ?_
    refine s_box rfl rfl rfl rfl rfl rfl ?_
    refine s_assign rfl rfl rfl ?_
    refine s_assign rfl rfl rfl ?_
    refine s_assign rfl rfl rfl ?_
    refine s_assign rfl rfl rfl ?_
    refine s_end (hK _ ?_); clear hK K
    refine AWP_reg_seq tok fun K hK => ?_
    refine s_load rfl rfl rfl ?_
    refine s_call rfl rfl (cl) rfl rfl rfl rfl ?_
    refine s_move rfl rfl rfl ?_
    refine s_extract rfl rfl rfl ?_
    refine s_extract rfl rfl rfl ?_
    refine s_assign rfl rfl rfl ?_
    refine s_assign rfl rfl rfl ?_
    refine s_end (hK _ ?_); clear hK K
    refine AWP_seq ?_
    refine AWP_reg_seq tok fun K hK => ?_
    refine s_move rfl rfl rfl ?_
    refine s_bin rfl rfl rfl ?_
    refine s_end (hK _ ?_); clear hK K
    refine a_cond rfl (fun hx => ?_) (fun hx => ?_)
    · exact absurd (show ((0 : Int) != 0) = true from hx) (by decide)
    refine AWP_skip ?_
    show AWP _ _ _ _ _ _
    refine AWP_reg_seq tok fun K hK => ?_
    refine s_assign rfl rfl rfl ?_
    refine s_end (hK _ ?_); clear hK K
    refine AWP_reg_seq tok fun K hK => ?_
    refine s_assign rfl rfl rfl ?_
    refine s_end (hK _ ?_); clear hK K
    refine AWP_reg_seq tok fun K hK => ?_
    refine s_assign rfl rfl rfl ?_
    refine s_end (hK _ ?_); clear hK K
    refine AWP_seq ?_
    refine AWP_reg_seq tok fun K hK => ?_
    refine s_assign rfl rfl rfl ?_
    refine s_end (hK _ ?_); clear hK K
    refine AWP_block (a_loop (α := Nat) (fun k => mk 109 [(1, .ptr 1 0), (6, V1 (dMs (lapQ (m + 1) (lapM g.links)))), (8, ownN 200 1 k), (9, ownN 201 4 k), (10, ownN 202 4 k), (11, dI (k + 1 : Nat))] [(1, some (.box g.cs)), (200, arrN 1 ((nrM (m + 1) (lapM g.links) k).map cM) k), (201, arrN 4 ((nrX (nrL g g.links).1 k).map RW.dc) k), (202, arrN 4 ((nrX (nrL g g.links).2 k).map RW.dc) k)] []) (fun k => k ≤ m) (fun k => m - k) 0 ?_ (Nat.zero_le _) ?_)
    · exact Wk.mk' ⟨rfl, rfl, rfl, rfl, rfl, rfl, trivial⟩ ⟨rfl, rfl, rfl, rfl, trivial⟩
    intro k hk
    refine AWP_seq ?_
    refine AWP_reg_seq tok fun K hK => ?_
    refine s_move rfl rfl rfl ?_
    refine s_move rfl rfl rfl ?_
    refine s_blt rfl (len_m cM rfl rfl) rfl ?_
    refine s_bin rfl rfl rfl ?_
    refine s_end (hK _ ?_); clear hK K
    rw [hQl]
    refine a_cond rfl (fun hg => ?_) (fun hg => ?_)
    · have hg : k < m := by simp at hg; omega
      have hkQ : k + 1 < (lapQ (m + 1) (lapM g.links)).length := by rw [hQl]; omega
      have n1 := nrM_snoc (m + 1) (lapM g.links) k
      have n2 := nrX_snoc (nrL g g.links).1 k
      have n3 := nrX_snoc (nrL g g.links).2 k
      have z1 : ((nrM (m + 1) (lapM g.links) k).map cM).length = k := by simp [nrM]
      have z2 : ((nrX (nrL g g.links).1 k).map RW.dc).length = k := by simp [nrX]
      have z3 : ((nrX (nrL g g.links).2 k).map RW.dc).length = k := by simp [nrX]
      generalize (nrM (m + 1) (lapM g.links) k).map cM = es at n1 z1 ⊢
      generalize (nrX (nrL g g.links).1 k).map RW.dc = xs at n2 z2 ⊢
      generalize (nrX (nrL g g.links).2 k).map RW.dc = ys at n3 z3 ⊢
      have hlr : (lapR (m + 1) (lapM g.links) (k + 1)).length = m + 1 := lapR_len _ _ _
      refine AWP_skip ?_
      show AWP _ _ _ _ _ _
      refine AWP_seq ?_
      refine AWP_block ?_
      refine a_join (α := Unit) (fun _ => mk 109 [(1, .ptr 1 0), (6, V1 (dMs (lapQ (m + 1) (lapM g.links)))), (8, .val (.one (.own 200 1 0 (k + 1)))), (9, ownN 201 4 k), (10, ownN 202 4 k), (11, dI (k + 1 : Nat))] [(1, some (.box g.cs)), (200, some (.arr 1 ((nrM (m + 1) (lapM g.links) (k + 1)).map cM))), (201, arrN 4 xs k), (202, arrN 4 ys k)] []) (fun _ => True) ?_ ?_
      · rcases k with _ | k
        · refine AWP_reg tok fun K hK => ?_
          refine s_move rfl rfl rfl ?_
          refine s_move rfl rfl rfl ?_
          refine s_move rfl rfl rfl ?_
          refine s_indexAddr rfl (x_m cM rfl rfl rfl rfl hkQ rfl) rfl ?_
          refine s_load rfl (by rw [hQ _ hkQ]; rfl) rfl ?_
          refine s_slice rfl rfl rfl (sl_m (l := lapR (m + 1) (lapM g.links) (0 + 1)) RW.dc rfl rfl rfl (by rw [List.length_map]) (by rw [hlr]; omega) (fun _ => rfl)) rfl ?_
          refine s_buildSlice rfl rfl rfl rfl ?_
          refine s_append rfl (ap_nil rfl rfl rfl rfl rfl (by decide) (Nat.le_of_ble_eq_true rfl) rfl (by simp) rfl (by simp) (by simp)) rfl rfl ?_
          refine s_assign rfl rfl rfl ?_
          refine s_end (hK _ ?_); clear hK K
          refine ⟨(), trivial, Wk.rn [1, 6, 9, 10, 11, 8] [1, 201, 202, 39] 39 200 rfl rfl rfl ⟨rfl, rfl, ?_, rfl, rfl, rfl, trivial⟩ ⟨rfl, ?_, rfl, rfl, trivial⟩⟩
          · first
              | rfl
              | (show SV.val (.one (.own 200 1 0 _)) = _
                 rw [List.length_append, z1]; rfl)
          · first
              | (rw [← n1, List.length_eq_zero_iff.1 z1]; rfl)
              | (rw [← n1]; rfl)
        · refine AWP_reg tok fun K hK => ?_
          refine s_move rfl rfl rfl ?_
          refine s_move rfl rfl rfl ?_
          refine s_move rfl rfl rfl ?_
          refine s_indexAddr rfl (x_m cM rfl rfl rfl rfl hkQ rfl) rfl ?_
          refine s_load rfl (by rw [hQ _ hkQ]; rfl) rfl ?_
          refine s_slice rfl rfl rfl (sl_m (l := lapR (m + 1) (lapM g.links) (k + 1 + 1)) RW.dc rfl rfl rfl (by rw [List.length_map]) (by rw [hlr]; omega) (fun _ => rfl)) rfl ?_
          refine s_buildSlice rfl rfl rfl rfl ?_
          refine s_append rfl (ap_o rfl rfl rfl rfl rfl rfl (by decide) (Nat.le_of_ble_eq_true rfl) rfl (by simp) rfl rfl z1.symm (by simp <;> omega)) rfl rfl ?_
          refine s_assign rfl rfl rfl ?_
          refine s_end (hK _ ?_); clear hK K
          refine ⟨(), trivial, Wk.rn [1, 6, 9, 10, 11, 8] [1, 201, 202, 39] 39 200 rfl rfl rfl ⟨rfl, rfl, ?_, rfl, rfl, rfl, trivial⟩ ⟨rfl, ?_, rfl, rfl, trivial⟩⟩
          · first
              | rfl
              | (show SV.val (.one (.own 200 1 0 _)) = _
                 rw [List.length_append, z1]; rfl)
          · first
              | (rw [← n1, List.length_eq_zero_iff.1 z1]; rfl)
              | (rw [← n1]; rfl)
      rintro - -
      obtain ⟨es', hes⟩ : ∃ es', es' = (nrM (m + 1) (lapM g.links) (k + 1)).map cM := ⟨_, rfl⟩
      rw [← hes]
      refine AWP_reg_seq tok fun K hK => ?_
      refine s_call rfl rfl (e0) rfl rfl rfl rfl ?_
      refine s_alloc rfl rfl rfl rfl rfl (by rcases k with _|k <;> rfl) ?_
      refine s_store rfl rfl rfl rfl rfl ?_
      refine s_end (hK _ ?_); clear hK K
      refine AWP_reg_seq tok fun K hK => ?_
      refine s_call rfl rfl (e0) rfl rfl rfl rfl ?_
      refine s_alloc rfl rfl rfl rfl rfl (by rcases k with _|k <;> rfl) ?_
      refine s_store rfl rfl rfl rfl rfl ?_
      refine s_end (hK _ ?_); clear hK K
      refine AWP_seq ?_
      refine AWP_reg_seq tok fun K hK => ?_
      refine s_assign rfl rfl rfl ?_
      refine s_end (hK _ ?_); clear hK K
      refine AWP_block (a_loop (α := Nat) (fun j => mk 109 [(1, .ptr 1 0), (6, V1 (dMs (lapQ (m + 1) (lapM g.links)))), (8, .val (.one (.own 200 1 0 (k + 1)))), (9, ownN 201 4 k), (10, ownN 202 4 k), (11, dI (k + 1 : Nat)), (12, .ptr 12 0), (13, .ptr 13 0), (14, dI j)] [(1, some (.box g.cs)), (200, some (.arr 1 es')), (201, arrN 4 xs k), (202, arrN 4 ys k), (12, some (.box (qzW ((nrL g (g.links.take j)).1 (k + 1))).cs)), (13, some (.box (qzW ((nrL g (g.links.take j)).2 (k + 1))).cs))] []) (fun j => j ≤ g.links.length) (fun j => g.links.length - j) 0 ?_ (Nat.zero_le _) ?_)
      · exact Wk.mk' ⟨rfl, rfl, rfl, rfl, rfl, rfl, rfl, rfl, rfl, trivial⟩ ⟨rfl, rfl, rfl, rfl, rfl, rfl, trivial⟩
      intro j hj
      refine AWP_seq ?_
      refine AWP_reg_seq tok fun K hK => ?_
      refine s_move rfl rfl rfl ?_
      refine s_fieldAddr rfl rfl rfl ?_
      refine s_load rfl rfl rfl ?_
      refine s_blt rfl (len_m LK.dc rfl rfl) rfl ?_
      refine s_bin rfl rfl rfl ?_
      refine s_end (hK _ ?_); clear hK K
      refine a_cond rfl (fun hx => ?_) (fun hx => ?_)
      · have hx : j < g.links.length := by simp at hx; omega
        have hml : g.links[j] ∈ g.links := List.getElem_mem hx
        have lv := linkB_iff.1 (gv.lk _ hml)
        have hst := nrS_at (g := g) (nrL g (g.links.take j)) lv (k + 1)
        rw [← nrL_snoc g hx] at hst
        have hb := hbd j hj (k + 1)
        have ea : alongV g (j : Int) = (alS (frN g g.links[j]) g.links[j], 0) := by
          rw [alongV, if_pos hc, dif_pos ⟨by omega, by omega⟩]; rfl
        have ca := r28Along_c g (j : Int) (fun r hr => (ok r hr).mono rfl) hl
        rw [ea] at ca
        obtain ⟨l, el⟩ : ∃ l, l = g.links[j] := ⟨_, rfl⟩
        rw [← el] at lv hst ca
        have oa : (alS (frN g l) l).OK 16391 := alS_ok (ok _ (frN_mem lv)) rfl lv.ix lv.iy rfl
        have lw := lv.w
        have hcw : I64 (cfN (k + 1) l) := by unfold cfN; split; exact ⟨by omega, by omega⟩; split; exact ⟨by omega, by omega⟩; exact ⟨by omega, by omega⟩
        have c1 := r2OfI_c (cfN (k + 1) l) hcw
        have q1 := ql_i64 hcw
        have ax : (alS (frN g l) l).vx = alX (frN g l) l := szW_vx _ _
        have ay : (alS (frN g l) l).vy = alY (frN g l) l := szW_vy _ _
        have q2 := ql_mul_le q1 (oa.qx rfl)
        have q3 := ql_mul_le q1 (oa.qy rfl)
        rw [← ax, ← ay] at hst
        have c2 := r2Mul_r (qzW (cfN (k + 1) l : Int)) (alS (frN g l) l).x (((cfN (k + 1) l : Int) : Rat) * (alS (frN g l) l).vx) ((qzW_ok q1).mono rfl) (oa.x.mono rfl) (by rw [qzW_v]; rfl)
        have c3 := r2Add_r (qzW ((nrL g (g.links.take j)).1 (k + 1))) (qzW (((cfN (k + 1) l : Int) : Rat) * (alS (frN g l) l).vx)) ((nrL g (g.links.take (j + 1))).1 (k + 1)) ((qzW_ok hb.1).mono rfl) ((qzW_ok q2).mono rfl) (by rw [qzW_v, qzW_v, hst.1])
        have c4 := r2Mul_r (qzW (cfN (k + 1) l : Int)) (alS (frN g l) l).y (((cfN (k + 1) l : Int) : Rat) * (alS (frN g l) l).vy) ((qzW_ok q1).mono rfl) (oa.y.mono rfl) (by rw [qzW_v]; rfl)
        have c5 := r2Add_r (qzW ((nrL g (g.links.take j)).2 (k + 1))) (qzW (((cfN (k + 1) l : Int) : Rat) * (alS (frN g l) l).vy)) ((nrL g (g.links.take (j + 1))).2 (k + 1)) ((qzW_ok hb.2).mono rfl) ((qzW_ok q3).mono rfl) (by rw [qzW_v, qzW_v, hst.2])
        clear hst
        generalize (nrL g (g.links.take j)).1 (k + 1) = ux at c3 ⊢
        generalize (nrL g (g.links.take j)).2 (k + 1) = uy at c5 ⊢
        generalize alS (frN g l) l = d at ca c2 c3 c4 c5
        refine AWP_skip ?_
        show AWP _ _ _ _ _ _
        refine AWP_seq ?_
        refine AWP_block ?_
        refine AWP_reg_seq tok fun K hK => ?_
        refine s_load rfl rfl rfl ?_
        refine s_move rfl rfl rfl ?_
        refine s_call rfl rfl (ca) rfl rfl rfl rfl ?_
        refine s_move rfl rfl rfl ?_
        refine s_extract rfl rfl rfl ?_
        refine s_extract rfl rfl rfl ?_
        refine s_alloc rfl rfl rfl rfl rfl (by rcases k with _|k <;> rfl) ?_
        refine s_store rfl rfl rfl rfl rfl ?_
        refine s_assign rfl rfl rfl ?_
        refine s_end (hK _ ?_); clear hK K
        refine AWP_reg_seq tok fun K hK => ?_
        refine s_assign rfl rfl rfl ?_
        refine s_end (hK _ ?_); clear hK K
        refine a_join (α := Int) (fun b => mk 109 [(1, .ptr 1 0), (6, V1 (dMs (lapQ (m + 1) (lapM g.links)))), (8, .val (.one (.own 200 1 0 (k + 1)))), (9, ownN 201 4 k), (10, ownN 202 4 k), (11, dI (k + 1 : Nat)), (12, .ptr 12 0), (13, .ptr 13 0), (14, dI j), (15, .ptr 15 0), (17, dI b)] [(1, some (.box g.cs)), (200, some (.arr 1 es')), (201, arrN 4 xs k), (202, arrN 4 ys k), (12, some (.box (qzW ux).cs)), (13, some (.box (qzW uy).cs)), (15, some (.box d.cs))] []) (fun b => b = if l.t = ((k + 1 : Nat) : Int) then l.w else 0) ?_ ?_
        · refine AWP_reg_seq tok fun K hK => ?_
          refine s_fieldAddr rfl rfl rfl ?_
          refine s_load rfl rfl rfl ?_
          refine s_move rfl rfl rfl ?_
          refine s_indexAddr rfl (x_m LK.dc rfl rfl rfl rfl hx rfl) rfl ?_
          refine s_fieldAddr rfl rfl rfl ?_
          refine s_load rfl (by rw [← el]; rfl) rfl ?_
          refine s_move rfl rfl rfl ?_
          refine s_bin rfl rfl rfl ?_
          refine s_end (hK _ ?_); clear hK K
          refine a_cond rfl (fun hd => ?_) (fun hd => ?_)
          · refine AWP_reg tok fun K hK => ?_
            refine s_fieldAddr rfl rfl rfl ?_
            refine s_load rfl rfl rfl ?_
            refine s_move rfl rfl rfl ?_
            refine s_indexAddr rfl (x_m LK.dc rfl rfl rfl rfl hx rfl) rfl ?_
            refine s_fieldAddr rfl rfl rfl ?_
            refine s_load rfl (by rw [← el]; rfl) rfl ?_
            refine s_assign rfl rfl rfl ?_
            refine s_end (hK _ ?_); clear hK K
            exact ⟨_, by rw [if_pos (by simpa using hd)], Wk.mk' ⟨rfl, rfl, rfl, rfl, rfl, rfl, rfl, rfl, rfl, rfl, rfl, trivial⟩ ⟨rfl, rfl, rfl, rfl, rfl, rfl, rfl, trivial⟩⟩
          · refine AWP_skip ?_
            exact ⟨_, by rw [if_neg (by simpa using hd)], Wk.mk' ⟨rfl, rfl, rfl, rfl, rfl, rfl, rfl, rfl, rfl, rfl, rfl, trivial⟩ ⟨rfl, rfl, rfl, rfl, rfl, rfl, rfl, trivial⟩⟩
        intro b hb1
        refine a_join (α := Int) (fun b => mk 109 [(1, .ptr 1 0), (6, V1 (dMs (lapQ (m + 1) (lapM g.links)))), (8, .val (.one (.own 200 1 0 (k + 1)))), (9, ownN 201 4 k), (10, ownN 202 4 k), (11, dI (k + 1 : Nat)), (12, .ptr 12 0), (13, .ptr 13 0), (14, dI j), (15, .ptr 15 0), (17, dI b)] [(1, some (.box g.cs)), (200, some (.arr 1 es')), (201, arrN 4 xs k), (202, arrN 4 ys k), (12, some (.box (qzW ux).cs)), (13, some (.box (qzW uy).cs)), (15, some (.box d.cs))] []) (fun b => b = cfN (k + 1) l) ?_ ?_
        · refine AWP_reg_seq tok fun K hK => ?_
          refine s_fieldAddr rfl rfl rfl ?_
          refine s_load rfl rfl rfl ?_
          refine s_move rfl rfl rfl ?_
          refine s_indexAddr rfl (x_m LK.dc rfl rfl rfl rfl hx rfl) rfl ?_
          refine s_fieldAddr rfl rfl rfl ?_
          refine s_load rfl (by rw [← el]; rfl) rfl ?_
          refine s_move rfl rfl rfl ?_
          refine s_bin rfl rfl rfl ?_
          refine s_end (hK _ ?_); clear hK K
          refine a_cond rfl (fun hd => ?_) (fun hd => ?_)
          · refine AWP_reg tok fun K hK => ?_
            refine s_fieldAddr rfl rfl rfl ?_
            refine s_load rfl rfl rfl ?_
            refine s_move rfl rfl rfl ?_
            refine s_indexAddr rfl (x_m LK.dc rfl rfl rfl rfl hx rfl) rfl ?_
            refine s_fieldAddr rfl rfl rfl ?_
            refine s_load rfl (by rw [← el]; rfl) rfl ?_
            refine s_un rfl (neg_I ⟨by omega, by omega⟩) rfl ?_
            refine s_assign rfl rfl rfl ?_
            refine s_end (hK _ ?_); clear hK K
            exact ⟨_, by rw [cfN, if_pos (by simpa using hd)], Wk.mk' ⟨rfl, rfl, rfl, rfl, rfl, rfl, rfl, rfl, rfl, rfl, rfl, trivial⟩ ⟨rfl, rfl, rfl, rfl, rfl, rfl, rfl, trivial⟩⟩
          · refine AWP_skip ?_
            exact ⟨b, by rw [cfN, if_neg (by simpa using hd)]; exact hb1, Wk.mk' ⟨rfl, rfl, rfl, rfl, rfl, rfl, rfl, rfl, rfl, rfl, rfl, trivial⟩ ⟨rfl, rfl, rfl, rfl, rfl, rfl, rfl, trivial⟩⟩
        rintro b rfl
        refine a_draw tok mixed (A := [[], [], [], [], [], [1, 3], [1, 2, 3, 4], []]) (an := [{}, {}, {}, { c := [86] }, { c := [86] }, {}, {}, {}]) rfl (by kernel_rfl) rfl fun K hK => ?_
        refine s_load rfl rfl rfl ?_
        refine s_move rfl rfl rfl ?_
        refine s_call rfl rfl (c1) rfl rfl rfl rfl ?_
        refine s_fieldAddr rfl rfl rfl ?_
        refine s_load rfl rfl rfl ?_
        refine s_call rfl rfl (c2) rfl rfl rfl rfl ?_
        refine s_call rfl rfl (c3) rfl rfl rfl rfl ?_
        refine s_store rfl rfl rfl rfl rfl ?_
        refine s_end (hK _ ?_); clear hK K
        refine a_draw1 tok mixed (A := [[], [], [], [], [], [1, 3], [1, 2, 3, 4], []]) (an := [{}, {}, {}, { c := [93] }, { c := [93] }, {}, {}, {}]) rfl (by kernel_rfl) rfl fun K hK => ?_
        refine s_load rfl rfl rfl ?_
        refine s_move rfl rfl rfl ?_
        refine s_call rfl rfl (c1) rfl rfl rfl rfl ?_
        refine s_fieldAddr rfl rfl rfl ?_
        refine s_load rfl rfl rfl ?_
        refine s_call rfl rfl (c4) rfl rfl rfl rfl ?_
        refine s_call rfl rfl (c5) rfl rfl rfl rfl ?_
        refine s_store rfl rfl rfl rfl rfl ?_
        refine s_end (hK _ ?_); clear hK K
        show AWP _ _ _ _ _ _
        refine AWP_reg tok fun K hK => ?_
        refine s_move rfl rfl rfl ?_
        refine s_bin rfl (e_add (c := ((j + 1 : Nat) : Int)) (by omega) (by omega)) rfl ?_
        refine s_assign rfl rfl rfl ?_
        refine s_end (hK _ ?_); clear hK K
        exact ⟨j + 1, by omega, hx, Wk.mk' ⟨rfl, rfl, rfl, rfl, rfl, rfl, rfl, rfl, rfl, trivial⟩ ⟨rfl, rfl, rfl, rfl, rfl, rfl, trivial⟩⟩
      have hx : j = g.links.length := by simp at hx; omega
      subst hx
      refine AWP_exit ?_
      show AWP _ _ _ _ _ _
      rw [eall]
      generalize (nrL g g.links).1 (k + 1) = ux at n2 ⊢
      generalize (nrL g g.links).2 (k + 1) = uy at n3 ⊢
      rcases k with _ | k
      · refine AWP_reg_seq tok fun K hK => ?_
        refine s_move rfl rfl rfl ?_
        refine s_load rfl rfl rfl ?_
        refine s_buildSlice rfl rfl rfl rfl ?_
        refine s_append rfl (ap_nil rfl rfl rfl rfl rfl (by decide) (Nat.le_of_ble_eq_true rfl) rfl (by simp) rfl (by simp) (by simp)) rfl rfl ?_
        refine s_assign rfl rfl rfl ?_
        refine s_end (hK _ ?_); clear hK K
        refine a_rn [1, 6, 8, 10, 11, 13, 9] [1, 200, 202, 13, 101] 101 201 [(1, .ptr 1 0), (6, V1 (dMs (lapQ (m + 1) (lapM g.links)))), (8, .val (.one (.own 200 1 0 (0 + 1)))), (9, .val (.one (.own 201 4 0 (0 + 1)))), (10, ownN 202 4 (0)), (11, dI (0 + 1 : Nat)), (13, .ptr 13 0)] [(1, some (.box g.cs)), (200, some (.arr 1 es')), (201, some (.arr 4 ((nrX (nrL g g.links).1 (0 + 1)).map RW.dc))), (202, arrN 4 ys (0)), (13, some (.box (qzW uy).cs))] rfl rfl rfl ⟨rfl, rfl, rfl, ?_, rfl, rfl, rfl, trivial⟩ ⟨rfl, rfl, ?_, rfl, rfl, trivial⟩ ?_
        · first
            | rfl
            | (show SV.val (.one (.own 201 4 0 _)) = _
               rw [List.length_append, z2]; rfl)
        · first
            | (rw [← n2, List.length_eq_zero_iff.1 z2]; rfl)
            | (rw [← n2]; rfl)
        refine AWP_reg tok fun K hK => ?_
        refine s_move rfl rfl rfl ?_
        refine s_load rfl rfl rfl ?_
        refine s_buildSlice rfl rfl rfl rfl ?_
        refine s_append rfl (ap_nil rfl rfl rfl rfl rfl (by decide) (Nat.le_of_ble_eq_true rfl) rfl (by simp) rfl (by simp) (by simp)) rfl rfl ?_
        refine s_assign rfl rfl rfl ?_
        refine s_end (hK _ ?_); clear hK K
        show AWP _ _ _ _ _ _
        refine AWP_reg tok fun K hK => ?_
        refine s_move rfl rfl rfl ?_
        refine s_bin rfl (e_add (c := ((0 + 1 + 1 : Nat) : Int)) (by omega) (by omega)) rfl ?_
        refine s_assign rfl rfl rfl ?_
        refine s_end (hK _ ?_); clear hK K
        refine ⟨0 + 1, by omega, hg, Wk.rn [1, 6, 8, 9, 11, 10] [1, 200, 201, 105] 105 202 rfl rfl rfl ⟨rfl, rfl, rfl, rfl, ?_, rfl, trivial⟩ ⟨rfl, ?_, rfl, ?_, trivial⟩⟩
        · first
            | rfl
            | (show SV.val (.one (.own 202 4 0 _)) = _
               rw [List.length_append, z3]; rfl)
        · rw [← hes]; rfl
        · first
            | (rw [← n3, List.length_eq_zero_iff.1 z3]; rfl)
            | (rw [← n3]; rfl)
      · refine AWP_reg_seq tok fun K hK => ?_
        refine s_move rfl rfl rfl ?_
        refine s_load rfl rfl rfl ?_
        refine s_buildSlice rfl rfl rfl rfl ?_
        refine s_append rfl (ap_o rfl rfl rfl rfl rfl rfl (by decide) (Nat.le_of_ble_eq_true rfl) rfl (by simp) rfl rfl z2.symm (by simp <;> omega)) rfl rfl ?_
        refine s_assign rfl rfl rfl ?_
        refine s_end (hK _ ?_); clear hK K
        refine a_rn [1, 6, 8, 10, 11, 13, 9] [1, 200, 202, 13, 101] 101 201 [(1, .ptr 1 0), (6, V1 (dMs (lapQ (m + 1) (lapM g.links)))), (8, .val (.one (.own 200 1 0 (k + 1 + 1)))), (9, .val (.one (.own 201 4 0 (k + 1 + 1)))), (10, ownN 202 4 (k + 1)), (11, dI (k + 1 + 1 : Nat)), (13, .ptr 13 0)] [(1, some (.box g.cs)), (200, some (.arr 1 es')), (201, some (.arr 4 ((nrX (nrL g g.links).1 (k + 1 + 1)).map RW.dc))), (202, arrN 4 ys (k + 1)), (13, some (.box (qzW uy).cs))] rfl rfl rfl ⟨rfl, rfl, rfl, ?_, rfl, rfl, rfl, trivial⟩ ⟨rfl, rfl, ?_, rfl, rfl, trivial⟩ ?_
        · first
            | rfl
            | (show SV.val (.one (.own 201 4 0 _)) = _
               rw [List.length_append, z2]; rfl)
        · first
            | (rw [← n2, List.length_eq_zero_iff.1 z2]; rfl)
            | (rw [← n2]; rfl)
        refine AWP_reg tok fun K hK => ?_
        refine s_move rfl rfl rfl ?_
        refine s_load rfl rfl rfl ?_
        refine s_buildSlice rfl rfl rfl rfl ?_
        refine s_append rfl (ap_o rfl rfl rfl rfl rfl rfl (by decide) (Nat.le_of_ble_eq_true rfl) rfl (by simp) rfl rfl z3.symm (by simp <;> omega)) rfl rfl ?_
        refine s_assign rfl rfl rfl ?_
        refine s_end (hK _ ?_); clear hK K
        show AWP _ _ _ _ _ _
        refine AWP_reg tok fun K hK => ?_
        refine s_move rfl rfl rfl ?_
        refine s_bin rfl (e_add (c := ((k + 1 + 1 + 1 : Nat) : Int)) (by omega) (by omega)) rfl ?_
        refine s_assign rfl rfl rfl ?_
        refine s_end (hK _ ?_); clear hK K
        refine ⟨k + 1 + 1, by omega, hg, Wk.rn [1, 6, 8, 9, 11, 10] [1, 200, 201, 105] 105 202 rfl rfl rfl ⟨rfl, rfl, rfl, rfl, ?_, rfl, trivial⟩ ⟨rfl, ?_, rfl, ?_, trivial⟩⟩
        · first
            | rfl
            | (show SV.val (.one (.own 202 4 0 _)) = _
               rw [List.length_append, z3]; rfl)
        · rw [← hes]; rfl
        · first
            | (rw [← n3, List.length_eq_zero_iff.1 z3]; rfl)
            | (rw [← n3]; rfl)
    have hk' : k = m := by simp at hg; omega
    subst hk'
    refine AWP_exit ?_
    show AWP _ _ _ _ _ _
    rcases k with _ | k
    · refine AWP_reg_seq tok fun K hK => ?_
      refine s_move rfl rfl rfl ?_
      refine s_move rfl rfl rfl ?_
      refine s_move rfl rfl rfl ?_
      refine s_assign rfl rfl rfl ?_
      refine s_assign rfl rfl rfl ?_
      refine s_assign rfl rfl rfl ?_
      refine s_assign rfl rfl rfl ?_
      refine s_end (hK _ ?_); clear hK K
      refine AWP_ret ?_
      repeat (with_reducible refine tq_ret ?_)
      exact post_ret (fin_mk (by rfl) (by rfl) (by rfl))
    · refine a_fz [8, 9, 10] [200, 201, 202] 200 [(8, V1 (dMs (nrM (k + 1 + 1) (lapM g.links) (k + 1)))), (9, .val (.one (.own 201 4 0 (k + 1)))), (10, .val (.one (.own 202 4 0 (k + 1))))] [(201, some (.arr 4 ((nrX (nrL g g.links).1 (k + 1)).map RW.dc))), (202, some (.arr 4 ((nrX (nrL g g.links).2 (k + 1)).map RW.dc)))] rfl ⟨?_, rfl, rfl, trivial⟩ ⟨rfl, rfl, trivial⟩ ?_
      · exact frz_own rfl (by simp [nrM])
      refine a_fz [8, 9, 10] [201, 202] 201 [(8, V1 (dMs (nrM (k + 1 + 1) (lapM g.links) (k + 1)))), (9, V1 (dRs (nrX (nrL g g.links).1 (k + 1)))), (10, .val (.one (.own 202 4 0 (k + 1))))] [(202, some (.arr 4 ((nrX (nrL g g.links).2 (k + 1)).map RW.dc)))] rfl ⟨rfl, ?_, rfl, trivial⟩ ⟨rfl, trivial⟩ ?_
      · exact frz_own rfl (by simp [nrX])
      refine a_fz [8, 9, 10] [202] 202 [(8, V1 (dMs (nrM (k + 1 + 1) (lapM g.links) (k + 1)))), (9, V1 (dRs (nrX (nrL g g.links).1 (k + 1)))), (10, V1 (dRs (nrX (nrL g g.links).2 (k + 1))))] [] rfl ⟨rfl, rfl, ?_, trivial⟩ trivial ?_
      · exact frz_own rfl (by simp [nrX])
      refine AWP_reg_seq tok fun K hK => ?_
      refine s_move rfl rfl rfl ?_
      refine s_move rfl rfl rfl ?_
      refine s_move rfl rfl rfl ?_
      refine s_assign rfl rfl rfl ?_
      refine s_assign rfl rfl rfl ?_
      refine s_assign rfl rfl rfl ?_
      refine s_assign rfl rfl rfl ?_
      refine s_end (hK _ ?_); clear hK K
      refine AWP_ret ?_
      repeat (with_reducible refine tq_ret ?_)
      exact post_ret (fin_mk (by rfl) (by rfl) (by rfl))

theorem lNormals_c (g : GR) (hg : ∀ r ∈ g.nodes, r.W) : Con Tryz.prog 4 [AG g.cs] { v := dB true } := by
  refine con_intro (fn := Tryz.f4) tok Tryz.func4 (by kernel_rfl) rfl ?_
  intro w0 X
  rw [entry_mkE _ _ [(0, AG g.cs)] rfl rfl]
  refine AWP_reg_seq tok fun K hK => ?_
  refine s_box rfl rfl rfl rfl rfl rfl ?_
  refine s_assign rfl rfl rfl ?_
  refine s_end (hK _ ?_); clear hK K
  refine AWP_seq ?_
  refine a_join (α := Bool) (fun c => mk 51 [(1, .ptr 1 0), (2, dB false), (17, dB c)] [(1, some (.box g.cs))] []) (fun c => c = !fewB g) ?_ ?_
  · refine AWP_regW fun K hK => ?_
    refine w_step tok rfl ?_
    refine s_call rfl rfl (awake_c) rfl rfl rfl rfl ?_
    refine s_end ?_
    refine w_step tok rfl ?_
    refine s_un rfl rfl rfl ?_
    refine s_end ?_
    refine w_step tok rfl ?_
    refine s_move rfl rfl rfl ?_
    refine s_end ?_
    refine w_split (fun h0 => ?_) (fun h0 => ?_)
    · refine w_skip rfl rfl ?_
      refine w_skip rfl rfl ?_
      refine w_skip rfl rfl ?_
      refine w_step tok rfl ?_
      refine s_pick rfl rfl rfl ?_
      refine s_end ?_
      refine w_end rfl (hK _ ?_); clear hK K
      first|(exact absurd h0 (by decide))|exact ⟨_, rfl, Wk.mk' ⟨rfl, rfl, rfl, trivial⟩ ⟨rfl, trivial⟩⟩
    · refine w_step tok rfl ?_
      refine s_load rfl rfl rfl ?_
      refine s_end ?_
      refine w_step tok rfl ?_
      refine s_call rfl rfl (few_c g) rfl rfl rfl rfl ?_
      refine s_end ?_
      refine w_step tok rfl ?_
      refine s_un rfl rfl rfl ?_
      refine s_end ?_
      refine w_step tok rfl ?_
      refine s_pick rfl rfl rfl ?_
      refine s_end ?_
      refine w_end rfl (hK _ ?_); clear hK K
      first|(exact absurd h0 (by decide))|exact ⟨_, rfl, Wk.mk' ⟨rfl, rfl, rfl, trivial⟩ ⟨rfl, trivial⟩⟩
  rintro c rfl
  refine a_cond rfl (fun hc => ?_) (fun hc => ?_)
  · refine AWP_reg_seq tok fun K hK => ?_
    refine s_call rfl rfl (awake_c) rfl rfl rfl rfl ?_
    refine s_assign rfl rfl rfl ?_
    refine s_end (hK _ ?_); clear hK K
    refine AWP_ret ?_
    repeat (with_reducible refine tq_ret ?_)
    exact post_ret (fin_mk (by rfl) (by rfl) (by rfl))
  rw [Bool.not_eq_false'] at hc
  obtain ⟨ok, l1, l2⟩ := fewB_ok hc hg
  have ok' : ∀ r ∈ g.nodes, r.OK 4096 := fun r hr => (ok r hr).mono rfl
  have c1 := gNormal_c g ok'
  have c2 := r28Normal_c g ok' (by omega)
  have hb : (∀ r ∈ (nrV g).1, r.length ≤ 9223372036854775806 ∧ ∀ x ∈ r, RS x) ∧ (nrV g).1.length ≤ 9223372036854775806 ∧ (∀ x ∈ (nrV g).2.1, RS x) ∧ (nrV g).2.1.length ≤ 9223372036854775806 ∧ (∀ x ∈ (nrV g).2.2.1, RS x) ∧ (nrV g).2.2.1.length ≤ 9223372036854775806 := by
    unfold nrV
    split
    · rename_i hv
      have gv := validB_iff.1 hv
      have n16 := gv.n2
      have l48 := gv.l
      have hLV : ∀ l ∈ g.links, LV g.nodes.length l := fun l hl => linkB_iff.1 (gv.lk l hl)
      have hq : ∀ i, ql ((nrL g g.links).1 i) ≤ 2097152 ∧ ql ((nrL g g.links).2 i) ≤ 2097152 := by
        intro i
        have := nrL_le gv ok' g.links.length (Nat.le_refl _) i
        rw [List.take_length] at this
        omega
      refine ⟨?_, by simp [nrM]; omega, ?_, by simp [nrX]; omega, ?_, by simp [nrX]; omega⟩
      · intro r hr
        obtain ⟨i, _, rfl⟩ := List.mem_map.1 hr
        refine ⟨by rw [List.length_drop, lapR_len]; omega, fun x hx => ?_⟩
        obtain ⟨j, _, rfl⟩ := List.mem_map.1 (List.mem_of_mem_drop hx)
        have := lapM_take_le hLV l48 g.links.length (i + 1) j
        rw [List.take_length] at this
        exact RS_int _ ⟨by omega, by omega⟩
      · intro x hx
        obtain ⟨i, _, rfl⟩ := List.mem_map.1 hx
        have o := qzW_ok (hq (i + 1)).1
        exact ⟨Nat.le_trans o.lp (by decide), Nat.le_trans o.lq (by decide)⟩
      · intro x hx
        obtain ⟨i, _, rfl⟩ := List.mem_map.1 hx
        have o := qzW_ok (hq (i + 1)).2
        exact ⟨Nat.le_trans o.lp (by decide), Nat.le_trans o.lq (by decide)⟩
    · exact ⟨fun _ h => (by cases h), by decide, fun _ h => (by cases h), by decide, fun _ h => (by cases h), by decide⟩
  generalize nrV g = v at c1 c2 hb
  obtain ⟨a, x, y, e⟩ := v
  obtain ⟨b1, b2, b3, b4, b5, b6⟩ := hb
  refine AWP_skip ?_
  show AWP _ _ _ _ _ _
  refine AWP_reg_seq tok fun K hK => ?_
  refine s_load rfl rfl rfl ?_
  refine s_call rfl rfl (c1) rfl rfl rfl rfl ?_
  refine s_move rfl rfl rfl ?_
  refine s_extract rfl rfl rfl ?_
  refine s_extract rfl rfl rfl ?_
  refine s_extract rfl rfl rfl ?_
  refine s_extract rfl rfl rfl ?_
  refine s_assign rfl rfl rfl ?_
  refine s_assign rfl rfl rfl ?_
  refine s_assign rfl rfl rfl ?_
  refine s_assign rfl rfl rfl ?_
  refine s_end (hK _ ?_); clear hK K
  refine AWP_reg_seq tok fun K hK => ?_
  refine s_load rfl rfl rfl ?_
  refine s_call rfl rfl (c2) rfl rfl rfl rfl ?_
  refine s_move rfl rfl rfl ?_
  refine s_extract rfl rfl rfl ?_
  refine s_extract rfl rfl rfl ?_
  refine s_extract rfl rfl rfl ?_
  refine s_extract rfl rfl rfl ?_
  refine s_assign rfl rfl rfl ?_
  refine s_assign rfl rfl rfl ?_
  refine s_assign rfl rfl rfl ?_
  refine s_assign rfl rfl rfl ?_
  refine s_end (hK _ ?_); clear hK K
  refine AWP_reg_seq tok fun K hK => ?_
  refine s_move rfl rfl rfl ?_
  refine s_move rfl rfl rfl ?_
  refine s_call rfl rfl (matrix_same a b2 b1) rfl rfl rfl rfl ?_
  refine s_move rfl rfl rfl ?_
  refine s_move rfl rfl rfl ?_
  refine s_move rfl rfl rfl ?_
  refine s_call rfl rfl (rats_same x b4 b3) rfl rfl rfl rfl ?_
  refine s_pick rfl rfl rfl ?_
  refine s_move rfl rfl rfl ?_
  refine s_move rfl rfl rfl ?_
  refine s_move rfl rfl rfl ?_
  refine s_call rfl rfl (rats_same y b6 b5) rfl rfl rfl rfl ?_
  refine s_pick rfl rfl rfl ?_
  refine s_move rfl rfl rfl ?_
  refine s_move rfl rfl rfl ?_
  refine s_move rfl rfl rfl ?_
  refine s_bin rfl (e_eqI rfl) rfl ?_
  refine s_pick rfl rfl rfl ?_
  refine s_assign rfl rfl rfl ?_
  refine s_end (hK _ ?_); clear hK K
  refine AWP_ret ?_
  repeat (with_reducible refine tq_ret ?_)
  exact post_ret (fin_mk (by rfl) (by rfl) (by rfl))
end Go.Proofs.YtcafppnjemgkiaaGreat
