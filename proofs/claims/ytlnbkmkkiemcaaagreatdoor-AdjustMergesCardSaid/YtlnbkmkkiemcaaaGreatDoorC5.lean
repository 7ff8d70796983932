/- Part of a proof that a Go function answers true for every input. No condition. -/
import Derived.Test.YtlnbkmkkiemcaaaGreatDoorC4
set_option linter.unusedVariables false
set_option linter.unusedSimpArgs false
set_option linter.unusedSectionVars false
/- adjust: Minimum, Least, Gradient, Worst. No condition. -/
namespace Go.Proofs.YtlnbkmkkiemcaaaGreatDoor
attribute [local irreducible] lexA
open Go.RowKit

set_option maxHeartbeats 1000000 in
theorem gMin_c (g : GR) (ok : ∀ r ∈ g.nodes, r.OK 4096) (hs : validB g = true → SM g) : Con Tryz.prog 15 [AG g.cs] { v := .tup [.one (.d (dSs (minV g).1)), .one (.d (lI (minV g).2))] } := by
  have cN := gNormal_c g ok
  have cz := qOfI_c 0 ⟨by decide, by decide⟩
  refine con_intro (fn := Tryz.f15) tok Tryz.func15 (by kernel_rfl) rfl ?_
  intro w0 X
  rw [entry_mkE _ _ [(0, AG g.cs)] rfl rfl];refine AWP_reg_seq tok fun K hK => ?_;refine s_box rfl rfl rfl rfl rfl rfl ?_;refine asQ ?_;refine asQ ?_;refine s_end (hK _ ?_); clear hK K
  by_cases hv : validB g = true
  · have gv := validB_iff.1 hv
    have S := hs hv
    have NR := nrm_all gv S
    have n6 := S.n6
    have n1 := gv.n1
    have eN : nrV g = (nmM g, nmX g, nmY g, 0) := by rw [nrV, if_pos hv]; rfl
    rw [eN] at cN
    have hlX : (nmX g).length = (nmM g).length := by rw [NR.len]; exact nrX_length _ _
    have hlY : (nmY g).length = (nmM g).length := by rw [NR.len]; exact nrX_length _ _
    have cX := sSolve_c (nmM g) (nmX g) (by rw [NR.len]; omega) (by rw [hlX, NR.len]; omega) (fun r hr => by rw [NR.rows r hr]; omega) NR.ok (fun x hx => (NR.bx x hx).mono rfl) (fun _ _ => by rw [NR.len]; exact ⟨NR.fac, fun hp => (NR.sol hp).1⟩)
    have cY := sSolve_c (nmM g) (nmY g) (by rw [NR.len]; omega) (by rw [hlY, NR.len]; omega) (fun r hr => by rw [NR.rows r hr]; omega) NR.ok (fun x hx => (NR.bY x hx).mono rfl) (fun _ _ => by rw [NR.len]; exact ⟨NR.fac, fun hp => (NR.sol hp).2⟩)
    have eX : solveV (nmM g) (nmX g) = if cnB g = true then (slvL (matV (nmM g)) (rhsV (nmX g)) (g.nodes.length - 1), 0) else ([], 10) := by
      rw [solveV, if_pos ⟨NR.val, hlX⟩, NR.len, nm_pos gv]
    have eY : solveV (nmM g) (nmY g) = if cnB g = true then (slvL (matV (nmM g)) (rhsV (nmY g)) (g.nodes.length - 1), 0) else ([], 10) := by
      rw [solveV, if_pos ⟨NR.val, hlY⟩, NR.len, nm_pos gv]
    rw [eX] at cX;rw [eY] at cY;rw [minV, if_pos hv]
    by_cases hc : cnB g = true
    · rw [if_pos hc] at cX cY;rw [if_pos hc]
      have aX : ∀ i, i < g.nodes.length - 1 → (slvL (matV (nmM g)) (rhsV (nmX g)) (g.nodes.length - 1))[i]? = some (qzW (mnX g (i + 1))) := fun i hi => by
        unfold slvL vecW; rw [List.getElem?_map, List.getElem?_range hi]; rfl
      have aY : ∀ i, i < g.nodes.length - 1 → (slvL (matV (nmM g)) (rhsV (nmY g)) (g.nodes.length - 1))[i]? = some (qzW (mnY g (i + 1))) := fun i hi => by
        unfold slvL vecW; rw [List.getElem?_map, List.getElem?_range hi]; rfl
      have bX : (slvL (matV (nmM g)) (rhsV (nmX g)) (g.nodes.length - 1)).length = g.nodes.length - 1 := vecW_length _ _
      have bY : (slvL (matV (nmM g)) (rhsV (nmY g)) (g.nodes.length - 1)).length = g.nodes.length - 1 := vecW_length _ _
      have e0 := mn_zero g
      have en : mnL g = (List.range (g.nodes.length - 1 + 1)).map fun v => szW (mnX g v) (mnY g v) := by
        unfold mnL; rw [← g_pos gv]
      have hm : g.nodes.length - 1 ≤ 5 := by omega
      rw [en];generalize slvL (matV (nmM g)) (rhsV (nmX g)) (g.nodes.length - 1) = LX at cX aX bX;generalize slvL (matV (nmM g)) (rhsV (nmY g)) (g.nodes.length - 1) = LY at cY aY bY;generalize nmM g = M at cN cX cY;generalize nmX g = BX at cN cX;generalize nmY g = BY at cN cY;generalize mnX g = x at aX e0 ⊢;generalize mnY g = y at aY e0 ⊢;generalize g.nodes.length - 1 = m at aX aY bX bY hm ⊢;refine AWP_reg_seq tok fun K hK => ?_;refine ldQ ?_;refine s_call rfl rfl (cN) rfl rfl rfl rfl ?_;refine mvQ ?_;refine s_extract rfl rfl rfl ?_;refine s_extract rfl rfl rfl ?_;refine s_extract rfl rfl rfl ?_;refine s_extract rfl rfl rfl ?_;refine asQ ?_;refine asQ ?_;refine asQ ?_;refine asQ ?_;refine s_end (hK _ ?_); clear hK K;refine AWP_seq ?_;refine AWP_reg_seq tok fun K hK => ?_;refine mvQ ?_;refine biQ ?_;refine s_end (hK _ ?_); clear hK K;refine a_cond rfl (fun h => by cases h) (fun _ => ?_);refine AWP_skip ?_;show AWP _ _ _ _ _ _;refine AWP_reg_seq tok fun K hK => ?_;refine mvQ ?_;refine mvQ ?_;refine s_call rfl rfl (cX) rfl rfl rfl rfl ?_;refine mvQ ?_;refine s_extract rfl rfl rfl ?_;refine s_extract rfl rfl rfl ?_;refine asQ ?_;refine asQ ?_;refine s_end (hK _ ?_); clear hK K;refine AWP_seq ?_;refine AWP_reg_seq tok fun K hK => ?_;refine mvQ ?_;refine biQ ?_;refine s_end (hK _ ?_); clear hK K;refine a_cond rfl (fun h => by cases h) (fun _ => ?_);refine AWP_skip ?_;show AWP _ _ _ _ _ _;refine AWP_reg_seq tok fun K hK => ?_;refine mvQ ?_;refine mvQ ?_;refine s_call rfl rfl (cY) rfl rfl rfl rfl ?_;refine mvQ ?_;refine s_extract rfl rfl rfl ?_;refine s_extract rfl rfl rfl ?_;refine asQ ?_;refine asQ ?_;refine s_end (hK _ ?_); clear hK K;refine AWP_reg_seq tok fun K hK => ?_;refine s_call rfl rfl (cz) rfl rfl rfl rfl ?_;refine s_call rfl rfl (cz) rfl rfl rfl rfl ?_;refine s_build rfl rfl rfl ?_;refine s_buildSlice rfl rfl rfl rfl ?_;refine asQ ?_;refine s_end (hK _ ?_); clear hK K;refine AWP_seq ?_;refine AWP_reg_seq tok fun K hK => ?_;refine mvQ ?_;refine s_blt rfl (len_m RW.dc rfl rfl) rfl ?_;refine mvQ ?_;refine s_end (hK _ ?_); clear hK K;refine AWP_block (a_loop (α := Nat) (fun i => mk 60 [(8, V1 (dRs LX)), (9, V1 (dRs LY)), (11, .val (.one (.own 40 8 0 (i + 1)))), (41, V1 (dRs LX)), (42, dI LX.length), (43, dI i)] [(40, some (.arr 8 ((List.range (i + 1)).map fun v => (szW (x v) (y v)).dc)))] []) (fun i => i ≤ m) (fun i => m - i) 0 ?_ (Nat.zero_le _) ?_)
      · refine Wk.mk' ⟨rfl, rfl, rfl, rfl, rfl, rfl, trivial⟩ ⟨?_, trivial⟩
        show _ = some (OO.arr 8 [(szW (x 0) (y 0)).dc])
        rw [e0.1, e0.2]; rfl
      intro i hi
      refine AWP_reg_seq tok fun K hK => ?_;refine biQ ?_;refine s_end (hK _ ?_); clear hK K;refine AWP_seq ?_;refine a_cond rfl (fun hg => ?_) (fun hg => ?_)
      · have hg : i < m := by simp at hg; omega
        have g1 : i < LX.length := by omega
        have g2 : i < LY.length := by omega
        have a1 : LX[i] = qzW (x (i + 1)) := by have := aX i hg; rw [List.getElem?_eq_getElem g1] at this; exact Option.some.inj this
        have a2 : LY[i] = qzW (y (i + 1)) := by have := aY i hg; rw [List.getElem?_eq_getElem g2] at this; exact Option.some.inj this
        have n1 : ((List.range (i + 1)).map fun v => (szW (x v) (y v)).dc) ++ [(SP.mk LX[i] LY[i]).dc] = (List.range (i + 1 + 1)).map fun v => (szW (x v) (y v)).dc := by
          rw [a1, a2, List.range_succ (n := i + 1), List.map_append]; rfl
        have z1 : ((List.range (i + 1)).map fun v => (szW (x v) (y v)).dc).length = i + 1 := by simp
        generalize ((List.range (i + 1)).map fun v => (szW (x v) (y v)).dc) = es at n1 z1 ⊢;refine AWP_skip ?_;show AWP _ _ _ _ _ _;refine AWP_seq ?_;refine AWP_block ?_;refine AWP_reg_seq tok fun K hK => ?_;refine mvQ ?_;refine asQ ?_;refine s_end (hK _ ?_); clear hK K;refine a_draw1 tok mixed (A := [[], [], [], [], [1, 2], [], [], [], [5, 6], [1, 2, 3, 5, 6, 7], [1, 2, 3, 4, 5, 6, 7, 8], [1, 2, 3, 4, 5, 6, 7, 8, 9], []]) (an := [{}, {}, {}, {}, {}, {}, {}, {}, {}, {}, {}, {}, {}]) rfl (by kernel_rfl) rfl fun K hK => ?_;refine mvQ ?_;refine mvQ ?_;refine mvQ ?_;refine s_indexAddr rfl (x_m RW.dc rfl rfl rfl rfl g1 rfl) rfl ?_;refine ldQ ?_;refine mvQ ?_;refine mvQ ?_;refine s_indexAddr rfl (x_m RW.dc rfl rfl rfl rfl g2 rfl) rfl ?_;refine ldQ ?_;refine s_build rfl rfl rfl ?_;refine s_buildSlice rfl rfl rfl rfl ?_;refine s_append rfl (ap_o rfl rfl rfl rfl rfl rfl (by decide) (Nat.le_of_ble_eq_true rfl) rfl (by simp) rfl rfl z1.symm (by simp <;> omega)) rfl rfl rfl ?_;refine asQ ?_;refine s_end (hK _ ?_); clear hK K;show AWP _ _ _ _ _ _;refine AWP_reg tok fun K hK => ?_;refine s_bin rfl (e_add (c := ((i + 1 : Nat) : Int)) (by omega) (by omega)) rfl ?_;refine mvQ ?_;refine s_end (hK _ ?_); clear hK K;refine ⟨i + 1, by omega, hg, Wk.rn [8, 9, 11, 41, 42, 43] [57] 57 40 rfl rfl rfl ⟨rfl, rfl, ?_, rfl, rfl, rfl, trivial⟩ ⟨?_, trivial⟩⟩
        · show SV.val (.one (.own 40 8 0 _)) = _
          rw [List.length_append, z1]; rfl
        · rw [← n1]; rfl
      have hg : i = m := by simp at hg; omega
      subst hg
      refine AWP_exit ?_;show AWP _ _ _ _ _ _;refine a_fz [11] [40] 40 [(11, V1 (dSs ((List.range (i + 1)).map fun v => szW (x v) (y v))))] [] rfl ?_ trivial ?_
      · exact ⟨frz_own (by rw [List.map_map]; rfl) (by simp), trivial⟩
      refine AWP_reg_seq tok fun K hK => ?_;refine mvQ ?_;refine asQ ?_;refine asQ ?_;refine s_end (hK _ ?_); clear hK K;refine AWP_ret ?_
      repeat (with_reducible refine tq_ret ?_)
      exact post_ret (fin_mk (by rfl) (by rfl) (by rfl))
    · rw [if_neg hc] at cX;rw [if_neg hc];refine AWP_reg_seq tok fun K hK => ?_;refine ldQ ?_;refine s_call rfl rfl (cN) rfl rfl rfl rfl ?_;refine mvQ ?_;refine s_extract rfl rfl rfl ?_;refine s_extract rfl rfl rfl ?_;refine s_extract rfl rfl rfl ?_;refine s_extract rfl rfl rfl ?_;refine asQ ?_;refine asQ ?_;refine asQ ?_;refine asQ ?_;refine s_end (hK _ ?_); clear hK K;refine AWP_seq ?_;refine AWP_reg_seq tok fun K hK => ?_;refine mvQ ?_;refine biQ ?_;refine s_end (hK _ ?_); clear hK K;refine a_cond rfl (fun h => by cases h) (fun _ => ?_);refine AWP_skip ?_;show AWP _ _ _ _ _ _;refine AWP_reg_seq tok fun K hK => ?_;refine mvQ ?_;refine mvQ ?_;refine s_call rfl rfl (cX) rfl rfl rfl rfl ?_;refine mvQ ?_;refine s_extract rfl rfl rfl ?_;refine s_extract rfl rfl rfl ?_;refine asQ ?_;refine asQ ?_;refine s_end (hK _ ?_); clear hK K;refine AWP_seq ?_;refine AWP_reg_seq tok fun K hK => ?_;refine mvQ ?_;refine biQ ?_;refine s_end (hK _ ?_); clear hK K;refine a_cond rfl (fun _ => ?_) (fun h => by cases h);refine AWP_reg_seq tok fun K hK => ?_;refine asQ ?_;refine asQ ?_;refine s_end (hK _ ?_); clear hK K;refine AWP_ret ?_
      repeat (with_reducible refine tq_ret ?_)
      exact post_ret (fin_mk (by rfl) (by rfl) (by rfl))
  · have eN : nrV g = ([], [], [], 1) := by rw [nrV, if_neg hv]
    rw [eN] at cN;rw [minV, if_neg hv];refine AWP_reg_seq tok fun K hK => ?_;refine ldQ ?_;refine s_call rfl rfl (cN) rfl rfl rfl rfl ?_;refine mvQ ?_;refine s_extract rfl rfl rfl ?_;refine s_extract rfl rfl rfl ?_;refine s_extract rfl rfl rfl ?_;refine s_extract rfl rfl rfl ?_;refine asQ ?_;refine asQ ?_;refine asQ ?_;refine asQ ?_;refine s_end (hK _ ?_); clear hK K;refine AWP_seq ?_;refine AWP_reg_seq tok fun K hK => ?_;refine mvQ ?_;refine biQ ?_;refine s_end (hK _ ?_); clear hK K;refine a_cond rfl (fun _ => ?_) (fun h => by cases h);refine AWP_reg_seq tok fun K hK => ?_;refine mvQ ?_;refine asQ ?_;refine asQ ?_;refine s_end (hK _ ?_); clear hK K;refine AWP_ret ?_
    repeat (with_reducible refine tq_ret ?_)
    exact post_ret (fin_mk (by rfl) (by rfl) (by rfl))

theorem gLst_c (g : GR) (ok : ∀ r ∈ g.nodes, r.OK 4096) (hs : validB g = true → SM g) : Con Tryz.prog 16 [AG g.cs] { v := .tup [.agg (lstV g).1.cs, .one (.d (lI (lstV g).2))] } := by
  have cM := gMin_c g ok hs
  refine con_intro (fn := Tryz.f16) tok Tryz.func16 (by kernel_rfl) rfl ?_
  intro w0 X
  rw [entry_mkE _ _ [(0, AG g.cs)] rfl rfl];refine AWP_reg_seq tok fun K hK => ?_;refine s_box rfl rfl rfl rfl rfl rfl ?_;refine s_alloc rfl rfl rfl rfl rfl rfl ?_;refine asQ ?_;refine s_end (hK _ ?_); clear hK K
  by_cases hv : validB g = true
  · have gv := validB_iff.1 hv
    rw [minV, if_pos hv] at cM;rw [lstV, if_pos hv]
    by_cases hc : cnB g = true
    · rw [if_pos hc] at cM;rw [if_pos hc]
      have cC := gCost_c g (mnL g) ok (fun p hp => (mn_ok gv (hs hv) hc p hp).mono rfl)
      have e : costV g (mnL g) = (qzW (lsQ g), 0) := by
        rw [costV, if_pos (costB_iff.2 ⟨gv, mnL_length g⟩), cs_mn gv]
      rw [e] at cC;generalize mnL g = s at cM cC;refine AWP_reg_seq tok fun K hK => ?_;refine ldQ ?_;refine s_call rfl rfl (cM) rfl rfl rfl rfl ?_;refine mvQ ?_;refine s_extract rfl rfl rfl ?_;refine s_extract rfl rfl rfl ?_;refine asQ ?_;refine asQ ?_;refine s_end (hK _ ?_); clear hK K;refine AWP_seq ?_;refine AWP_reg_seq tok fun K hK => ?_;refine mvQ ?_;refine biQ ?_;refine s_end (hK _ ?_); clear hK K;refine a_cond rfl (fun h => by cases h) (fun _ => ?_);refine AWP_skip ?_;show AWP _ _ _ _ _ _;refine AWP_reg_seq tok fun K hK => ?_;refine ldQ ?_;refine mvQ ?_;refine s_call rfl rfl (cC) rfl rfl rfl rfl ?_;refine s_extract rfl rfl rfl ?_;refine s_extract rfl rfl rfl ?_;refine s_store rfl rfl rfl rfl rfl ?_;refine asQ ?_;refine s_end (hK _ ?_); clear hK K;refine AWP_ret ?_
      repeat (with_reducible refine tq_ret ?_)
      exact post_ret (fin_mk (by rfl) (by rfl) (by rfl))
    · rw [if_neg hc] at cM;rw [if_neg hc];refine AWP_reg_seq tok fun K hK => ?_;refine ldQ ?_;refine s_call rfl rfl (cM) rfl rfl rfl rfl ?_;refine mvQ ?_;refine s_extract rfl rfl rfl ?_;refine s_extract rfl rfl rfl ?_;refine asQ ?_;refine asQ ?_;refine s_end (hK _ ?_); clear hK K;refine AWP_seq ?_;refine AWP_reg_seq tok fun K hK => ?_;refine mvQ ?_;refine biQ ?_;refine s_end (hK _ ?_); clear hK K;refine a_cond rfl (fun _ => ?_) (fun h => by cases h);refine AWP_reg_seq tok fun K hK => ?_;refine s_build rfl rfl rfl ?_;refine mvQ ?_;refine s_store rfl rfl rfl rfl rfl ?_;refine asQ ?_;refine s_end (hK _ ?_); clear hK K;refine AWP_ret ?_
      repeat (with_reducible refine tq_ret ?_)
      exact post_ret (fin_mk (by rfl) (by rfl) (by rfl))
  · rw [minV, if_neg hv] at cM;rw [lstV, if_neg hv];refine AWP_reg_seq tok fun K hK => ?_;refine ldQ ?_;refine s_call rfl rfl (cM) rfl rfl rfl rfl ?_;refine mvQ ?_;refine s_extract rfl rfl rfl ?_;refine s_extract rfl rfl rfl ?_;refine asQ ?_;refine asQ ?_;refine s_end (hK _ ?_); clear hK K;refine AWP_seq ?_;refine AWP_reg_seq tok fun K hK => ?_;refine mvQ ?_;refine biQ ?_;refine s_end (hK _ ?_); clear hK K;refine a_cond rfl (fun _ => ?_) (fun h => by cases h);refine AWP_reg_seq tok fun K hK => ?_;refine s_build rfl rfl rfl ?_;refine mvQ ?_;refine s_store rfl rfl rfl rfl rfl ?_;refine asQ ?_;refine s_end (hK _ ?_); clear hK K;refine AWP_ret ?_
    repeat (with_reducible refine tq_ret ?_)
    exact post_ret (fin_mk (by rfl) (by rfl) (by rfl))

theorem e_eqV {T : Tab} {t : TypeId} (a b : Nat) : effBin T .eql t (dI a) (dI b) = .set (dB (decide (a = b))) := by
  show setLit (.bool ((a : Int) == (b : Int))) = _
  have : ((a : Int) == (b : Int)) = decide (a = b) := by rw [Bool.eq_iff_iff]; simp only [beq_iff_eq, decide_eq_true_eq]; omega
  rw [this]; rfl

theorem aRight_c (g : GR) (s : List SP) : Con Tryz.prog 86 [AG g.cs, V1 (dSs s)] { v := dB (costB g s) } := by
  have cV := gValid_c g
  have e : costB g s = (validB g && decide (s.length = g.nodes.length)) := rfl
  rw [e];generalize validB g = b at cV;refine con_intro (fn := Tryz.f86) tok Tryz.func86 (by kernel_rfl) rfl ?_
  intro w0 X
  rw [entry_mkE _ _ [(0, AG g.cs), (1, V1 (dSs s))] rfl rfl];refine AWP_reg_seq tok fun K hK => ?_;refine s_box rfl rfl rfl rfl rfl rfl ?_;refine asQ ?_;refine s_end (hK _ ?_); clear hK K
  cases b with
  | true =>
    refine AWP_reg_seq tok fun K hK => ?_;refine ldQ ?_;refine s_call rfl rfl (cV) rfl rfl rfl rfl ?_;refine mvQ ?_;refine mvQ ?_;refine s_blt rfl (len_m SP.dc rfl rfl) rfl ?_;refine faQ ?_;refine ldQ ?_;refine s_blt rfl (len_m RW.dc rfl rfl) rfl ?_;refine s_bin rfl (e_eqV _ _) rfl ?_;refine piQ ?_;refine asQ ?_;refine s_end (hK _ ?_); clear hK K;refine AWP_ret ?_
    repeat (with_reducible refine tq_ret ?_)
    exact post_ret (fin_mk (by rfl) (by rfl) (by rfl))
  | false =>
    refine AWP_reg_seq tok fun K hK => ?_;refine ldQ ?_;refine s_call rfl rfl (cV) rfl rfl rfl rfl ?_;refine mvQ ?_;refine s_skip rfl ?_;refine s_skip rfl ?_;refine s_skip rfl ?_;refine s_skip rfl ?_;refine s_skip rfl ?_;refine s_skip rfl ?_;refine piQ ?_;refine asQ ?_;refine s_end (hK _ ?_); clear hK K;refine AWP_ret ?_
    repeat (with_reducible refine tq_ret ?_)
    exact post_ret (fin_mk (by rfl) (by rfl) (by rfl))

theorem added_c (a b : SP) (n : Int) (hn : I64 n) (oa : a.OK 8388608) (ob : b.OK 4194304) : Con Tryz.prog 88 [AG a.cs, AG b.cs, dI n] { v := AG (szW (a.vx + b.vx * (n : Rat)) (a.vy + b.vy * (n : Rat))).cs } := by
  have cO := qOfI_c n hn
  have on := ql_i64 hn
  have m1 := ql_mul_le (ob.qx rfl) on
  have m2 := ql_mul_le (ob.qy rfl) on
  have c1 := qMul_t b.x (qzW (n : Rat)) (b.vx * (n : Rat)) (ob.x.mono rfl) ((qzW_ok on).mono rfl) (by rw [qzW_v]; rfl)
  have c2 := qAdd_t a.x (qzW (b.vx * (n : Rat))) (a.vx + b.vx * (n : Rat)) (oa.x.mono rfl) ((qzW_ok m1).mono rfl) (by rw [qzW_v]; rfl)
  have c3 := qMul_t b.y (qzW (n : Rat)) (b.vy * (n : Rat)) (ob.y.mono rfl) ((qzW_ok on).mono rfl) (by rw [qzW_v]; rfl)
  have c4 := qAdd_t a.y (qzW (b.vy * (n : Rat))) (a.vy + b.vy * (n : Rat)) (oa.y.mono rfl) ((qzW_ok m2).mono rfl) (by rw [qzW_v]; rfl)
  refine con_intro (fn := Tryz.f88) tok Tryz.func88 (by kernel_rfl) rfl ?_
  intro w0 X
  rw [entry_mkE _ _ [(0, AG a.cs), (1, AG b.cs), (2, dI n)] rfl rfl];refine AWP_reg_seq tok fun K hK => ?_;refine s_box rfl rfl rfl rfl rfl rfl ?_;refine s_box rfl rfl rfl rfl rfl rfl ?_;refine s_alloc rfl rfl rfl rfl rfl rfl ?_;refine s_end (hK _ ?_); clear hK K;refine AWP_reg_seq tok fun K hK => ?_;refine mvQ ?_;refine s_call rfl rfl (cO) rfl rfl rfl rfl ?_;refine s_alloc rfl rfl rfl rfl rfl rfl ?_;refine s_store rfl rfl rfl rfl rfl ?_;refine s_end (hK _ ?_); clear hK K;refine a_draw tok mixed (A := [[], [], [], [], [], [2], [0, 2, 3, 4], [], [], [], [], [], [0, 1, 2, 3, 4, 5, 9], [0, 1, 2, 3, 4, 5, 6, 7, 9, 10, 11], [0, 1, 2, 3, 4, 5, 7, 8, 9, 10, 11, 12], []]) (an := [{}, {}, {}, {}, {}, {}, {}, { c := [15, 16] }, { c := [15, 16] }, { c := [15, 16] }, { c := [15, 16] }, { c := [15, 16] }, {}, {}, {}, {}]) rfl (by kernel_rfl) rfl fun K hK => ?_;refine faQ ?_;refine ldQ ?_;refine faQ ?_;refine ldQ ?_;refine ldQ ?_;refine s_call rfl rfl (c1) rfl rfl rfl rfl ?_;refine s_call rfl rfl (c2) rfl rfl rfl rfl ?_;refine faQ ?_;refine ldQ ?_;refine faQ ?_;refine ldQ ?_;refine ldQ ?_;refine s_call rfl rfl (c3) rfl rfl rfl rfl ?_;refine s_call rfl rfl (c4) rfl rfl rfl rfl ?_;refine s_build rfl rfl rfl ?_;refine s_store rfl rfl rfl rfl rfl ?_;refine s_end (hK _ ?_); clear hK K;refine AWP_ret ?_
  repeat (with_reducible refine tq_ret ?_)
  exact post_ret (fin_mk (by rfl) (by rfl) (by rfl))

theorem dl_ql (i j v : Nat) : ql (dl i v - dl j v) ≤ 1 := by
  unfold dl; (repeat' split) <;> decide +kernel
theorem gd_ql {g : GR} {s : List SP} (h : GS g s) (ok : ∀ r ∈ g.nodes, r.OK 4096) (os : ∀ p ∈ s, p.OK 4096) (v : Nat) : ∀ k, k ≤ g.links.length → ql (gd (dX g) (xs s) v (g.links.take k)) ≤ 1 + k * 32800 ∧ ql (gd (dY g) (ys s) v (g.links.take k)) ≤ 1 + k * 32800
  | 0, _ => ⟨ql_zero, ql_zero⟩
  | k + 1, hk => by
    have ih := gd_ql h ok os v k (by omega)
    have hm : g.links[k] ∈ g.links := List.getElem_mem (by omega)
    have o := rsG_ok h hm ok os
    have lv := gLV h.gv _ hm
    have w1 := ql_i64 lv.iw
    have q1 := o.qx rfl
    have q2 := o.qy rfl
    rw [rs_x.1] at q1;rw [rs_x.2] at q2;rw [List.take_succ_eq_append_getElem (by omega), gd_snoc, gd_snoc];exact ⟨Nat.le_trans (ql_add_le ih.1 (ql_mul_le w1 (ql_mul_le (dl_ql _ _ v) q1))) (by omega), Nat.le_trans (ql_add_le ih.2 (ql_mul_le w1 (ql_mul_le (dl_ql _ _ v) q2))) (by omega)⟩
theorem gd_upd {d : LK → Rat} {s X : Nat → Rat} {ls : List LK} {l : LK} {f t : Nat} {r : Rat} (hX : X = fun v => gd d s v ls) (hf : l.f.toNat = f) (ht : l.t.toNat = t) (hne : f ≠ t) (hr : r = s l.t.toNat - s l.f.toNat - d l) :
    updF (updF X t (X t + r * ((l.w : Int) : Rat))) f (updF X t (X t + r * ((l.w : Int) : Rat)) f + r * ((-l.w : Int) : Rat)) = fun v => gd d s v (ls ++ [l]) := by
  funext v
  rw [gd_snoc, ← hr, hf, ht]
  subst hX
  have e : ((-l.w : Int) : Rat) = -((l.w : Int) : Rat) := Rat.intCast_neg _
  rw [e]
  unfold updF dl
  by_cases e1 : v = f
  · subst e1
    simp only [if_true, if_neg hne]; grind
  · by_cases e2 : v = t
    · subst e2
      simp only [if_neg e1, if_true]; grind
    · simp only [if_neg e1, if_neg e2]; grind

set_option maxHeartbeats 1000000 in
theorem gGrd_c (g : GR) (s : List SP) (ok : ∀ r ∈ g.nodes, r.OK 4096) (os : ∀ p ∈ s, p.OK 4096) : Con Tryz.prog 36 [AG g.cs, V1 (dSs s)] { v := .tup [.one (.d (dSs (grdV g s).1)), .one (.d (lI (grdV g s).2))] } := by
  have cz := qOfI_c 0 ⟨by decide, by decide⟩
  refine con_intro (fn := Tryz.f36) tok Tryz.func36 (by kernel_rfl) rfl ?_
  intro w0 X
  rw [entry_mkE _ _ [(0, AG g.cs), (1, V1 (dSs s))] rfl rfl];refine AWP_reg_seq tok fun K hK => ?_;refine s_box rfl rfl rfl rfl rfl rfl ?_;refine asQ ?_;refine asQ ?_;refine s_end (hK _ ?_); clear hK K;refine AWP_seq ?_;refine AWP_reg_seq tok fun K hK => ?_;refine ldQ ?_;refine mvQ ?_;refine s_call rfl rfl (aRight_c g s) rfl rfl rfl rfl ?_;refine s_un rfl rfl rfl ?_;refine s_end (hK _ ?_); clear hK K;refine a_cond rfl (fun hc => ?_) (fun hc => ?_)
  · rw [Bool.not_eq_true'] at hc
    have e : grdV g s = ([], 1) := by rw [grdV, if_neg (by rw [hc]; simp)]
    rw [e];refine AWP_reg_seq tok fun K hK => ?_;refine asQ ?_;refine asQ ?_;refine s_end (hK _ ?_); clear hK K;refine AWP_ret ?_
    repeat (with_reducible refine tq_ret ?_)
    exact post_ret (fin_mk (by rfl) (by rfl) (by rfl))
  rw [Bool.not_eq_false'] at hc
  have h := costB_iff.1 hc
  have gv := h.gv
  rw [grdV, if_pos hc]
  have hsn := h.hs
  obtain ⟨n, hn⟩ : ∃ n, n = g.nodes.length := ⟨_, rfl⟩
  have eG : grdL g s = (List.range n).map fun v => szW (gd (dX g) (xs s) v g.links) (gd (dY g) (ys s) v g.links) := by rw [hn]; rfl
  have n16 := gv.n2
  have l48 := gv.l
  rw [← hn] at n16 hsn;rw [eG];refine AWP_skip ?_;show AWP _ _ _ _ _ _;refine AWP_reg_seq tok fun K hK => ?_;refine mvQ ?_;refine s_blt rfl (len_m SP.dc rfl rfl) rfl ?_;refine s_makeSlice (sz := _) (es := _) (f := _) (v := _) rfl (mk_a (l := n) rfl rfl rfl rfl rfl (Nat.le_of_ble_eq_true rfl) (by decide) (by rw [hsn]) (by rw [hsn]) (by omega)) rfl rfl ?_;refine asQ ?_;refine s_end (hK _ ?_); clear hK K;refine AWP_seq ?_;refine AWP_reg_seq tok fun K hK => ?_;refine mvQ ?_;refine s_blt rfl rfl rfl ?_;refine mvQ ?_;refine s_end (hK _ ?_); clear hK K;refine AWP_block (a_loop (α := Nat) (fun i => mk 75 [(1, V1 (dSs s)), (2, .ptr 2 0), (6, .val (.one (.own 18 8 0 n))), (20, dI n), (21, dI i)] [(2, some (.box g.cs)), (18, some (.arr 8 ((List.range i).map (fun _ => (szW 0 0).dc) ++ List.replicate (n - i) sp0.dc)))] []) (fun i => i ≤ n) (fun i => n - i) 0 ?_ (Nat.zero_le _) ?_)
  · exact Wk.mk' ⟨rfl, rfl, rfl, rfl, rfl, trivial⟩ ⟨rfl, rfl, trivial⟩
  intro i hi
  refine AWP_reg_seq tok fun K hK => ?_;refine biQ ?_;refine s_end (hK _ ?_); clear hK K;refine AWP_seq ?_;refine a_cond rfl (fun hg => ?_) (fun hg => ?_)
  · have hg : i < n := by simp at hg; omega
    have hel : ∀ el ∈ (List.range i).map (fun _ => (szW 0 0).dc) ++ List.replicate (n - i) sp0.dc, el.length = 8 := by
      intro el h
      rcases List.mem_append.1 h with h | h
      · obtain ⟨_, _, rfl⟩ := List.mem_map.1 h; rfl
      · rw [List.eq_of_mem_replicate h]; rfl
    have hlen : i < ((List.range i).map (fun _ => (szW 0 0).dc) ++ List.replicate (n - i) sp0.dc).length := by simp; omega
    have hset : ((List.range i).map (fun _ => (szW 0 0).dc) ++ List.replicate (n - i) sp0.dc).set i (szW 0 0).dc = (List.range (i + 1)).map (fun _ => (szW 0 0).dc) ++ List.replicate (n - (i + 1)) sp0.dc := by
      obtain ⟨k, hk⟩ : ∃ k, n - i = k + 1 := ⟨n - i - 1, by omega⟩
      rw [hk, List.replicate_succ, set_mid (by simp), show n - (i + 1) = k by omega, List.range_succ, List.map_append, List.append_assoc]; rfl
    generalize (List.range i).map (fun _ => (szW 0 0).dc) ++ List.replicate (n - i) sp0.dc = es at hel hlen hset ⊢;refine AWP_skip ?_;show AWP _ _ _ _ _ _;refine AWP_seq ?_;refine AWP_block ?_;refine AWP_reg_seq tok fun K hK => ?_;refine mvQ ?_;refine asQ ?_;refine s_end (hK _ ?_); clear hK K;refine AWP_reg tok fun K hK => ?_;refine mvQ ?_;refine mvQ ?_;refine s_call rfl rfl (cz) rfl rfl rfl rfl ?_;refine s_call rfl rfl (cz) rfl rfl rfl rfl ?_;refine s_build rfl rfl rfl ?_;refine s_indexAddr rfl (x_o (i := i) (j := i) rfl rfl rfl rfl rfl hg (Nat.zero_add _)) rfl ?_;refine s_store rfl (st_S (p := szW 0 0) rfl rfl rfl hlen hel) rfl rfl rfl ?_;refine s_end (hK _ ?_); clear hK K;rw [hset];show AWP _ _ _ _ _ _;refine AWP_reg tok fun K hK => ?_;refine s_bin rfl (e_add (c := ((i + 1 : Nat) : Int)) (by omega) (by omega)) rfl ?_;refine mvQ ?_;refine s_end (hK _ ?_); clear hK K;exact ⟨i + 1, by omega, hg, Wk.mk' ⟨rfl, rfl, rfl, rfl, rfl, trivial⟩ ⟨rfl, rfl, trivial⟩⟩
  have hg : n = i := by simp at hg; omega
  subst hg
  rw [Nat.sub_self, List.replicate_zero, List.append_nil];refine AWP_exit ?_;show AWP _ _ _ _ _ _;refine AWP_seq ?_;refine AWP_reg_seq tok fun K hK => ?_;refine faQ ?_;refine ldQ ?_;refine s_blt rfl (len_m LK.dc rfl rfl) rfl ?_;refine mvQ ?_;refine s_end (hK _ ?_); clear hK K;refine AWP_block (a_loop (α := Nat) (fun k => mk 75 [(1, V1 (dSs s)), (2, .ptr 2 0), (6, .val (.one (.own 18 8 0 n))), (32, V1 (dLs g.links)), (33, dI g.links.length), (34, dI k)] [(2, some (.box g.cs)), (18, some (.arr 8 (spI n (fun v => gd (dX g) (xs s) v (g.links.take k)) (fun v => gd (dY g) (ys s) v (g.links.take k)))))] []) (fun k => k ≤ g.links.length) (fun k => g.links.length - k) 0 ?_ (Nat.zero_le _) ?_)
  · exact Wk.mk' ⟨rfl, rfl, rfl, rfl, rfl, rfl, trivial⟩ ⟨rfl, rfl, trivial⟩
  intro k hk
  refine AWP_reg_seq tok fun K hK => ?_;refine biQ ?_;refine s_end (hK _ ?_); clear hK K;refine AWP_seq ?_;refine a_cond rfl (fun hg => ?_) (fun hg => ?_)
  · have hg : k < g.links.length := by simp at hg; omega
    obtain ⟨X, hX0⟩ : ∃ X : Nat → Rat, X = fun v => gd (dX g) (xs s) v (g.links.take k) := ⟨_, rfl⟩
    obtain ⟨Y, hY0⟩ : ∃ Y : Nat → Rat, Y = fun v => gd (dY g) (ys s) v (g.links.take k) := ⟨_, rfl⟩
    rw [← hX0, ← hY0]
    have bX : ∀ v, ql (X v) ≤ 2000000 := fun v => by rw [hX0]; exact Nat.le_trans (gd_ql h ok os v k hk).1 (by omega)
    have bY : ∀ v, ql (Y v) ≤ 2000000 := fun v => by rw [hY0]; exact Nat.le_trans (gd_ql h ok os v k hk).2 (by omega)
    obtain ⟨l, hl⟩ : ∃ l, l = g.links[k] := ⟨_, rfl⟩
    have hm : l ∈ g.links := hl ▸ List.getElem_mem hg
    have lv := gLV gv l hm
    have o := rsG_ok h hm ok os
    have cR := gResidual_c g s (k : Int) (fun r hr => (ok r hr).mono rfl) (fun p hp => (os p hp).mono rfl)
    have eR : resV g s (k : Int) = (rsG g s l, 0) := by
      rw [resV, if_pos hc, dif_pos ⟨by omega, by simpa using hg⟩];simp only [Int.toNat_natCast, ← hl]
    rw [eR] at cR
    have er1 := (rs_x (g := g) (s := s) (l := l)).1
    have er2 := (rs_x (g := g) (s := s) (l := l)).2
    have lw := lv.w
    rw [← hn] at lv
    have iw2 : I64 (-l.w) := ⟨by omega, by omega⟩
    obtain ⟨i, j, hi, hj, e1, e2, hne⟩ := lv.lt
    have uX := gd_upd (d := dX g) (s := xs s) (ls := g.links.take k) (l := l) (f := i) (t := j) hX0 (by omega) (by omega) (by omega) er1
    have uY := gd_upd (d := dY g) (s := ys s) (ls := g.links.take k) (l := l) (f := i) (t := j) hY0 (by omega) (by omega) (by omega) er2
    rw [hl, ← List.take_succ_eq_append_getElem hg, ← hl] at uX uY;generalize rsG g s l = r at cR o uX uY
    have p1 := added_c (szW (X j) (Y j)) r l.w lv.iw (szW_ok (le_d (bX j) rfl) (le_d (bY j) rfl)) (o.mono rfl)
    rw [szW_vx, szW_vy] at p1
    obtain ⟨X1, hX1⟩ : ∃ X1, X1 = updF X j (X j + r.vx * ((l.w : Int) : Rat)) := ⟨_, rfl⟩
    obtain ⟨Y1, hY1⟩ : ∃ Y1, Y1 = updF Y j (Y j + r.vy * ((l.w : Int) : Rat)) := ⟨_, rfl⟩
    have m1 := ql_mul_le (o.qx rfl) (ql_i64 lv.iw)
    have m2 := ql_mul_le (o.qy rfl) (ql_i64 lv.iw)
    have bX2 : ql (X1 i) ≤ 8388608 := hX1 ▸ ql_updF (fun i => le_d (bX i) rfl) (le_d (ql_add_le (bX j) m1) rfl) i
    have bY2 : ql (Y1 i) ≤ 8388608 := hY1 ▸ ql_updF (fun i => le_d (bY i) rfl) (le_d (ql_add_le (bY j) m2) rfl) i
    have p2 := added_c (szW (X1 i) (Y1 i)) r (-l.w) iw2 (szW_ok bX2 bY2) (o.mono rfl)
    rw [szW_vx, szW_vy] at p2;rw [← hX1] at uX;rw [← hY1] at uY
    have hel : ∀ (X Y : Nat → Rat), ∀ el ∈ spI n X Y, el.length = 8 := by
      intro X Y el h
      obtain ⟨_, _, rfl⟩ := List.mem_map.1 h; rfl
    refine AWP_skip ?_;show AWP _ _ _ _ _ _;refine AWP_seq ?_;refine AWP_block ?_;refine AWP_reg_seq tok fun K hK => ?_;refine mvQ ?_;refine s_indexAddr rfl (x_m LK.dc rfl rfl rfl rfl hg rfl) rfl ?_;refine ldQ ?_;refine s_alloc rfl rfl rfl rfl rfl rfl ?_;refine asQ ?_;refine s_store rfl rfl rfl rfl rfl ?_;refine s_end (hK _ ?_); clear hK K;rw [← hl];refine AWP_reg_seq tok fun K hK => ?_;refine ldQ ?_;refine mvQ ?_;refine mvQ ?_;refine s_call rfl rfl (cR) rfl rfl rfl rfl ?_;refine mvQ ?_;refine s_extract rfl rfl rfl ?_;refine s_extract rfl rfl rfl ?_;refine s_alloc rfl rfl rfl rfl rfl rfl ?_;refine s_store rfl rfl rfl rfl rfl ?_;refine asQ ?_;refine s_end (hK _ ?_); clear hK K;refine a_draw tok mixed (A := [[], [], [], [], [], [], [4], [3, 4, 5], [], [], [], [3, 4, 5, 6, 9], [], []]) (an := [{}, {}, {}, {}, {}, {}, {}, {}, {}, {}, {}, {}, {}, {}]) rfl (by kernel_rfl) rfl fun K hK => ?_;refine mvQ ?_;refine faQ ?_;refine ldQ ?_;refine mvQ ?_;refine faQ ?_;refine ldQ ?_;refine s_indexAddr rfl (x_o (i := j) (j := j) rfl rfl rfl rfl e2 hj (Nat.zero_add _)) rfl ?_;refine s_load rfl (l_o rfl rfl (spI_get hj) rfl rfl) rfl ?_;refine ldQ ?_;refine faQ ?_;refine ldQ ?_;refine s_call rfl rfl (p1) rfl rfl rfl rfl ?_;refine s_indexAddr rfl (x_o (i := j) (j := j) rfl rfl rfl rfl e2 hj (Nat.zero_add _)) rfl ?_;refine s_store rfl (st_S (p := szW (X j + r.vx * ((l.w : Int) : Rat)) (Y j + r.vy * ((l.w : Int) : Rat))) rfl rfl rfl (by rw [spI_length]; exact hj) (hel _ _)) rfl rfl rfl ?_;refine s_end (hK _ ?_); clear hK K;rw [spI_set, ← hX1, ← hY1];refine a_draw1 tok mixed (A := [[], [], [], [], [], [], [4], [3, 4, 5], [], [], [], [9], [3, 4, 5, 6, 9, 10], [], []]) (an := [{}, {}, {}, {}, {}, {}, {}, {}, {}, {}, {}, {}, {}, {}, {}]) rfl (by kernel_rfl) rfl fun K hK => ?_;refine mvQ ?_;refine faQ ?_;refine ldQ ?_;refine mvQ ?_;refine faQ ?_;refine ldQ ?_;refine s_indexAddr rfl (x_o (i := i) (j := i) rfl rfl rfl rfl e1 hi (Nat.zero_add _)) rfl ?_;refine s_load rfl (l_o rfl rfl (spI_get hi) rfl rfl) rfl ?_;refine ldQ ?_;refine faQ ?_;refine ldQ ?_;refine s_un rfl (neg_I (by omega)) rfl ?_;refine s_call rfl rfl (p2) rfl rfl rfl rfl ?_;refine s_indexAddr rfl (x_o (i := i) (j := i) rfl rfl rfl rfl e1 hi (Nat.zero_add _)) rfl ?_;refine s_store rfl (st_S (p := szW (X1 i + r.vx * ((-l.w : Int) : Rat)) (Y1 i + r.vy * ((-l.w : Int) : Rat))) rfl rfl rfl (by rw [spI_length]; exact hi) (hel _ _)) rfl rfl rfl ?_;refine s_end (hK _ ?_); clear hK K;rw [spI_set];show AWP _ _ _ _ _ _;refine AWP_reg tok fun K hK => ?_;refine s_bin rfl (e_add (c := ((k + 1 : Nat) : Int)) (by omega) (by omega)) rfl ?_;refine mvQ ?_;refine s_end (hK _ ?_); clear hK K;refine ⟨k + 1, by omega, hg, Wk.mk' ⟨rfl, rfl, rfl, rfl, rfl, rfl, trivial⟩ ⟨rfl, ?_, trivial⟩⟩;rw [← uX, ← uY]; rfl
  have hg : k = g.links.length := by simp at hg; omega
  subst hg
  rw [List.take_length];refine AWP_exit ?_;show AWP _ _ _ _ _ _;refine a_fz [6] [18] 18 [(6, V1 (dSs ((List.range n).map fun v => szW (gd (dX g) (xs s) v g.links) (gd (dY g) (ys s) v g.links))))] [] rfl ?_ trivial ?_
  · exact ⟨frz_own (by unfold spI; rw [List.map_map]; rfl) (by simp), trivial⟩
  refine AWP_reg_seq tok fun K hK => ?_;refine mvQ ?_;refine asQ ?_;refine asQ ?_;refine s_end (hK _ ?_); clear hK K;refine AWP_ret ?_
  repeat (with_reducible refine tq_ret ?_)
  exact post_ret (fin_mk (by rfl) (by rfl) (by rfl))
end Go.Proofs.YtlnbkmkkiemcaaaGreatDoor

/- adjust: Worst, New, Graph; the law's small functions. No condition. -/
namespace Go.Proofs.YtlnbkmkkiemcaaaGreatDoor
attribute [local irreducible] lexA
open Go.RowKit

theorem e_neV {T : Tab} {t : TypeId} (a b : Nat) : effBin T .neq t (dI a) (dI b) = .set (dB (decide (a ≠ b))) := by
  show setLit (.bool (!((a : Int) == (b : Int)))) = _
  have : (!((a : Int) == (b : Int))) = decide (a ≠ b) := by
    rw [Bool.eq_iff_iff]; simp only [Bool.not_eq_true', beq_eq_false_iff_ne, ne_eq, decide_eq_true_eq]; omega
  rw [this]; rfl
theorem e_gtV {T : Tab} {t : TypeId} (a b : Nat) : effBin T .gtr t (dI a) (dI b) = .set (dB (decide (b < a))) := by
  show setLit (.bool (decide ((a : Int) > (b : Int)))) = _
  have : (decide ((a : Int) > (b : Int))) = decide (b < a) := by
    rw [Bool.eq_iff_iff, decide_eq_true_eq, decide_eq_true_eq]; omega
  rw [this]; rfl
theorem e_leV {T : Tab} {t : TypeId} (a b : Nat) : effBin T .leq t (dI a) (dI b) = .set (dB (decide (a ≤ b))) := by
  show setLit (.bool (decide ((a : Int) ≤ (b : Int)))) = _
  have : (decide ((a : Int) ≤ (b : Int))) = decide (a ≤ b) := by
    rw [Bool.eq_iff_iff, decide_eq_true_eq, decide_eq_true_eq]; omega
  rw [this]; rfl
theorem e_gtJ {T : Tab} {t : TypeId} {a b : Int} {c : Bool} (h : decide (a > b) = c) : effBin T .gtr t (dI a) (dI b) = .set (dB c) := by subst h; rfl
theorem e_ltJ {T : Tab} {t : TypeId} {a b : Int} {c : Bool} (h : decide (a < b) = c) : effBin T .lss t (dI a) (dI b) = .set (dB c) := by subst h; rfl
theorem e_neK {T : Tab} {t : TypeId} {a b : Int} {c : Bool} (h : (a != b) = c) : effBin T .neq t (dI a) (dI b) = .set (dB c) := by subst h; rfl
theorem e_eqK {T : Tab} {t : TypeId} {a b : Int} {c : Bool} (h : (a == b) = c) : effBin T .eql t (dI a) (dI b) = .set (dB c) := by subst h; rfl

/-! ### Small inputs -/
def w1 (r : RW) : Bool := decide (r.wp.length ≤ 1 ∧ r.wq.length ≤ 1)
def fewA (g : GR) : Bool := decide ((g.nodes.length ≤ 5 ∨ g.nodes.length = 17) ∧ (g.links.length ≤ 9 ∨ g.links.length = 49))
def few31 (g : GR) : Bool := fewA g && g.nodes.all w1
def sh31 (l : List SP) : Bool := l.all (fun p => w1 p.x && w1 p.y) && decide (l.length ≤ 6)
theorem few31_c (g : GR) : Con Tryz.prog 27 [AG g.cs] { v := dB (few31 g) } := by
  refine con_intro (fn := Tryz.f27) tok Tryz.func27 (by kernel_rfl) rfl ?_
  intro w0 X
  rw [entry_mkE _ _ [(0, AG g.cs)] rfl rfl];refine AWP_reg_seq tok fun K hK => ?_;refine s_box rfl rfl rfl rfl rfl rfl ?_;refine asQ ?_;refine s_end (hK _ ?_); clear hK K;refine AWP_seq ?_;refine a_join (α := Bool) (fun c => mk 53 [(1, .ptr 1 0), (25, dB c)] [(1, some (.box g.cs))] []) (fun c => c = !fewA g) ?_ ?_
  · refine AWP_regW fun K hK => ?_;refine w_step tok rfl ?_;refine faQ ?_;refine s_end ?_;refine w_step tok rfl ?_;refine ldQ ?_;refine s_end ?_;refine w_step tok rfl ?_;refine s_blt rfl (len_m RW.dc rfl rfl) rfl ?_;refine s_end ?_;refine w_step tok rfl ?_;refine s_bin rfl (e_gtV _ 5) rfl ?_;refine s_end ?_;refine w_step tok rfl ?_;refine mvQ ?_;refine s_end ?_;refine w_split (fun h0 => ?_) (fun h0 => ?_)
    · refine w_step tok rfl ?_;refine faQ ?_;refine s_end ?_;refine w_step tok rfl ?_;refine ldQ ?_;refine s_end ?_;refine w_step tok rfl ?_;refine s_blt rfl (len_m RW.dc rfl rfl) rfl ?_;refine s_end ?_;refine w_step tok rfl ?_;refine s_bin rfl (e_neV _ 17) rfl ?_;refine s_end ?_;refine w_step tok rfl ?_;refine piQ ?_;refine s_end ?_;refine w_step tok rfl ?_;refine mvQ ?_;refine s_end ?_;refine w_split (fun h1 => ?_) (fun h1 => ?_)
      · refine w_skip rfl rfl ?_;refine w_skip rfl rfl ?_;refine w_skip rfl rfl ?_;refine w_skip rfl rfl ?_;refine w_skip rfl rfl ?_;refine w_skip2 rfl rfl rfl ?_;refine w_skip2 rfl rfl rfl ?_;refine w_skip2 rfl rfl rfl ?_;refine w_skip2 rfl rfl rfl ?_;refine w_skip rfl rfl ?_;refine w_step tok rfl ?_;refine piQ ?_;refine s_end ?_;refine w_end rfl (hK _ ?_); clear hK K;exact ⟨_, (by simp only [decide_eq_true_eq, decide_eq_false_iff_not] at h0 h1; unfold fewA; rw [Bool.eq_iff_iff]; simp only [decide_eq_true_eq, Bool.not_eq_true', decide_eq_false_iff_not, reduceCtorEq, false_iff, true_iff]; omega), Wk.mk' ⟨rfl, rfl, trivial⟩ ⟨rfl, trivial⟩⟩
      · refine w_step tok rfl ?_;refine faQ ?_;refine s_end ?_;refine w_step tok rfl ?_;refine ldQ ?_;refine s_end ?_;refine w_step tok rfl ?_;refine s_blt rfl (len_m LK.dc rfl rfl) rfl ?_;refine s_end ?_;refine w_step tok rfl ?_;refine s_bin rfl (e_gtV _ 9) rfl ?_;refine s_end ?_;refine w_step tok rfl ?_;refine mvQ ?_;refine s_end ?_;refine w_split (fun h2 => ?_) (fun h2 => ?_)
        · refine w_step tok rfl ?_;refine faQ ?_;refine s_end ?_;refine w_step tok rfl ?_;refine ldQ ?_;refine s_end ?_;refine w_step tok rfl ?_;refine s_blt rfl (len_m LK.dc rfl rfl) rfl ?_;refine s_end ?_;refine w_step tok rfl ?_;refine s_bin rfl (e_neV _ 49) rfl ?_;refine s_end ?_;refine w_step tok rfl ?_;refine piQ ?_;refine s_end ?_;refine w_step tok rfl ?_;refine piQ ?_;refine s_end ?_;refine w_end rfl (hK _ ?_); clear hK K;exact ⟨_, (by simp only [decide_eq_true_eq, decide_eq_false_iff_not] at h0 h1 h2; unfold fewA; rw [Bool.eq_iff_iff]; simp only [decide_eq_true_eq, Bool.not_eq_true', decide_eq_false_iff_not, reduceCtorEq, false_iff, true_iff]; omega), Wk.mk' ⟨rfl, rfl, trivial⟩ ⟨rfl, trivial⟩⟩
        · refine w_skip rfl rfl ?_;refine w_skip rfl rfl ?_;refine w_skip rfl rfl ?_;refine w_skip rfl rfl ?_;refine w_step tok rfl ?_;refine piQ ?_;refine s_end ?_;refine w_step tok rfl ?_;refine piQ ?_;refine s_end ?_;refine w_end rfl (hK _ ?_); clear hK K;exact ⟨_, (by simp only [decide_eq_true_eq, decide_eq_false_iff_not] at h0 h1 h2; unfold fewA; rw [Bool.eq_iff_iff]; simp only [decide_eq_true_eq, Bool.not_eq_true', decide_eq_false_iff_not, reduceCtorEq, false_iff, true_iff]; omega), Wk.mk' ⟨rfl, rfl, trivial⟩ ⟨rfl, trivial⟩⟩
    · refine w_skip rfl rfl ?_;refine w_skip rfl rfl ?_;refine w_skip rfl rfl ?_;refine w_skip rfl rfl ?_;refine w_step tok rfl ?_;refine piQ ?_;refine s_end ?_;refine w_step tok rfl ?_;refine mvQ ?_;refine s_end ?_;refine w_step tok rfl ?_;refine faQ ?_;refine s_end ?_;refine w_step tok rfl ?_;refine ldQ ?_;refine s_end ?_;refine w_step tok rfl ?_;refine s_blt rfl (len_m LK.dc rfl rfl) rfl ?_;refine s_end ?_;refine w_step tok rfl ?_;refine s_bin rfl (e_gtV _ 9) rfl ?_;refine s_end ?_;refine w_step tok rfl ?_;refine mvQ ?_;refine s_end ?_;refine w_split (fun h1 => ?_) (fun h1 => ?_)
      · refine w_step tok rfl ?_;refine faQ ?_;refine s_end ?_;refine w_step tok rfl ?_;refine ldQ ?_;refine s_end ?_;refine w_step tok rfl ?_;refine s_blt rfl (len_m LK.dc rfl rfl) rfl ?_;refine s_end ?_;refine w_step tok rfl ?_;refine s_bin rfl (e_neV _ 49) rfl ?_;refine s_end ?_;refine w_step tok rfl ?_;refine piQ ?_;refine s_end ?_;refine w_step tok rfl ?_;refine piQ ?_;refine s_end ?_;refine w_end rfl (hK _ ?_); clear hK K;exact ⟨_, (by simp only [decide_eq_true_eq, decide_eq_false_iff_not] at h0 h1; unfold fewA; rw [Bool.eq_iff_iff]; simp only [decide_eq_true_eq, Bool.not_eq_true', decide_eq_false_iff_not, reduceCtorEq, false_iff, true_iff]; omega), Wk.mk' ⟨rfl, rfl, trivial⟩ ⟨rfl, trivial⟩⟩
      · refine w_skip rfl rfl ?_;refine w_skip rfl rfl ?_;refine w_skip rfl rfl ?_;refine w_skip rfl rfl ?_;refine w_step tok rfl ?_;refine piQ ?_;refine s_end ?_;refine w_step tok rfl ?_;refine piQ ?_;refine s_end ?_;refine w_end rfl (hK _ ?_); clear hK K;exact ⟨_, (by simp only [decide_eq_true_eq, decide_eq_false_iff_not] at h0 h1; unfold fewA; rw [Bool.eq_iff_iff]; simp only [decide_eq_true_eq, Bool.not_eq_true', decide_eq_false_iff_not, reduceCtorEq, false_iff, true_iff]; omega), Wk.mk' ⟨rfl, rfl, trivial⟩ ⟨rfl, trivial⟩⟩
  rintro c rfl
  refine a_cond rfl (fun hd => ?_) (fun hd => ?_)
  · rw [Bool.not_eq_true'] at hd;rw [few31, hd];refine AWP_reg_seq tok fun K hK => ?_;refine asQ ?_;refine s_end (hK _ ?_); clear hK K;refine AWP_ret ?_
    repeat (with_reducible refine tq_ret ?_)
    exact post_ret (fin_mk (by rfl) (by rfl) (by rfl))
  rw [Bool.not_eq_false'] at hd
  have h17 : g.nodes.length ≤ 17 := by have := (of_decide_eq_true hd).1; omega
  rw [few31, hd, Bool.true_and];refine AWP_skip ?_;show AWP _ _ _ _ _ _;refine AWP_seq ?_;refine AWP_reg_seq tok fun K hK => ?_;refine asQ ?_;refine s_end (hK _ ?_); clear hK K;refine AWP_block (a_loop (α := Nat) (fun i => mk 53 [(1, .ptr 1 0), (3, dI i)] [(1, some (.box g.cs))] []) (fun i => i ≤ g.nodes.length ∧ (g.nodes.take i).all w1 = true) (fun i => g.nodes.length - i) 0 ?_ ⟨Nat.zero_le _, rfl⟩ ?_)
  · exact Wk.mk' ⟨rfl, rfl, trivial⟩ ⟨rfl, trivial⟩
  rintro i ⟨hi, ht⟩
  refine AWP_seq ?_;refine AWP_reg_seq tok fun K hK => ?_;refine mvQ ?_;refine faQ ?_;refine ldQ ?_;refine s_blt rfl (len_m RW.dc rfl rfl) rfl ?_;refine biQ ?_;refine s_end (hK _ ?_); clear hK K;refine a_cond rfl (fun hg => ?_) (fun hg => ?_)
  · have hg : i < g.nodes.length := by simp at hg; omega
    obtain ⟨r, hr⟩ : ∃ r, r = g.nodes[i] := ⟨_, rfl⟩
    refine AWP_skip ?_;show AWP _ _ _ _ _ _;refine AWP_seq ?_;refine AWP_block ?_;refine a_join (α := Bool) (fun c => mk 53 [(1, .ptr 1 0), (3, dI i), (52, dB c)] [(1, some (.box g.cs))] []) (fun c => c = !w1 r) ?_ ?_
    · refine AWP_regW fun K hK => ?_;refine w_step tok rfl ?_;refine faQ ?_;refine s_end ?_;refine w_step tok rfl ?_;refine ldQ ?_;refine s_end ?_;refine w_step tok rfl ?_;refine mvQ ?_;refine s_end ?_;refine w_step tok rfl ?_;refine s_indexAddr rfl (x_m RW.dc rfl rfl rfl rfl hg rfl) rfl ?_;refine s_end ?_;refine w_step tok rfl ?_;refine faQ ?_;refine s_end ?_;refine w_step tok rfl ?_;refine faQ ?_;refine s_end ?_;refine w_step tok rfl ?_;refine ldQ ?_;refine s_end ?_;refine w_step tok rfl ?_;refine s_blt rfl (len_w (ws := g.nodes[i].wp) rfl rfl rfl) rfl ?_;refine s_end ?_;refine w_step tok rfl ?_;refine s_bin rfl (e_gtV _ 1) rfl ?_;refine s_end ?_;refine w_step tok rfl ?_;refine mvQ ?_;refine s_end ?_;refine w_split (fun h0 => ?_) (fun h0 => ?_)
      · refine w_skip rfl rfl ?_;refine w_skip rfl rfl ?_;refine w_skip rfl rfl ?_;refine w_skip rfl rfl ?_;refine w_skip rfl rfl ?_;refine w_skip rfl rfl ?_;refine w_skip rfl rfl ?_;refine w_skip rfl rfl ?_;refine w_skip rfl rfl ?_;refine w_step tok rfl ?_;refine piQ ?_;refine s_end ?_;refine w_end rfl (hK _ ?_); clear hK K;exact ⟨_, (by simp only [decide_eq_true_eq, decide_eq_false_iff_not] at h0; unfold w1; rw [hr, Bool.eq_iff_iff]; simp only [decide_eq_true_eq, Bool.not_eq_true', decide_eq_false_iff_not, reduceCtorEq, false_iff, true_iff]; omega), Wk.mk' ⟨rfl, rfl, rfl, trivial⟩ ⟨rfl, trivial⟩⟩
      · refine w_step tok rfl ?_;refine faQ ?_;refine s_end ?_;refine w_step tok rfl ?_;refine ldQ ?_;refine s_end ?_;refine w_step tok rfl ?_;refine mvQ ?_;refine s_end ?_;refine w_step tok rfl ?_;refine s_indexAddr rfl (x_m RW.dc rfl rfl rfl rfl hg rfl) rfl ?_;refine s_end ?_;refine w_step tok rfl ?_;refine faQ ?_;refine s_end ?_;refine w_step tok rfl ?_;refine faQ ?_;refine s_end ?_;refine w_step tok rfl ?_;refine ldQ ?_;refine s_end ?_;refine w_step tok rfl ?_;refine s_blt rfl (len_w (ws := g.nodes[i].wq) rfl rfl rfl) rfl ?_;refine s_end ?_;refine w_step tok rfl ?_;refine s_bin rfl (e_gtV _ 1) rfl ?_;refine s_end ?_;refine w_step tok rfl ?_;refine piQ ?_;refine s_end ?_;refine w_end rfl (hK _ ?_); clear hK K;exact ⟨_, (by simp only [decide_eq_true_eq, decide_eq_false_iff_not] at h0; unfold w1; rw [hr, Bool.eq_iff_iff]; simp only [decide_eq_true_eq, Bool.not_eq_true', decide_eq_false_iff_not, reduceCtorEq, false_iff, true_iff]; omega), Wk.mk' ⟨rfl, rfl, rfl, trivial⟩ ⟨rfl, trivial⟩⟩
    rintro c rfl
    refine a_cond rfl (fun hd => ?_) (fun hd => ?_)
    · refine AWP_reg_seq tok fun K hK => ?_;refine asQ ?_;refine s_end (hK _ ?_); clear hK K;refine AWP_ret ?_
      repeat (with_reducible refine tq_ret ?_)
      exact post_ret (fin_mk (by rfl) (by rfl) (by exact dB_eq (by rw [Bool.not_eq_true'] at hd; rw [List.all_eq_false]; exact ⟨r, hr ▸ List.getElem_mem hg, by rw [hd]; simp⟩)))
    · refine AWP_skip ?_;show AWP _ _ _ _ _ _;refine AWP_reg tok fun K hK => ?_;refine mvQ ?_;refine s_bin rfl (e_add rfl (by omega)) rfl ?_;refine asQ ?_;refine s_end (hK _ ?_); clear hK K;refine ⟨i + 1, by omega, ⟨hg, ?_⟩, Wk.mk' ⟨rfl, rfl, trivial⟩ ⟨rfl, trivial⟩⟩;rw [List.take_succ_eq_append_getElem hg, List.all_append, ht, ← hr];rw [Bool.not_eq_false'] at hd
      simp [hd]
  · have hg : i = g.nodes.length := by simp at hg; omega
    subst hg
    rw [List.take_length] at ht;rw [ht];refine AWP_exit ?_;show AWP _ _ _ _ _ _;refine AWP_reg_seq tok fun K hK => ?_;refine asQ ?_;refine s_end (hK _ ?_); clear hK K;refine AWP_ret ?_
    repeat (with_reducible refine tq_ret ?_)
    exact post_ret (fin_mk (by rfl) (by rfl) (by rfl))

theorem sh31_c (l : List SP) (hl : l.length ≤ 9223372036854775807) : Con Tryz.prog 28 [V1 (dSs l)] { v := dB (sh31 l) } := by
  refine con_intro (fn := Tryz.f28) tok Tryz.func28 (by kernel_rfl) rfl ?_
  intro w0 X
  rw [entry_mkE _ _ [(0, V1 (dSs l))] rfl rfl];refine AWP_reg_seq tok fun K hK => ?_;refine asQ ?_;refine s_end (hK _ ?_); clear hK K;refine AWP_seq ?_;refine AWP_reg_seq tok fun K hK => ?_;refine asQ ?_;refine s_end (hK _ ?_); clear hK K;refine AWP_block (a_loop (α := Nat) (fun i => mk 55 [(0, V1 (dSs l)), (3, dI i)] [] []) (fun i => i ≤ l.length ∧ (l.take i).all (fun p => w1 p.x && w1 p.y) = true) (fun i => l.length - i) 0 ?_ ⟨Nat.zero_le _, rfl⟩ ?_)
  · exact Wk.mk' ⟨rfl, rfl, trivial⟩ trivial
  rintro i ⟨hi, ht⟩
  refine AWP_seq ?_;refine AWP_reg_seq tok fun K hK => ?_;refine mvQ ?_;refine mvQ ?_;refine s_blt rfl (len_m SP.dc rfl rfl) rfl ?_;refine biQ ?_;refine s_end (hK _ ?_); clear hK K;refine a_cond rfl (fun hg => ?_) (fun hg => ?_)
  · have hg : i < l.length := by simp at hg; omega
    obtain ⟨r, hr⟩ : ∃ r, r = l[i] := ⟨_, rfl⟩
    refine AWP_skip ?_;show AWP _ _ _ _ _ _;refine AWP_seq ?_;refine AWP_block ?_;refine a_join (α := Bool) (fun c => mk 55 [(0, V1 (dSs l)), (3, dI i), (51, dB c)] [] []) (fun c => c = !(w1 r.x && w1 r.y)) ?_ ?_
    · refine AWP_regW fun K hK => ?_;refine w_step tok rfl ?_;refine mvQ ?_;refine s_end ?_;refine w_step tok rfl ?_;refine mvQ ?_;refine s_end ?_;refine w_step tok rfl ?_;refine s_indexAddr rfl (x_m SP.dc rfl rfl rfl rfl hg rfl) rfl ?_;refine s_end ?_;refine w_step tok rfl ?_;refine faQ ?_;refine s_end ?_;refine w_step tok rfl ?_;refine faQ ?_;refine s_end ?_;refine w_step tok rfl ?_;refine faQ ?_;refine s_end ?_;refine w_step tok rfl ?_;refine ldQ ?_;refine s_end ?_;refine w_step tok rfl ?_;refine s_blt rfl (len_w (ws := l[i].x.wp) rfl rfl rfl) rfl ?_;refine s_end ?_;refine w_step tok rfl ?_;refine s_bin rfl (e_gtV _ 1) rfl ?_;refine s_end ?_;refine w_step tok rfl ?_;refine mvQ ?_;refine s_end ?_;refine w_split (fun h0 => ?_) (fun h0 => ?_)
      · refine w_skip rfl rfl ?_;refine w_skip rfl rfl ?_;refine w_skip rfl rfl ?_;refine w_skip rfl rfl ?_;refine w_skip rfl rfl ?_;refine w_skip rfl rfl ?_;refine w_skip rfl rfl ?_;refine w_skip rfl rfl ?_;refine w_skip rfl rfl ?_;refine w_step tok rfl ?_;refine piQ ?_;refine s_end ?_;refine w_step tok rfl ?_;refine mvQ ?_;refine s_end ?_;refine w_skip rfl rfl ?_;refine w_skip rfl rfl ?_;refine w_skip rfl rfl ?_;refine w_skip rfl rfl ?_;refine w_skip rfl rfl ?_;refine w_skip rfl rfl ?_;refine w_skip rfl rfl ?_;refine w_skip rfl rfl ?_;refine w_skip rfl rfl ?_;refine w_step tok rfl ?_;refine piQ ?_;refine s_end ?_;refine w_step tok rfl ?_;refine mvQ ?_;refine s_end ?_;refine w_skip rfl rfl ?_;refine w_skip rfl rfl ?_;refine w_skip rfl rfl ?_;refine w_skip rfl rfl ?_;refine w_skip rfl rfl ?_;refine w_skip rfl rfl ?_;refine w_skip rfl rfl ?_;refine w_skip rfl rfl ?_;refine w_skip rfl rfl ?_;refine w_step tok rfl ?_;refine piQ ?_;refine s_end ?_;refine w_end rfl (hK _ ?_); clear hK K;exact ⟨_, (by simp only [decide_eq_true_eq, decide_eq_false_iff_not] at h0; unfold w1; rw [hr, Bool.eq_iff_iff]; simp only [decide_eq_true_eq, Bool.not_eq_true', Bool.and_eq_false_iff, decide_eq_false_iff_not, reduceCtorEq, false_iff, true_iff]; omega), Wk.mk' ⟨rfl, rfl, rfl, trivial⟩ trivial⟩
      · refine w_step tok rfl ?_;refine mvQ ?_;refine s_end ?_;refine w_step tok rfl ?_;refine mvQ ?_;refine s_end ?_;refine w_step tok rfl ?_;refine s_indexAddr rfl (x_m SP.dc rfl rfl rfl rfl hg rfl) rfl ?_;refine s_end ?_;refine w_step tok rfl ?_;refine faQ ?_;refine s_end ?_;refine w_step tok rfl ?_;refine faQ ?_;refine s_end ?_;refine w_step tok rfl ?_;refine faQ ?_;refine s_end ?_;refine w_step tok rfl ?_;refine ldQ ?_;refine s_end ?_;refine w_step tok rfl ?_;refine s_blt rfl (len_w (ws := l[i].x.wq) rfl rfl rfl) rfl ?_;refine s_end ?_;refine w_step tok rfl ?_;refine s_bin rfl (e_gtV _ 1) rfl ?_;refine s_end ?_;refine w_step tok rfl ?_;refine piQ ?_;refine s_end ?_;refine w_step tok rfl ?_;refine mvQ ?_;refine s_end ?_;refine w_split (fun h1 => ?_) (fun h1 => ?_)
        · refine w_skip rfl rfl ?_;refine w_skip rfl rfl ?_;refine w_skip rfl rfl ?_;refine w_skip rfl rfl ?_;refine w_skip rfl rfl ?_;refine w_skip rfl rfl ?_;refine w_skip rfl rfl ?_;refine w_skip rfl rfl ?_;refine w_skip rfl rfl ?_;refine w_step tok rfl ?_;refine piQ ?_;refine s_end ?_;refine w_step tok rfl ?_;refine mvQ ?_;refine s_end ?_;refine w_skip rfl rfl ?_;refine w_skip rfl rfl ?_;refine w_skip rfl rfl ?_;refine w_skip rfl rfl ?_;refine w_skip rfl rfl ?_;refine w_skip rfl rfl ?_;refine w_skip rfl rfl ?_;refine w_skip rfl rfl ?_;refine w_skip rfl rfl ?_;refine w_step tok rfl ?_;refine piQ ?_;refine s_end ?_;refine w_end rfl (hK _ ?_); clear hK K;exact ⟨_, (by simp only [decide_eq_true_eq, decide_eq_false_iff_not] at h0 h1; unfold w1; rw [hr, Bool.eq_iff_iff]; simp only [decide_eq_true_eq, Bool.not_eq_true', Bool.and_eq_false_iff, decide_eq_false_iff_not, reduceCtorEq, false_iff, true_iff]; omega), Wk.mk' ⟨rfl, rfl, rfl, trivial⟩ trivial⟩
        · refine w_step tok rfl ?_;refine mvQ ?_;refine s_end ?_;refine w_step tok rfl ?_;refine mvQ ?_;refine s_end ?_;refine w_step tok rfl ?_;refine s_indexAddr rfl (x_m SP.dc rfl rfl rfl rfl hg rfl) rfl ?_;refine s_end ?_;refine w_step tok rfl ?_;refine faQ ?_;refine s_end ?_;refine w_step tok rfl ?_;refine faQ ?_;refine s_end ?_;refine w_step tok rfl ?_;refine faQ ?_;refine s_end ?_;refine w_step tok rfl ?_;refine ldQ ?_;refine s_end ?_;refine w_step tok rfl ?_;refine s_blt rfl (len_w (ws := l[i].y.wp) rfl rfl rfl) rfl ?_;refine s_end ?_;refine w_step tok rfl ?_;refine s_bin rfl (e_gtV _ 1) rfl ?_;refine s_end ?_;refine w_step tok rfl ?_;refine piQ ?_;refine s_end ?_;refine w_step tok rfl ?_;refine mvQ ?_;refine s_end ?_;refine w_split (fun h2 => ?_) (fun h2 => ?_)
          · refine w_skip rfl rfl ?_;refine w_skip rfl rfl ?_;refine w_skip rfl rfl ?_;refine w_skip rfl rfl ?_;refine w_skip rfl rfl ?_;refine w_skip rfl rfl ?_;refine w_skip rfl rfl ?_;refine w_skip rfl rfl ?_;refine w_skip rfl rfl ?_;refine w_step tok rfl ?_;refine piQ ?_;refine s_end ?_;refine w_end rfl (hK _ ?_); clear hK K;exact ⟨_, (by simp only [decide_eq_true_eq, decide_eq_false_iff_not] at h0 h1 h2; unfold w1; rw [hr, Bool.eq_iff_iff]; simp only [decide_eq_true_eq, Bool.not_eq_true', Bool.and_eq_false_iff, decide_eq_false_iff_not, reduceCtorEq, false_iff, true_iff]; omega), Wk.mk' ⟨rfl, rfl, rfl, trivial⟩ trivial⟩
          · refine w_step tok rfl ?_;refine mvQ ?_;refine s_end ?_;refine w_step tok rfl ?_;refine mvQ ?_;refine s_end ?_;refine w_step tok rfl ?_;refine s_indexAddr rfl (x_m SP.dc rfl rfl rfl rfl hg rfl) rfl ?_;refine s_end ?_;refine w_step tok rfl ?_;refine faQ ?_;refine s_end ?_;refine w_step tok rfl ?_;refine faQ ?_;refine s_end ?_;refine w_step tok rfl ?_;refine faQ ?_;refine s_end ?_;refine w_step tok rfl ?_;refine ldQ ?_;refine s_end ?_;refine w_step tok rfl ?_;refine s_blt rfl (len_w (ws := l[i].y.wq) rfl rfl rfl) rfl ?_;refine s_end ?_;refine w_step tok rfl ?_;refine s_bin rfl (e_gtV _ 1) rfl ?_;refine s_end ?_;refine w_step tok rfl ?_;refine piQ ?_;refine s_end ?_;refine w_end rfl (hK _ ?_); clear hK K;exact ⟨_, (by simp only [decide_eq_true_eq, decide_eq_false_iff_not] at h0 h1 h2; unfold w1; rw [hr, Bool.eq_iff_iff]; simp only [decide_eq_true_eq, Bool.not_eq_true', Bool.and_eq_false_iff, decide_eq_false_iff_not, reduceCtorEq, false_iff, true_iff]; omega), Wk.mk' ⟨rfl, rfl, rfl, trivial⟩ trivial⟩
    rintro c rfl
    refine a_cond rfl (fun hd => ?_) (fun hd => ?_)
    · refine AWP_reg_seq tok fun K hK => ?_;refine asQ ?_;refine s_end (hK _ ?_); clear hK K;refine AWP_ret ?_
      repeat (with_reducible refine tq_ret ?_)
      exact post_ret (fin_mk (by rfl) (by rfl) (by exact dB_eq (by rw [Bool.not_eq_true'] at hd; unfold sh31; rw [Bool.and_eq_false_iff]; left; rw [List.all_eq_false]; exact ⟨r, hr ▸ List.getElem_mem hg, by rw [hd]; simp⟩)))
    · refine AWP_skip ?_;show AWP _ _ _ _ _ _;refine AWP_reg tok fun K hK => ?_;refine mvQ ?_;refine s_bin rfl (e_add (c := ((i + 1 : Nat) : Int)) (by omega) (by omega)) rfl ?_;refine asQ ?_;refine s_end (hK _ ?_); clear hK K;refine ⟨i + 1, by omega, ⟨hg, ?_⟩, Wk.mk' ⟨rfl, rfl, trivial⟩ trivial⟩;rw [List.take_succ_eq_append_getElem hg, List.all_append, ht, ← hr];rw [Bool.not_eq_false'] at hd
      simp [hd]
  · have hg : i = l.length := by simp at hg; omega
    subst hg
    rw [List.take_length] at ht;rw [sh31, ht, Bool.true_and];refine AWP_exit ?_;show AWP _ _ _ _ _ _;refine AWP_reg_seq tok fun K hK => ?_;refine mvQ ?_;refine s_blt rfl (len_m SP.dc rfl rfl) rfl ?_;refine s_bin rfl (e_leV _ 6) rfl ?_;refine asQ ?_;refine s_end (hK _ ?_); clear hK K;refine AWP_ret ?_
    repeat (with_reducible refine tq_ret ?_)
    exact post_ret (fin_mk (by rfl) (by rfl) (by rfl))
theorem few31_ok {g : GR} (hg : ∀ r ∈ g.nodes, r.W) (h : few31 g = true) : (∀ r ∈ g.nodes, r.OK 1) ∧ (validB g = true → SM g) ∧ g.links.length ≤ 49 := by
  rw [few31, Bool.and_eq_true] at h
  obtain ⟨h1, h2⟩ := h
  have h1 := of_decide_eq_true h1
  have ok : ∀ r ∈ g.nodes, r.OK 1 := fun r hr => by
    have := of_decide_eq_true (List.all_eq_true.1 h2 r hr)
    exact ⟨(hg r hr).1, (hg r hr).2, this.1, this.2⟩
  refine ⟨ok, fun hv => ?_, by omega⟩
  have gv := validB_iff.1 hv
  have := gv.n2
  have := gv.l
  exact ⟨by omega, by omega, fun r hr => (ok r hr).mono rfl⟩
theorem sh31_ok {s : List SP} (hs : ∀ p ∈ s, p.W) (h : sh31 s = true) : (∀ p ∈ s, p.OK 1) ∧ s.length ≤ 6 := by
  rw [sh31, Bool.and_eq_true] at h
  obtain ⟨h1, h2⟩ := h
  refine ⟨fun p hp => ?_, of_decide_eq_true h2⟩
  have := List.all_eq_true.1 h1 p hp
  rw [Bool.and_eq_true] at this
  have a := of_decide_eq_true this.1
  have b := of_decide_eq_true this.2
  exact ⟨⟨(hs p hp).1.1, (hs p hp).1.2, a.1, a.2⟩, ⟨(hs p hp).2.1, (hs p hp).2.2, b.1, b.2⟩⟩

/-! ### New and Graph -/
theorem aNew_c (r : RW) (ok : r.OK 268435456) : Con Tryz.prog 43 [AG r.cs] { v := .pd [dRs [pz2 r.cn], .sl []] } := by
  have cN := tNorm_t r ok
  generalize pz2 r.cn = q at cN ⊢;refine con_introP (fn := Tryz.f43) Tryz.func43 (by kernel_rfl) rfl ?_
  intro w0 X
  rw [entry_mkE _ _ [(0, AG r.cs)] rfl rfl];refine AWP_reg_seq tokD fun K hK => ?_;refine s_box rfl rfl rfl rfl rfl rfl ?_;refine asQ ?_;refine s_end (hK _ ?_); clear hK K;refine AWP_reg_seq tokD fun K hK => ?_;refine ldQ ?_;refine s_call rfl rfl (cN) rfl rfl rfl rfl ?_;refine s_buildSliceD rfl rfl rfl rfl ?_;refine s_build rfl rfl rfl ?_;refine s_build rfl rfl rfl ?_;refine s_box rfl rfl rfl rfl rfl rfl ?_;refine asQ ?_;refine s_end (hK _ ?_); clear hK K;refine AWP_ret ?_;exact ⟨2, 8, [.d (dRs [q]), .nil], rfl, by rw [get_mk]; rfl, rfl, rfl⟩
end Go.Proofs.YtlnbkmkkiemcaaaGreatDoor

/- adjust: Worst, Graph; awake. No condition. -/
namespace Go.Proofs.YtlnbkmkkiemcaaaGreatDoor
attribute [local irreducible] lexA
open Go.RowKit

theorem sCloneL_c (ls : List LK) (hn : ls.length ≤ 1048576) : Con Tryz.prog 99 [V1 (dLs ls)] { v := V1 (dLs ls) } := by
  refine con_intro (fn := Tryz.f99) tok Tryz.func99 (by kernel_rfl) rfl ?_
  intro w0 X
  rw [entry_mkE _ _ [(0, V1 (dLs ls))] rfl rfl];refine AWP_reg_seq tok fun K hK => ?_;refine asQ ?_;refine s_end (hK _ ?_); clear hK K;refine AWP_seq ?_;refine AWP_isNil (es := ls.map LK.dc) tok rfl rfl rfl rfl rfl rfl rfl rfl rfl rfl fun b hb => ?_;rw [put_mk, put_mk];refine a_cond rfl (fun hc => ?_) (fun hc => ?_)
  · have : ls = [] := by have := hb hc; simpa using this
    subst this
    refine AWP_reg_seq tok fun K hK => ?_;refine asQ ?_;refine s_end (hK _ ?_); clear hK K;refine AWP_ret ?_
    repeat (with_reducible refine tq_ret ?_)
    exact post_ret (fin_mk (by rfl) (by rfl) (by rfl))
  · refine AWP_skip ?_;show AWP _ _ _ _ _ _;refine AWP_reg_seq tok fun K hK => ?_;refine s_buildSlice rfl rfl rfl rfl ?_;refine mvQ ?_;refine s_append rfl (ap_o (es := []) rfl rfl rfl rfl rfl rfl (by decide) (Nat.le_of_ble_eq_true rfl) rfl (fun e he => by obtain ⟨x, _, rfl⟩ := List.mem_map.1 he; rfl) rfl rfl rfl (by simp; omega)) rfl rfl rfl ?_;refine asQ ?_;refine s_end (hK _ ?_); clear hK K;refine a_fz [2] [7] 7 [(2, V1 (dLs ls))] [] rfl ?_ trivial ?_
    · exact ⟨frz_own (List.nil_append _) (by simp), trivial⟩
    refine AWP_ret ?_
    repeat (with_reducible refine tq_ret ?_)
    exact post_ret (fin_mk (by rfl) (by rfl) (by rfl))
set_option maxHeartbeats 1000000 in
theorem aGraph_c (ns : List RW) (ls : List LK) (ok : ∀ r ∈ ns, r.OK 268435456) (hn : ns.length ≤ 1048576) (hl : ls.length ≤ 1048576) : Con Tryz.prog 48 [.pd [dRs ns, dLs ls]] { v := AG (GR.mk (ns.map fun r => pz2 r.cn) ls).cs } := by
  have cC := sCloneL_c ls hl
  refine con_intro (fn := Tryz.f48) tok Tryz.func48 (by kernel_rfl) rfl ?_
  intro w0 X
  rw [entry_mkE _ _ [(0, .pd [dRs ns, dLs ls])] rfl rfl];refine AWP_reg_seq tok fun K hK => ?_;refine s_alloc rfl rfl rfl rfl rfl rfl ?_;refine s_end (hK _ ?_); clear hK K;refine AWP_seq ?_;refine AWP_regW_seq fun K hK => ?_;refine w_step tok rfl ?_;refine mvQ ?_;refine s_end ?_;refine w_peq (e := 133) rfl rfl rfl (by kernel_rfl) ?_;refine w_end rfl (hK _ ?_); clear hK K;refine a_cond rfl (fun h => by cases h) (fun _ => ?_);refine AWP_skip ?_;show AWP _ _ _ _ _ _;refine AWP_regW_seq fun K hK => ?_;refine w_step tok rfl ?_;refine mvQ ?_;refine s_end ?_;refine w_nil rfl rfl rfl ?_;refine w_step tok rfl ?_;refine faQ ?_;refine s_end ?_;refine w_step tok rfl ?_;refine faQ ?_;refine s_end ?_;refine w_step tok rfl ?_;refine ldQ ?_;refine s_end ?_;refine w_step tok rfl ?_;refine s_call rfl rfl (cC) rfl rfl rfl rfl ?_;refine s_end ?_;refine w_step tok rfl ?_;refine s_build rfl rfl rfl ?_;refine s_end ?_;refine w_step tok rfl ?_;refine s_alloc rfl rfl rfl rfl rfl rfl ?_;refine s_end ?_;refine w_step tok rfl ?_;refine s_store rfl rfl rfl rfl rfl ?_;refine s_end ?_;refine w_end rfl (hK _ ?_); clear hK K;refine AWP_seq ?_;refine AWP_regW_seq fun K hK => ?_;refine w_step tok rfl ?_;refine mvQ ?_;refine s_end ?_;refine w_nil rfl rfl rfl ?_;refine w_step tok rfl ?_;refine faQ ?_;refine s_end ?_;refine w_step tok rfl ?_;refine faQ ?_;refine s_end ?_;refine w_step tok rfl ?_;refine ldQ ?_;refine s_end ?_;refine w_step tok rfl ?_;refine s_blt rfl (len_m RW.dc rfl rfl) rfl ?_;refine s_end ?_;refine w_step tok rfl ?_;refine mvQ ?_;refine s_end ?_;refine w_end rfl (hK _ ?_); clear hK K;refine AWP_block (a_loop (α := Nat) (fun i => mk 35 [(2, .ptr 2 0), (3, .ptr 3 0), (20, V1 (dRs ns)), (21, dI ns.length), (22, dI i)] [(2, some (.box [.nil, .nil])), (3, some (.box [ownC 200 4 i, .d (dLs ls)])), (200, arrN 4 (((ns.take i).map fun r => pz2 r.cn).map RW.dc) i)] [3]) (fun i => i ≤ ns.length) (fun i => ns.length - i) 0 ?_ (Nat.zero_le _) ?_)
  · exact Wk.trans (Wk.rbE rfl) (Wk.mk' ⟨rfl, rfl, rfl, rfl, rfl, trivial⟩ ⟨rfl, rfl, rfl, trivial⟩)
  intro i hi
  refine AWP_reg_seq tok fun K hK => ?_;refine biQ ?_;refine s_end (hK _ ?_); clear hK K;refine AWP_seq ?_;refine a_cond rfl (fun hg => ?_) (fun hg => ?_)
  · have hg : i < ns.length := by simp at hg; omega
    have cN := tNorm_t ns[i] (ok _ (List.getElem_mem hg))
    have n1 : ((ns.take i).map fun r => pz2 r.cn).map RW.dc ++ [(pz2 (ns[i]).cn).dc] = ((ns.take (i + 1)).map fun r => pz2 r.cn).map RW.dc := by
      rw [List.take_succ_eq_append_getElem hg, List.map_append, List.map_append]; rfl
    have z1 : (((ns.take i).map fun r => pz2 r.cn).map RW.dc).length = i := by simp; omega
    generalize pz2 (ns[i]).cn = q at cN n1;generalize ((ns.take i).map fun r => pz2 r.cn).map RW.dc = es at n1 z1 ⊢;refine AWP_skip ?_;show AWP _ _ _ _ _ _;refine AWP_seq ?_;refine AWP_block ?_
    rcases i with _ | i
    · refine AWP_reg_seq tok fun K hK => ?_;refine s_indexAddr rfl (x_m RW.dc rfl rfl rfl rfl hg rfl) rfl ?_;refine ldQ ?_;refine s_alloc rfl rfl rfl rfl rfl rfl ?_;refine s_store rfl rfl rfl rfl rfl ?_;refine s_end (hK _ ?_); clear hK K;refine a_draw1 tok mixed (A := [[], [], [], [], [2], [0, 2], [], []]) (an := [{}, {}, {}, {}, {}, {}, {}, {}]) rfl (by kernel_rfl) rfl fun K hK => ?_;refine faQ ?_;refine ldQ ?_;refine ldQ ?_;refine s_call rfl rfl (cN) rfl rfl rfl rfl ?_;refine s_buildSlice rfl rfl rfl rfl ?_;refine s_append rfl (ap_nil rfl rfl rfl rfl rfl (by decide) (Nat.le_of_ble_eq_true rfl) rfl (by simp) rfl (by simp) (by simp)) rfl rfl rfl ?_;refine faQ ?_;refine s_storeB rfl rfl rfl rfl rfl ?_;refine s_end (hK _ ?_); clear hK K;show AWP _ _ _ _ _ _;refine AWP_reg tok fun K hK => ?_;refine s_bin rfl (e_add (c := ((0 + 1 : Nat) : Int)) (by omega) (by omega)) rfl ?_;refine mvQ ?_;refine s_end (hK _ ?_); clear hK K;refine ⟨0 + 1, by omega, hg, Wk.rnB [2, 3, 20, 21, 22] [2, 3, 31] 31 200 rfl rfl rfl ⟨rfl, rfl, rfl, rfl, rfl, trivial⟩ ⟨rfl, ?_, ?_, trivial⟩ rfl⟩
      · first
          | rfl
          | (show some (OO.box [.own 200 4 0 _, _]) = _
             rw [List.length_append, z1]; rfl)
      · first
          | (rw [← n1, List.length_eq_zero_iff.1 z1]; rfl)
          | (rw [← n1]; rfl)
    · refine AWP_reg_seq tok fun K hK => ?_;refine s_indexAddr rfl (x_m RW.dc rfl rfl rfl rfl hg rfl) rfl ?_;refine ldQ ?_;refine s_alloc rfl rfl rfl rfl rfl rfl ?_;refine s_store rfl rfl rfl rfl rfl ?_;refine s_end (hK _ ?_); clear hK K;refine a_draw1 tok mixed (A := [[], [], [], [], [2], [0, 2], [], []]) (an := [{}, {}, {}, {}, {}, {}, {}, {}]) rfl (by kernel_rfl) rfl fun K hK => ?_;refine faQ ?_;refine ldQ ?_;refine ldQ ?_;refine s_call rfl rfl (cN) rfl rfl rfl rfl ?_;refine s_buildSlice rfl rfl rfl rfl ?_;refine s_append rfl (ap_o rfl rfl rfl rfl rfl rfl (by decide) (Nat.le_of_ble_eq_true rfl) rfl (by simp) rfl rfl z1.symm (by simp <;> omega)) rfl rfl rfl ?_;refine faQ ?_;refine s_storeB rfl rfl rfl rfl rfl ?_;refine s_end (hK _ ?_); clear hK K;show AWP _ _ _ _ _ _;refine AWP_reg tok fun K hK => ?_;refine s_bin rfl (e_add (c := ((i + 1 + 1 : Nat) : Int)) (by omega) (by omega)) rfl ?_;refine mvQ ?_;refine s_end (hK _ ?_); clear hK K;refine ⟨i + 1 + 1, by omega, hg, Wk.rnB [2, 3, 20, 21, 22] [2, 3, 31] 31 200 rfl rfl rfl ⟨rfl, rfl, rfl, rfl, rfl, trivial⟩ ⟨rfl, ?_, ?_, trivial⟩ rfl⟩
      · first
          | rfl
          | (show some (OO.box [.own 200 4 0 _, _]) = _
             rw [List.length_append, z1]; rfl)
      · first
          | (rw [← n1, List.length_eq_zero_iff.1 z1]; rfl)
          | (rw [← n1]; rfl)
  have hg : i = ns.length := by simp at hg; omega
  subst hg
  rw [List.take_length]
  have zL : (ns.map fun r => pz2 r.cn).length = ns.length := List.length_map _
  rw [← zL];generalize (ns.map fun r => pz2 r.cn) = LL;refine AWP_exit ?_;show AWP _ _ _ _ _ _
  rcases LL with _ | ⟨l, LL⟩
  · refine AWP_reg_seq tok fun K hK => ?_;refine ldQ ?_;refine s_store rfl rfl rfl rfl rfl ?_;refine s_end (hK _ ?_); clear hK K;refine AWP_ret ?_
    repeat (with_reducible refine tq_ret ?_)
    exact post_ret (fin_mk (by rfl) (by rfl) (by rfl))
  · refine a_fz [2, 3] [2, 3, 200] 200 [(2, .ptr 2 0), (3, .ptr 3 0)] [(2, some (.box [.nil, .nil])), (3, some (.box (GR.mk (l :: LL) ls).cs))] rfl ⟨rfl, rfl, trivial⟩ ⟨rfl, ?_, trivial⟩ ?_
    · show some (OO.box [frzC 200 4 _ (.own 200 4 0 _), _]) = _
      rw [frzC_own rfl (by simp)]; rfl
    refine AWP_reg_seq tok fun K hK => ?_;refine ldQ ?_;refine s_store rfl rfl rfl rfl rfl ?_;refine s_end (hK _ ?_); clear hK K;refine AWP_ret ?_
    repeat (with_reducible refine tq_ret ?_)
    exact post_ret (fin_mk (by rfl) (by rfl) (by rfl))

/-! ### Worst -/
def wrN (q : Nat → Rat) : Nat → Nat
  | 0 => 0
  | k + 1 => if q (wrN q k) < q k then k else wrN q k
theorem wrN_lt (q : Nat → Rat) : ∀ {k n : Nat}, k ≤ n → 0 < n → wrN q k < n
  | 0, _, _, h => h
  | k + 1, n, h, hn => by
    rw [wrN]; split
    · omega
    · exact wrN_lt q (by omega) hn
def csN (g : GR) (s : List SP) (i : Nat) : Rat := csT g s (g.links.getD i ⟨0, 0, 0, 0, 0⟩)
def wrsV (g : GR) (s : List SP) : Int × RW × Int :=
  if costB g s = true then (if g.links.length = 0 then (0, rw00, 7) else ((wrN (csN g s) g.links.length : Nat), qzW (csN g s (wrN (csN g s) g.links.length)), 0)) else (0, rw00, 1)
theorem qcmp_le2 (x y : Rat) : qcmp x y ≤ 0 ↔ x ≤ y := by
  have z : ∀ x y : Int, zcmp x y ≤ 0 ↔ x ≤ y := fun x y => by unfold zcmp; (repeat' split) <;> omega
  unfold qcmp
  rw [z, Rat.le_iff]
theorem qcmp_gt2 (x y : Rat) : decide (qcmp x y > 0) = decide (y < x) := by
  rw [Bool.eq_iff_iff, decide_eq_true_eq, decide_eq_true_eq]
  have := qcmp_le2 x y
  constructor
  · intro h
    exact Rat.not_le.1 fun h' => by have := this.2 h'; omega
  · intro h
    have h' := Rat.not_le.2 h
    have : ¬ qcmp x y ≤ 0 := fun h2 => h' (this.1 h2)
    omega
def bestI (q : Nat → Rat) (i : Nat) : Int := if i = 0 then -1 else (wrN q i : Nat)
def zcs : List SC := [.d (.lit (.bool false)), .nil, .d (.lit (.bool false)), .nil]
def mostR (q : Nat → Rat) (i : Nat) : List SC := if i = 0 then zcs else (qzW (q (wrN q i))).cs
set_option maxHeartbeats 1000000 in
theorem gWst_c (g : GR) (s : List SP) (ok : ∀ r ∈ g.nodes, r.OK 4096) (os : ∀ p ∈ s, p.OK 4096) : Con Tryz.prog 38 [AG g.cs, V1 (dSs s)] { v := .tup [.one (.d (lI (wrsV g s).1)), .agg (wrsV g s).2.1.cs, .one (.d (lI (wrsV g s).2.2))] } := by
  have cR := aRight_c g s
  refine con_intro (fn := Tryz.f38) tok Tryz.func38 (by kernel_rfl) rfl ?_
  intro w0 X
  rw [entry_mkE _ _ [(0, AG g.cs), (1, V1 (dSs s))] rfl rfl];refine AWP_reg_seq tok fun K hK => ?_;refine s_box rfl rfl rfl rfl rfl rfl ?_;refine asQ ?_;refine s_alloc rfl rfl rfl rfl rfl rfl ?_;refine asQ ?_;refine s_end (hK _ ?_); clear hK K;refine AWP_seq ?_;refine AWP_block ?_;refine AWP_reg_seq tok fun K hK => ?_;refine ldQ ?_;refine mvQ ?_;refine s_call rfl rfl (cR) rfl rfl rfl rfl ?_;refine s_un rfl rfl rfl ?_;refine asQ ?_;refine s_end (hK _ ?_); clear hK K;refine a_cond rfl (fun hc => ?_) (fun hc => ?_)
  · rw [Bool.not_eq_true'] at hc
    have e : wrsV g s = (0, rw00, 1) := by rw [wrsV, if_neg (by rw [hc]; simp)]
    rw [e];refine AWP_reg_seq tok fun K hK => ?_;refine s_build rfl rfl rfl ?_;refine asQ ?_;refine s_store rfl rfl rfl rfl rfl ?_;refine asQ ?_;refine s_end (hK _ ?_); clear hK K;refine AWP_ret ?_
    repeat (with_reducible refine tq_ret ?_)
    exact post_ret (fin_mk (by rfl) (by rfl) (by rfl))
  rw [Bool.not_eq_false'] at hc
  have h := costB_iff.1 hc
  have gv := h.gv
  have l48 := gv.l
  rw [wrsV, if_pos hc];refine AWP_reg_seq tok fun K hK => ?_;refine faQ ?_;refine ldQ ?_;refine s_blt rfl (len_m LK.dc rfl rfl) rfl ?_;refine s_bin rfl (e_eqV _ 0) rfl ?_;refine asQ ?_;refine s_end (hK _ ?_); clear hK K;refine a_cond rfl (fun hd => ?_) (fun hd => ?_)
  · rw [if_pos (of_decide_eq_true hd)];refine AWP_reg_seq tok fun K hK => ?_;refine s_build rfl rfl rfl ?_;refine asQ ?_;refine s_store rfl rfl rfl rfl rfl ?_;refine asQ ?_;refine s_end (hK _ ?_); clear hK K;refine AWP_ret ?_
    repeat (with_reducible refine tq_ret ?_)
    exact post_ret (fin_mk (by rfl) (by rfl) (by rfl))
  have hd := of_decide_eq_false hd
  rw [if_neg hd];refine AWP_skip ?_;show AWP _ _ _ _ _ _;refine AWP_reg_seq tok fun K hK => ?_;refine s_build rfl rfl rfl ?_;refine s_alloc rfl rfl rfl rfl rfl rfl ?_;refine asQ ?_;refine s_store rfl rfl rfl rfl rfl ?_;refine s_end (hK _ ?_); clear hK K;refine AWP_seq ?_;refine AWP_reg_seq tok fun K hK => ?_;refine faQ ?_;refine ldQ ?_;refine s_blt rfl (len_m LK.dc rfl rfl) rfl ?_;refine mvQ ?_;refine s_end (hK _ ?_); clear hK K;refine AWP_block (a_loop (α := Nat) (fun i => mk 71 [(1, V1 (dSs s)), (2, .ptr 2 0), (5, .ptr 5 0), (7, dI (bestI (csN g s) i)), (8, .ptr 8 0), (28, V1 (dLs g.links)), (29, dI g.links.length), (30, dI i)] [(2, some (.box g.cs)), (5, some (.box zcs)), (8, some (.box (mostR (csN g s) i)))] []) (fun i => i ≤ g.links.length) (fun i => g.links.length - i) 0 ?_ (Nat.zero_le _) ?_)
  · have b0 : bestI (csN g s) 0 = -1 := if_pos rfl
    have b1 : mostR (csN g s) 0 = zcs := if_pos rfl
    simp only [b0, b1];exact Wk.mk' ⟨rfl, rfl, rfl, rfl, rfl, rfl, rfl, rfl, trivial⟩ ⟨rfl, rfl, rfl, trivial⟩
  intro i hi
  refine AWP_reg_seq tok fun K hK => ?_;refine biQ ?_;refine s_end (hK _ ?_); clear hK K;refine AWP_seq ?_;refine a_cond rfl (fun hg => ?_) (fun hg => ?_)
  · have hg : i < g.links.length := by simp at hg; omega
    obtain ⟨l, hl⟩ : ∃ l, l = g.links[i] := ⟨_, rfl⟩
    have hm : l ∈ g.links := hl ▸ List.getElem_mem hg
    have lv := gLV gv l hm
    have o := rsG_ok h hm ok os
    have cR := gResidual_c g s (i : Int) (fun r hr => (ok r hr).mono rfl) (fun p hp => (os p hp).mono rfl)
    have eR : resV g s (i : Int) = (rsG g s l, 0) := by
      rw [resV, if_pos hc, dif_pos ⟨by omega, by simpa using hg⟩];simp only [Int.toNat_natCast, ← hl]
    rw [eR] at cR
    have eq1 : csN g s i = ((rsG g s l).vx * (rsG g s l).vx + (rsG g s l).vy * (rsG g s l).vy) * ((l.w : Int) : Rat) := by
      unfold csN; rw [List.getD_eq_getElem?_getD, List.getElem?_eq_getElem hg, ← hl]; rfl
    have hql : ∀ k, k < g.links.length → ql (csN g s k) ≤ 98400 := fun k hk => by
      unfold csN; rw [List.getD_eq_getElem?_getD, List.getElem?_eq_getElem hk]
      exact csT_le h (List.getElem_mem hk) ok os
    have hwr := wrN_lt (csN g s) hi (by omega)
    have qi := hql i hg
    have qw := hql _ hwr
    have ws : wrN (csN g s) (i + 1) = if csN g s (wrN (csN g s) i) < csN g s i then i else wrN (csN g s) i := rfl
    generalize rsG g s l = r at cR o eq1
    have x1 := o.qx rfl
    have x2 := o.qy rfl
    have m1 := ql_mul_le x1 x1
    have m2 := ql_mul_le x2 x2
    have m3 := ql_add_le m1 m2
    have c1 := qMul_t r.x r.x (r.vx * r.vx) (o.x.mono rfl) (o.x.mono rfl) rfl
    have c2 := qMul_t r.y r.y (r.vy * r.vy) (o.y.mono rfl) (o.y.mono rfl) rfl
    have c3 := qAdd_t (qzW (r.vx * r.vx)) (qzW (r.vy * r.vy)) (r.vx * r.vx + r.vy * r.vy) ((qzW_ok m1).mono rfl) ((qzW_ok m2).mono rfl) (by rw [qzW_v, qzW_v])
    have c4 := qOfI_c l.w lv.iw
    have c5 := qMul_t (qzW (r.vx * r.vx + r.vy * r.vy)) (qzW ((l.w : Int) : Rat)) (csN g s i) ((qzW_ok m3).mono rfl) ((qzW_ok (ql_i64 lv.iw)).mono rfl) (by rw [qzW_v, qzW_v, eq1])
    have c6 := qCmp_t (qzW (csN g s i)) (qzW (csN g s (wrN (csN g s) i))) ((qzW_ok qi).mono rfl) ((qzW_ok qw).mono rfl)
    rw [qzW_v, qzW_v] at c6
    have hgt := qcmp_gt2 (csN g s i) (csN g s (wrN (csN g s) i))
    have b1 : ∀ k, bestI (csN g s) (k + 1) = (wrN (csN g s) (k + 1) : Nat) := fun k => if_neg (by omega)
    have b2 : ∀ k, mostR (csN g s) (k + 1) = (qzW (csN g s (wrN (csN g s) (k + 1)))).cs := fun k => if_neg (by omega)
    refine AWP_skip ?_;show AWP _ _ _ _ _ _;refine AWP_seq ?_;refine AWP_block ?_;refine AWP_reg_seq tok fun K hK => ?_;refine mvQ ?_;refine s_indexAddr rfl (x_m LK.dc rfl rfl rfl rfl hg rfl) rfl ?_;refine ldQ ?_;refine s_alloc rfl rfl rfl rfl rfl rfl ?_;refine asQ ?_;refine s_store rfl rfl rfl rfl rfl ?_;refine s_end (hK _ ?_); clear hK K;rw [← hl];refine AWP_reg_seq tok fun K hK => ?_;refine ldQ ?_;refine mvQ ?_;refine mvQ ?_;refine s_call rfl rfl (cR) rfl rfl rfl rfl ?_;refine mvQ ?_;refine s_extract rfl rfl rfl ?_;refine s_extract rfl rfl rfl ?_;refine s_alloc rfl rfl rfl rfl rfl rfl ?_;refine s_store rfl rfl rfl rfl rfl ?_;refine asQ ?_;refine s_end (hK _ ?_); clear hK K;refine a_draw tok mixed (A := [[], [], [], [], [0, 2], [], [], [], [], [0, 1, 2, 3, 5, 7], [0, 1, 2, 3, 5, 6, 7, 8], [], []]) (an := [{}, {}, {}, {}, {}, { c := [46] }, { c := [46] }, { c := [46] }, { c := [46] }, {}, {}, { c := [46, 51, 52] }, {}]) rfl (by kernel_rfl) rfl fun K hK => ?_;refine faQ ?_;refine ldQ ?_;refine faQ ?_;refine ldQ ?_;refine s_call rfl rfl (c1) rfl rfl rfl rfl ?_;refine faQ ?_;refine ldQ ?_;refine faQ ?_;refine ldQ ?_;refine s_call rfl rfl (c2) rfl rfl rfl rfl ?_;refine s_call rfl rfl (c3) rfl rfl rfl rfl ?_;refine s_alloc rfl rfl rfl rfl rfl rfl ?_;refine s_store rfl rfl rfl rfl rfl ?_;refine s_end (hK _ ?_); clear hK K;refine a_draw tok mixed (A := [[], [], [], [1], [1, 2], []]) (an := [{}, {}, {}, {}, {}, {}]) rfl (by kernel_rfl) rfl fun K hK => ?_;refine ldQ ?_;refine faQ ?_;refine ldQ ?_;refine s_call rfl rfl (c4) rfl rfl rfl rfl ?_;refine s_call rfl rfl (c5) rfl rfl rfl rfl ?_;refine s_store rfl rfl rfl rfl rfl ?_;refine s_end (hK _ ?_); clear hK K
    rcases i with _ | i
    · have w1 : wrN (csN g s) (0 + 1) = 0 := by rw [ws]; split <;> rfl
      have b0 : bestI (csN g s) 0 = -1 := if_pos rfl
      have b3 : mostR (csN g s) 0 = zcs := if_pos rfl
      rw [b0, b3];refine AWP_reg_seq tok fun K hK => ?_;refine mvQ ?_;refine biQ ?_;refine mvQ ?_;refine s_skip rfl ?_;refine s_skip rfl ?_;refine s_skip rfl ?_;refine s_skip rfl ?_;refine piQ ?_;refine s_end (hK _ ?_); clear hK K;refine a_cond rfl (fun _ => ?_) (fun h => by cases h);refine a_draw1 tok mixed (A := [[], [], [], []]) (an := [{}, {}, {}, {}]) rfl (by kernel_rfl) rfl fun K hK => ?_;refine mvQ ?_;refine ldQ ?_;refine asQ ?_;refine s_store rfl rfl rfl rfl rfl ?_;refine s_end (hK _ ?_); clear hK K;show AWP _ _ _ _ _ _;refine AWP_reg tok fun K hK => ?_;refine s_bin rfl (e_add (c := ((0 + 1 : Nat) : Int)) (by omega) (by omega)) rfl ?_;refine mvQ ?_;refine s_end (hK _ ?_); clear hK K;refine ⟨0 + 1, by omega, hg, ?_⟩
      have a1 : bestI (csN g s) (0 + 1) = ((0 : Nat) : Int) := by rw [bestI, if_neg (by omega), w1]
      have a2 : mostR (csN g s) (0 + 1) = (qzW (csN g s 0)).cs := by rw [mostR, if_neg (by omega), w1]
      rw [a1, a2];exact Wk.mk' ⟨rfl, rfl, rfl, rfl, rfl, rfl, rfl, rfl, trivial⟩ ⟨rfl, rfl, rfl, trivial⟩
    · rw [b1, b2];generalize hw0 : wrN (csN g s) (i + 1) = w0' at *;generalize qcmp (csN g s (i + 1)) (csN g s w0') = kk at c6 hgt;refine AWP_reg_seq tok fun K hK => ?_;refine mvQ ?_;refine s_bin rfl (e_ltJ (c := false) (decide_eq_false (by omega))) rfl ?_;refine mvQ ?_;refine ldQ ?_;refine ldQ ?_;refine s_call rfl rfl (c6) rfl rfl rfl rfl ?_;refine s_bin rfl (e_gtJ hgt) rfl ?_;refine piQ ?_;refine s_end (hK _ ?_); clear hK K;refine a_cond rfl (fun he => ?_) (fun he => ?_)
      · rw [if_pos (of_decide_eq_true he)] at ws;refine a_draw1 tok mixed (A := [[], [], [], []]) (an := [{}, {}, {}, {}]) rfl (by kernel_rfl) rfl fun K hK => ?_;refine mvQ ?_;refine ldQ ?_;refine asQ ?_;refine s_store rfl rfl rfl rfl rfl ?_;refine s_end (hK _ ?_); clear hK K;show AWP _ _ _ _ _ _;refine AWP_reg tok fun K hK => ?_;refine s_bin rfl (e_add (c := ((i + 1 + 1 : Nat) : Int)) (by omega) (by omega)) rfl ?_;refine mvQ ?_;refine s_end (hK _ ?_); clear hK K;refine ⟨i + 1 + 1, by omega, hg, ?_⟩;rw [b1, b2, ws];exact Wk.mk' ⟨rfl, rfl, rfl, rfl, rfl, rfl, rfl, rfl, trivial⟩ ⟨rfl, rfl, rfl, trivial⟩
      · rw [if_neg (of_decide_eq_false he)] at ws;refine AWP_skip ?_;show AWP _ _ _ _ _ _;refine AWP_reg tok fun K hK => ?_;refine s_bin rfl (e_add (c := ((i + 1 + 1 : Nat) : Int)) (by omega) (by omega)) rfl ?_;refine mvQ ?_;refine s_end (hK _ ?_); clear hK K;refine ⟨i + 1 + 1, by omega, hg, ?_⟩;rw [b1, b2, ws];exact Wk.mk' ⟨rfl, rfl, rfl, rfl, rfl, rfl, rfl, rfl, trivial⟩ ⟨rfl, rfl, rfl, trivial⟩
  have hg : i = g.links.length := by simp at hg; omega
  subst hg
  have a1 : bestI (csN g s) g.links.length = (wrN (csN g s) g.links.length : Nat) := if_neg hd
  have a2 : mostR (csN g s) g.links.length = (qzW (csN g s (wrN (csN g s) g.links.length))).cs := if_neg hd
  rw [a1, a2];refine AWP_exit ?_;show AWP _ _ _ _ _ _;refine a_draw tok mixed (A := [[], [], [], [], []]) (an := [{}, {}, {}, {}, {}]) rfl (by kernel_rfl) rfl fun K hK => ?_;refine mvQ ?_;refine ldQ ?_;refine asQ ?_;refine s_store rfl rfl rfl rfl rfl ?_;refine asQ ?_;refine s_end (hK _ ?_); clear hK K;refine AWP_ret ?_
  repeat (with_reducible refine tq_ret ?_)
  exact post_ret (fin_mk (by rfl) (by rfl) (by rfl))
end Go.Proofs.YtlnbkmkkiemcaaaGreatDoor

/- law31: awake; alike; Least. No condition. -/
namespace Go.Proofs.YtlnbkmkkiemcaaaGreatDoor
attribute [local irreducible] lexA
open Go.RowKit

theorem e_eqSt {T : Tab} {t : TypeId} (a : ByteArray) : effBin T .eql t (V1 (.lit (.string a))) (V1 (.lit (.string a))) = .set (dB true) := by
  show Eff.set (dB (a.toList == a.toList)) = _
  rw [beq_self_eq_true]
theorem e_geK {T : Tab} {t : TypeId} {a b : Int} {c : Bool} (h : decide (a ≥ b) = c) : effBin T .geq t (dI a) (dI b) = .set (dB c) := by subst h; rfl
def gW : GR := ⟨[rw00, rw00], [⟨0, 1, 10, 0, 1⟩, ⟨0, 1, 13, 0, 2⟩]⟩
def sW : List SP := [szW 0 0, szW 12 0]
theorem tW1 : minV gW = (sW, 0) := by decide +kernel
theorem tW2 : lstV gW = (qzW 6, 0) := by decide +kernel
theorem tW3 : wrsV gW sW = (0, qzW 4, 0) := by decide +kernel
theorem gW_ok : ∀ r ∈ gW.nodes, r.OK 2 := by
  intro r hr
  have : r = rw00 := by
    simp only [gW, List.mem_cons, List.not_mem_nil, or_false, or_self] at hr; exact hr
  rw [this];exact ⟨fun x hx => (List.not_mem_nil hx).elim, fun x hx => (List.not_mem_nil hx).elim, Nat.zero_le _, Nat.zero_le _⟩
theorem gW_sm : validB gW = true → SM gW := fun _ => ⟨by decide, by decide, gW_ok⟩
theorem sW_ok : ∀ p ∈ sW, p.OK 4096 := by
  intro p hp
  simp only [sW, List.mem_cons, List.not_mem_nil, or_false] at hp
  rcases hp with rfl | rfl
  · exact szW_ok (by decide +kernel) (by decide +kernel)
  · exact szW_ok (by decide +kernel) (by decide +kernel)
set_option maxHeartbeats 1000000 in
theorem awake31_c : Con Tryz.prog 26 [] { v := dB true } := by
  have cM := gMin_c gW (fun r hr => (gW_ok r hr).mono rfl) gW_sm
  have cL := gLst_c gW (fun r hr => (gW_ok r hr).mono rfl) gW_sm
  have cW := gWst_c gW sW (fun r hr => (gW_ok r hr).mono rfl) sW_ok
  rw [tW1] at cM;rw [tW2] at cL;rw [tW3] at cW
  have cN := aNew_c rw00 ⟨fun x hx => (List.not_mem_nil hx).elim, fun x hx => (List.not_mem_nil hx).elim, Nat.zero_le _, Nat.zero_le _⟩
  have o1 : (pz2 rw00.cn).OK 268435456 := pz2_ok (by decide +kernel)
  generalize pz2 rw00.cn = q at cN o1
  have cG := aGraph_c [q] [] (fun r hr => by rw [List.mem_singleton.1 hr]; exact o1) (by simp) (by simp)
  have t1 := qText_t (qzW 12) (qzW_ok (by decide +kernel)) (by rw [qzW_v]; decide +kernel) (by rw [qzW_v]; decide +kernel)
  have t2 := qText_t (qzW 6) (qzW_ok (by decide +kernel)) (by rw [qzW_v]; decide +kernel) (by rw [qzW_v]; decide +kernel)
  have t3 := qText_t (qzW 4) (qzW_ok (by decide +kernel)) (by rw [qzW_v]; decide +kernel) (by rw [qzW_v]; decide +kernel)
  rw [qzW_v, show qtx (12 : Rat) = [49, 50] by decide +kernel] at t1;rw [qzW_v, show qtx (6 : Rat) = [54] by decide +kernel] at t2;rw [qzW_v, show qtx (4 : Rat) = [52] by decide +kernel] at t3
  have eS : sW = [⟨qzW 0, qzW 0⟩, ⟨qzW 12, qzW 0⟩] := rfl
  rw [eS] at cM cW;generalize qzW (12 : Rat) = A at *;generalize qzW (6 : Rat) = B at *;generalize qzW (4 : Rat) = C at *;generalize qzW (0 : Rat) = Z at *;refine con_intro (fn := Tryz.f26) tok Tryz.func26 (by kernel_rfl) rfl ?_
  intro w0 X
  rw [entry_mkE _ _ [] rfl rfl];refine AWP_reg_seq tok fun K hK => ?_;refine asQ ?_;refine s_end (hK _ ?_); clear hK K;refine AWP_reg_seq tok fun K hK => ?_;refine s_makeSlice (sz := _) (es := _) (f := _) (v := _) rfl (mk_a (l := 2) rfl rfl rfl rfl rfl (Nat.le_of_ble_eq_true rfl) (by decide) rfl rfl (by omega)) rfl rfl ?_;refine s_build rfl rfl rfl ?_;refine s_build rfl rfl rfl ?_;refine s_buildSlice rfl rfl rfl rfl ?_;refine s_build rfl rfl rfl ?_;refine s_alloc rfl rfl rfl rfl rfl rfl ?_;refine s_storeB rfl rfl rfl rfl rfl ?_;refine s_end (hK _ ?_); clear hK K;refine a_fz [1] [1, 10, 13] 10 [(1, .ptr 1 0)] [(1, some (.box [.d (dRs [rw00, rw00]), .own 13 5 0 2])), (13, some (.arr 5 [(LK.mk 0 1 10 0 1).dc, (LK.mk 0 1 13 0 2).dc]))] rfl ⟨rfl, trivial⟩ ⟨rfl, rfl, trivial⟩ ?_;refine a_fz [1] [1, 13] 13 [(1, .ptr 1 0)] [(1, some (.box gW.cs))] rfl ⟨rfl, trivial⟩ ⟨rfl, trivial⟩ ?_;refine AWP_reg_seq tok fun K hK => ?_;refine ldQ ?_;refine s_call rfl rfl (cM) rfl rfl rfl rfl ?_;refine mvQ ?_;refine s_extract rfl rfl rfl ?_;refine s_extract rfl rfl rfl ?_;refine asQ ?_;refine asQ ?_;refine s_end (hK _ ?_); clear hK K;refine AWP_reg_seq tok fun K hK => ?_;refine ldQ ?_;refine s_call rfl rfl (cL) rfl rfl rfl rfl ?_;refine mvQ ?_;refine s_extract rfl rfl rfl ?_;refine s_extract rfl rfl rfl ?_;refine s_alloc rfl rfl rfl rfl rfl rfl ?_;refine s_store rfl rfl rfl rfl rfl ?_;refine asQ ?_;refine s_end (hK _ ?_); clear hK K;refine AWP_seq ?_;refine AWP_reg_seq tok fun K hK => ?_;refine mvQ ?_;refine biQ ?_;refine mvQ ?_;refine mvQ ?_;refine biQ ?_;refine piQ ?_;refine mvQ ?_;refine mvQ ?_;refine s_blt rfl (len_m SP.dc rfl rfl) rfl ?_;refine s_bin rfl (e_neK (c := false) rfl) rfl ?_;refine piQ ?_;refine s_end (hK _ ?_); clear hK K;refine a_cond rfl (fun h => by cases h) (fun _ => ?_);refine AWP_skip ?_;show AWP _ _ _ _ _ _;refine AWP_reg_seq tok fun K hK => ?_;refine ldQ ?_;refine mvQ ?_;refine s_call rfl rfl (cW) rfl rfl rfl rfl ?_;refine mvQ ?_;refine s_extract rfl rfl rfl ?_;refine s_extract rfl rfl rfl ?_;refine s_extract rfl rfl rfl ?_;refine s_alloc rfl rfl rfl rfl rfl rfl ?_;refine asQ ?_;refine s_store rfl rfl rfl rfl rfl ?_;refine asQ ?_;refine s_end (hK _ ?_); clear hK K;refine AWP_reg_seq tok fun K hK => ?_;refine s_build rfl rfl rfl ?_;refine s_call rfl rfl (cN) rfl rfl rfl rfl ?_;refine asQ ?_;refine s_end (hK _ ?_); clear hK K;refine AWP_regW_seq fun K hK => ?_;refine w_step tok rfl ?_;refine mvQ ?_;refine s_end ?_;refine w_step tok rfl ?_;refine s_indexAddr rfl (x_m SP.dc (i := 1) rfl rfl rfl rfl (by simp) rfl) rfl ?_;refine s_end ?_;refine w_step tok rfl ?_;refine faQ ?_;refine s_end ?_;refine w_step tok rfl ?_;refine ldQ ?_;refine s_end ?_;refine w_step tok rfl ?_;refine s_call rfl rfl (t1) rfl rfl rfl rfl ?_;refine s_end ?_;refine w_step tok rfl ?_;refine s_bin rfl (e_eqSt _) rfl ?_;refine s_end ?_;refine w_step tok rfl ?_;refine mvQ ?_;refine s_end ?_;refine w_step tok rfl ?_;refine ldQ ?_;refine s_end ?_;refine w_step tok rfl ?_;refine s_call rfl rfl (t2) rfl rfl rfl rfl ?_;refine s_end ?_;refine w_step tok rfl ?_;refine s_bin rfl (e_eqSt _) rfl ?_;refine s_end ?_;refine w_step tok rfl ?_;refine piQ ?_;refine s_end ?_;refine w_step tok rfl ?_;refine mvQ ?_;refine s_end ?_;refine w_step tok rfl ?_;refine mvQ ?_;refine s_end ?_;refine w_step tok rfl ?_;refine biQ ?_;refine s_end ?_;refine w_step tok rfl ?_;refine piQ ?_;refine s_end ?_;refine w_step tok rfl ?_;refine mvQ ?_;refine s_end ?_;refine w_step tok rfl ?_;refine ldQ ?_;refine s_end ?_;refine w_step tok rfl ?_;refine s_call rfl rfl (t3) rfl rfl rfl rfl ?_;refine s_end ?_;refine w_step tok rfl ?_;refine s_bin rfl (e_eqSt _) rfl ?_;refine s_end ?_;refine w_step tok rfl ?_;refine piQ ?_;refine s_end ?_;refine w_step tok rfl ?_;refine mvQ ?_;refine s_end ?_;refine w_step tok rfl ?_;refine mvQ ?_;refine s_end ?_;refine w_step tok rfl ?_;refine biQ ?_;refine s_end ?_;refine w_step tok rfl ?_;refine piQ ?_;refine s_end ?_;refine w_step tok rfl ?_;refine mvQ ?_;refine s_end ?_;refine w_step tok rfl ?_;refine mvQ ?_;refine s_end ?_;refine w_pne (e := 133) rfl rfl rfl (by kernel_rfl) ?_;refine w_step tok rfl ?_;refine piQ ?_;refine s_end ?_;refine w_step tok rfl ?_;refine mvQ ?_;refine s_end ?_;refine w_step tok rfl ?_;refine mvQ ?_;refine s_end ?_;refine w_step tok rfl ?_;refine s_call rfl rfl (cG) rfl rfl rfl rfl ?_;refine s_end ?_;refine w_step tok rfl ?_;refine s_field rfl rfl rfl ?_;refine s_end ?_;refine w_step tok rfl ?_;refine s_blt rfl (len_m RW.dc rfl rfl) rfl ?_;refine s_end ?_;refine w_step tok rfl ?_;refine s_bin rfl (e_eqI rfl) rfl ?_;refine s_end ?_;refine w_step tok rfl ?_;refine piQ ?_;refine s_end ?_;refine w_step tok rfl ?_;refine asQ ?_;refine s_end ?_;refine w_end rfl (hK _ ?_); clear hK K;refine AWP_ret ?_
  repeat (with_reducible refine tq_ret ?_)
  exact post_ret (fin_mk (by rfl) (by rfl) (by rfl))

/-! ### alike -/
/-! ### Least -/
end Go.Proofs.YtlnbkmkkiemcaaaGreatDoor

/- law31: Gradient. No condition. -/
namespace Go.Proofs.YtlnbkmkkiemcaaaGreatDoor
attribute [local irreducible] lexA
open Go.RowKit

theorem sign0_c : Con Tryz.prog 30 [AG (qzW 0).cs] { v := dI 0 } := by
  have h := qSign_t (qzW 0) (qzW_ok (k := 1) (by decide) |>.mono rfl)
  rw [qzW_v] at h;exact h
set_option maxHeartbeats 1000000 in
theorem lGrad_c (g : GR) (s : List SP) (hg : ∀ r ∈ g.nodes, r.W) (hs : ∀ p ∈ s, p.W) (hl : s.length ≤ 9223372036854775807) : Con Tryz.prog 9 [AG g.cs, V1 (dSs s)] { v := dB true } := by
  have cz := qOfI_c 0 ⟨by decide, by decide⟩
  refine con_intro (fn := Tryz.f9) tok Tryz.func9 (by kernel_rfl) rfl ?_
  intro w0 X
  rw [entry_mkE _ _ [(0, AG g.cs), (1, V1 (dSs s))] rfl rfl];refine AWP_reg_seq tok fun K hK => ?_;refine s_box rfl rfl rfl rfl rfl rfl ?_;refine asQ ?_;refine s_end (hK _ ?_); clear hK K;refine AWP_seq ?_;refine a_join (α := Bool) (fun c => mk 126 [(1, V1 (dSs s)), (2, .ptr 2 0), (26, dB c)] [(2, some (.box g.cs))] []) (fun c => c = !(few31 g && sh31 s)) ?_ ?_
  · refine AWP_regW fun K hK => ?_;refine w_step tok rfl ?_;refine s_call rfl rfl (awake31_c) rfl rfl rfl rfl ?_;refine s_end ?_;refine w_step tok rfl ?_;refine s_un rfl rfl rfl ?_;refine s_end ?_;refine w_step tok rfl ?_;refine mvQ ?_;refine s_end ?_;refine w_split (fun h0 => ?_) (fun h0 => ?_)
    · refine w_skip rfl rfl ?_;refine w_skip rfl rfl ?_;refine w_skip rfl rfl ?_;refine w_step tok rfl ?_;refine piQ ?_;refine s_end ?_;refine w_step tok rfl ?_;refine mvQ ?_;refine s_end ?_;refine w_skip rfl rfl ?_;refine w_skip rfl rfl ?_;refine w_skip rfl rfl ?_;refine w_step tok rfl ?_;refine piQ ?_;refine s_end ?_;refine w_end rfl (hK _ ?_); clear hK K
      first|(exact absurd h0 (by decide))|exact ⟨_, (by simp only [Bool.not_eq_true', Bool.not_eq_false'] at h0; simp only [h0, Bool.false_and, Bool.true_and, Bool.not_false, Bool.not_true]), Wk.mk' ⟨rfl, rfl, rfl, trivial⟩ ⟨rfl, trivial⟩⟩
    · refine w_step tok rfl ?_;refine ldQ ?_;refine s_end ?_;refine w_step tok rfl ?_;refine s_call rfl rfl (few31_c g) rfl rfl rfl rfl ?_;refine s_end ?_;refine w_step tok rfl ?_;refine s_un rfl rfl rfl ?_;refine s_end ?_;refine w_step tok rfl ?_;refine piQ ?_;refine s_end ?_;refine w_step tok rfl ?_;refine mvQ ?_;refine s_end ?_;refine w_split (fun h1 => ?_) (fun h1 => ?_)
      · refine w_skip rfl rfl ?_;refine w_skip rfl rfl ?_;refine w_skip rfl rfl ?_;refine w_step tok rfl ?_;refine piQ ?_;refine s_end ?_;refine w_end rfl (hK _ ?_); clear hK K
        first|(exact absurd h0 (by decide))|exact ⟨_, (by simp only [Bool.not_eq_true', Bool.not_eq_false'] at h0 h1; simp only [h0, h1, Bool.false_and, Bool.true_and, Bool.not_false, Bool.not_true]), Wk.mk' ⟨rfl, rfl, rfl, trivial⟩ ⟨rfl, trivial⟩⟩
      · refine w_step tok rfl ?_;refine mvQ ?_;refine s_end ?_;refine w_step tok rfl ?_;refine s_call rfl rfl (sh31_c s hl) rfl rfl rfl rfl ?_;refine s_end ?_;refine w_step tok rfl ?_;refine s_un rfl rfl rfl ?_;refine s_end ?_;refine w_step tok rfl ?_;refine piQ ?_;refine s_end ?_;refine w_end rfl (hK _ ?_); clear hK K
        first|(exact absurd h0 (by decide))|exact ⟨_, (by simp only [Bool.not_eq_true', Bool.not_eq_false'] at h0 h1; simp only [h0, h1, Bool.false_and, Bool.true_and, Bool.not_false, Bool.not_true]), Wk.mk' ⟨rfl, rfl, rfl, trivial⟩ ⟨rfl, trivial⟩⟩
  rintro c rfl
  refine a_cond rfl (fun hc => ?_) (fun hc => ?_)
  · refine AWP_reg_seq tok fun K hK => ?_;refine s_call rfl rfl (awake31_c) rfl rfl rfl rfl ?_;refine asQ ?_;refine s_end (hK _ ?_); clear hK K;refine AWP_ret ?_
    repeat (with_reducible refine tq_ret ?_)
    exact post_ret (fin_mk (by rfl) (by rfl) (by rfl))
  rw [Bool.not_eq_false', Bool.and_eq_true] at hc
  obtain ⟨hf, hsh⟩ := hc
  obtain ⟨ok1, hsm, _⟩ := few31_ok hg hf
  obtain ⟨os1, hs6⟩ := sh31_ok hs hsh
  have ok : ∀ r ∈ g.nodes, r.OK 4096 := fun r hr => (ok1 r hr).mono rfl
  have os : ∀ p ∈ s, p.OK 4096 := fun p hp => (os1 p hp).mono rfl
  have cM := gMin_c g ok hsm
  have cG := gGrd_c g s ok os
  refine AWP_skip ?_;show AWP _ _ _ _ _ _;refine AWP_reg_seq tok fun K hK => ?_;refine ldQ ?_;refine s_call rfl rfl (cM) rfl rfl rfl rfl ?_;refine mvQ ?_;refine s_extract rfl rfl rfl ?_;refine s_extract rfl rfl rfl ?_;refine asQ ?_;refine asQ ?_;refine s_end (hK _ ?_); clear hK K;refine a_join (α := Unit) (fun _ => mk 126 [(1, V1 (dSs s)), (2, .ptr 2 0)] [(2, some (.box g.cs))] []) (fun _ => True) ?_ ?_
  · by_cases hm : validB g = true ∧ cnB g = true
    · obtain ⟨hv, hcn⟩ := hm
      have gv := validB_iff.1 hv
      have e1 : minV g = (mnL g, 0) := by rw [minV, if_pos hv, if_pos hcn]
      rw [e1]
      have om4 : ∀ p ∈ mnL g, p.OK 4096 := fun p hp => (mn_ok gv (hsm hv) hcn p hp).mono rfl
      have cB := gGrd_c g (mnL g) ok om4
      have eB : grdV g (mnL g) = ((List.range g.nodes.length).map fun _ => szW 0 0, 0) := by
        rw [grdV, if_pos (costB_iff.2 ⟨gv, mnL_length g⟩)]
        obtain ⟨m1, m2⟩ := mn_gd gv hcn
        unfold grdL
        congr 1
        refine List.map_congr_left fun v hv => ?_;rw [gd_congr (m := mnX g) fun l hl => ⟨(mn_xs (lt_GV gv l hl).1).1, (mn_xs (lt_GV gv l hl).2).1⟩, gd_congr (m := mnY g) fun l hl => ⟨(mn_xs (lt_GV gv l hl).1).2, (mn_xs (lt_GV gv l hl).2).2⟩, m1 v (List.mem_range.1 hv), m2 v (List.mem_range.1 hv)]
      rw [eB] at cB
      have n16 := gv.n2
      have hz : ∀ i (h : i < ((List.range g.nodes.length).map fun _ => szW 0 0).length), (((List.range g.nodes.length).map fun _ => szW 0 0)[i]'h).x = qzW 0 ∧ (((List.range g.nodes.length).map fun _ => szW 0 0)[i]'h).y = qzW 0 := fun i h => by
        rw [List.getElem_map]; exact ⟨rfl, rfl⟩
      have hlz : ((List.range g.nodes.length).map fun _ => szW 0 0).length = g.nodes.length := by simp
      generalize ((List.range g.nodes.length).map fun _ => szW 0 0) = ZL at cB hz hlz;generalize mnL g = ml at cB ⊢;refine AWP_seq ?_;refine AWP_reg tok fun K hK => ?_;refine mvQ ?_;refine biQ ?_;refine s_end (hK _ ?_); clear hK K;refine a_cond rfl (fun _ => ?_) (fun h => by cases h);refine AWP_reg_seq tok fun K hK => ?_;refine ldQ ?_;refine mvQ ?_;refine s_call rfl rfl (cB) rfl rfl rfl rfl ?_;refine mvQ ?_;refine s_extract rfl rfl rfl ?_;refine s_extract rfl rfl rfl ?_;refine asQ ?_;refine asQ ?_;refine s_end (hK _ ?_); clear hK K;refine AWP_seq ?_;refine AWP_reg_seq tok fun K hK => ?_;refine mvQ ?_;refine biQ ?_;refine mvQ ?_;refine mvQ ?_;refine s_blt rfl (len_m SP.dc rfl rfl) rfl ?_;refine faQ ?_;refine ldQ ?_;refine s_blt rfl (len_m RW.dc rfl rfl) rfl ?_;refine s_bin rfl (e_neK (c := false) (by rw [hlz]; simp)) rfl ?_;refine piQ ?_;refine s_end (hK _ ?_); clear hK K;refine a_cond rfl (fun h => by cases h) (fun _ => ?_);refine AWP_skip ?_;show AWP _ _ _ _ _ _;refine AWP_reg_seq tok fun K hK => ?_;refine asQ ?_;refine s_end (hK _ ?_); clear hK K;refine AWP_block (a_loop (α := Nat) (fun i => mk 126 [(1, V1 (dSs s)), (2, .ptr 2 0), (7, V1 (dSs ZL)), (9, dI i)] [(2, some (.box g.cs))] []) (fun i => i ≤ ZL.length) (fun i => ZL.length - i) 0 ?_ (Nat.zero_le _) ?_)
      · exact Wk.mk' ⟨rfl, rfl, rfl, rfl, trivial⟩ ⟨rfl, trivial⟩
      intro i hi
      refine AWP_seq ?_;refine AWP_reg_seq tok fun K hK => ?_;refine mvQ ?_;refine mvQ ?_;refine s_blt rfl (len_m SP.dc rfl rfl) rfl ?_;refine biQ ?_;refine s_end (hK _ ?_); clear hK K;refine a_cond rfl (fun hg' => ?_) (fun hg' => ?_)
      · have hg' : i < ZL.length := by simp at hg'; omega
        have cx := sign0_c
        have cy := sign0_c
        rw [← (hz i hg').1] at cx;rw [← (hz i hg').2] at cy;refine AWP_skip ?_;show AWP _ _ _ _ _ _;refine AWP_seq ?_;refine AWP_block ?_;refine AWP_reg_seq tok fun K hK => ?_;refine mvQ ?_;refine mvQ ?_;refine s_indexAddr rfl (x_m SP.dc rfl rfl rfl rfl hg' rfl) rfl ?_;refine faQ ?_;refine ldQ ?_;refine s_call rfl rfl (cx) rfl rfl rfl rfl ?_;refine biQ ?_;refine mvQ ?_;refine mvQ ?_;refine mvQ ?_;refine s_indexAddr rfl (x_m SP.dc rfl rfl rfl rfl hg' rfl) rfl ?_;refine faQ ?_;refine ldQ ?_;refine s_call rfl rfl (cy) rfl rfl rfl rfl ?_;refine biQ ?_;refine piQ ?_;refine s_end (hK _ ?_); clear hK K;refine a_cond rfl (fun h => by cases h) (fun _ => ?_);refine AWP_skip ?_;show AWP _ _ _ _ _ _;refine AWP_reg tok fun K hK => ?_;refine mvQ ?_;refine s_bin rfl (e_add (c := ((i + 1 : Nat) : Int)) (by omega) (by omega)) rfl ?_;refine asQ ?_;refine s_end (hK _ ?_); clear hK K;exact ⟨i + 1, by omega, hg', Wk.mk' ⟨rfl, rfl, rfl, rfl, trivial⟩ ⟨rfl, trivial⟩⟩
      · refine AWP_exit ?_;exact ⟨(), trivial, Wk.mk' ⟨rfl, rfl, trivial⟩ ⟨rfl, trivial⟩⟩
    · have e1 : ∃ e : Int, minV g = ([], e) ∧ (e == 0) = false := by
        unfold minV
        by_cases hv : validB g = true
        · rw [if_pos hv, if_neg fun h => hm ⟨hv, h⟩]; exact ⟨_, rfl, rfl⟩
        · rw [if_neg hv]; exact ⟨_, rfl, rfl⟩
      obtain ⟨e, e1, e2⟩ := e1
      rw [e1];refine AWP_seq ?_;refine AWP_reg tok fun K hK => ?_;refine mvQ ?_;refine s_bin rfl (e_eqK e2) rfl ?_;refine s_end (hK _ ?_); clear hK K;refine a_cond rfl (fun h => by cases h) (fun _ => ?_);refine AWP_skip ?_;exact ⟨(), trivial, Wk.mk' ⟨rfl, rfl, trivial⟩ ⟨rfl, trivial⟩⟩
  rintro - -
  show AWP _ _ _ _ _ _
  by_cases hb : costB g s = true
  · have h := costB_iff.1 hb
    have gv := h.gv
    rw [grdV, if_pos hb] at cG
    have n5 := (hsm (validB_iff.2 gv)).n6
    have l16 := (hsm (validB_iff.2 gv)).l16
    have hq : ∀ v, ql (gd (dX g) (xs s) v g.links) ≤ 600000 ∧ ql (gd (dY g) (ys s) v g.links) ≤ 600000 := fun v => by
      have := gd_ql h ok os v g.links.length (Nat.le_refl _)
      rw [List.take_length] at this;exact ⟨Nat.le_trans this.1 (by omega), Nat.le_trans this.2 (by omega)⟩
    have t1 := gd_sum (dX g) (xs s) g.links (lt_GV gv)
    have t2 := gd_sum (dY g) (ys s) g.links (lt_GV gv)
    have hG : ∀ i, i < g.nodes.length → (grdL g s)[i]? = some (szW (gd (dX g) (xs s) i g.links) (gd (dY g) (ys s) i g.links)) := fun i hi => by
      unfold grdL; rw [List.getElem?_map, List.getElem?_range hi]; rfl
    have hlG : (grdL g s).length = g.nodes.length := by simp [grdL]
    obtain ⟨X, hX⟩ : ∃ X : Nat → Rat, X = fun v => gd (dX g) (xs s) v g.links := ⟨_, rfl⟩
    obtain ⟨Y, hY⟩ : ∃ Y : Nat → Rat, Y = fun v => gd (dY g) (ys s) v g.links := ⟨_, rfl⟩
    have hq : ∀ v, ql (X v) ≤ 600000 ∧ ql (Y v) ≤ 600000 := fun v => by rw [hX, hY]; exact hq v
    have hG : ∀ i, i < g.nodes.length → (grdL g s)[i]? = some (szW (X i) (Y i)) := fun i hi => by rw [hX, hY]; exact hG i hi
    rw [← hX] at t1;rw [← hY] at t2
    have qs : ∀ k, k ≤ 6 → ql (sm k X) ≤ 4000000 ∧ ql (sm k Y) ≤ 4000000 := fun k hk => by
      have a := ql_sm_le (k := k) (f := X) (M := 600000) fun t _ => (hq t).1
      have b := ql_sm_le (k := k) (f := Y) (M := 600000) fun t _ => (hq t).2
      exact ⟨by omega, by omega⟩
    clear hX hY;generalize grdL g s = G at cG hG hlG;refine AWP_reg_seq tok fun K hK => ?_;refine ldQ ?_;refine mvQ ?_;refine s_call rfl rfl (cG) rfl rfl rfl rfl ?_;refine mvQ ?_;refine s_extract rfl rfl rfl ?_;refine s_extract rfl rfl rfl ?_;refine asQ ?_;refine asQ ?_;refine s_end (hK _ ?_); clear hK K;refine AWP_seq ?_;refine AWP_reg_seq tok fun K hK => ?_;refine mvQ ?_;refine biQ ?_;refine s_end (hK _ ?_); clear hK K;refine a_cond rfl (fun h => by cases h) (fun _ => ?_);refine AWP_skip ?_;show AWP _ _ _ _ _ _;refine AWP_reg_seq tok fun K hK => ?_;refine s_call rfl rfl (cz) rfl rfl rfl rfl ?_;refine s_call rfl rfl (cz) rfl rfl rfl rfl ?_;refine s_alloc rfl rfl rfl rfl rfl rfl ?_;refine s_alloc rfl rfl rfl rfl rfl rfl ?_;refine s_store rfl rfl rfl rfl rfl ?_;refine s_store rfl rfl rfl rfl rfl ?_;refine s_end (hK _ ?_); clear hK K;refine AWP_seq ?_;refine AWP_reg_seq tok fun K hK => ?_;refine asQ ?_;refine s_end (hK _ ?_); clear hK K;refine AWP_block (a_loop (α := Nat) (fun i => mk 126 [(2, .ptr 2 0), (10, V1 (dSs G)), (12, .ptr 12 0), (13, .ptr 13 0), (14, dI i)] [(2, some (.box g.cs)), (12, some (.box (qzW (sm i X)).cs)), (13, some (.box (qzW (sm i Y)).cs))] []) (fun i => i ≤ G.length) (fun i => G.length - i) 0 ?_ (Nat.zero_le _) ?_)
    · exact Wk.mk' ⟨rfl, rfl, rfl, rfl, rfl, trivial⟩ ⟨rfl, rfl, rfl, trivial⟩
    intro i hi
    refine AWP_seq ?_;refine AWP_reg_seq tok fun K hK => ?_;refine mvQ ?_;refine mvQ ?_;refine s_blt rfl (len_m SP.dc rfl rfl) rfl ?_;refine biQ ?_;refine s_end (hK _ ?_); clear hK K;refine a_cond rfl (fun hg' => ?_) (fun hg' => ?_)
    · have hg' : i < G.length := by simp at hg'; omega
      have a1 : G[i] = szW (X i) (Y i) := by have := hG i (by omega); rw [List.getElem?_eq_getElem hg'] at this; exact Option.some.inj this
      have x1 : G[i].x = qzW (X i) := by rw [a1]; rfl
      have y1 : G[i].y = qzW (Y i) := by rw [a1]; rfl
      have c1 := qAdd_t (qzW (sm i X)) (qzW (X i)) (sm (i + 1) X) ((qzW_ok (qs i (by omega)).1).mono rfl) ((qzW_ok (hq i).1).mono rfl) (by rw [qzW_v, qzW_v, sm_succ])
      have c2 := qAdd_t (qzW (sm i Y)) (qzW (Y i)) (sm (i + 1) Y) ((qzW_ok (qs i (by omega)).2).mono rfl) ((qzW_ok (hq i).2).mono rfl) (by rw [qzW_v, qzW_v, sm_succ])
      rw [← x1] at c1;rw [← y1] at c2;refine AWP_skip ?_;show AWP _ _ _ _ _ _;refine AWP_seq ?_;refine AWP_block ?_;refine a_draw1 tok mixed (A := [[], [], [], [], [1, 2], [1, 2, 3], [1, 2, 3, 4], [], [], [], [], [8, 9], [8, 9, 10], [0, 1, 2, 3, 4, 5, 8, 9, 10, 11], [7, 8, 9, 10, 11, 12], []]) (an := [{}, {}, {}, {}, {}, {}, {}, { c := [102] }, { c := [102] }, { c := [102] }, { c := [102] }, { c := [102] }, { c := [102] }, {}, {}, {}]) rfl (by kernel_rfl) rfl fun K hK => ?_;refine ldQ ?_;refine mvQ ?_;refine mvQ ?_;refine s_indexAddr rfl (x_m SP.dc rfl rfl rfl rfl hg' rfl) rfl ?_;refine faQ ?_;refine ldQ ?_;refine s_call rfl rfl (c1) rfl rfl rfl rfl ?_;refine ldQ ?_;refine mvQ ?_;refine mvQ ?_;refine s_indexAddr rfl (x_m SP.dc rfl rfl rfl rfl hg' rfl) rfl ?_;refine faQ ?_;refine ldQ ?_;refine s_call rfl rfl (c2) rfl rfl rfl rfl ?_;refine s_store rfl rfl rfl rfl rfl ?_;refine s_store rfl rfl rfl rfl rfl ?_;refine s_end (hK _ ?_); clear hK K;show AWP _ _ _ _ _ _;refine AWP_reg tok fun K hK => ?_;refine mvQ ?_;refine s_bin rfl (e_add (c := ((i + 1 : Nat) : Int)) (by omega) (by omega)) rfl ?_;refine asQ ?_;refine s_end (hK _ ?_); clear hK K;exact ⟨i + 1, by omega, hg', Wk.mk' ⟨rfl, rfl, rfl, rfl, rfl, trivial⟩ ⟨rfl, rfl, rfl, trivial⟩⟩
    have hg' : i = g.nodes.length := by simp at hg'; omega
    subst hg'
    rw [t1, t2];refine AWP_exit ?_;show AWP _ _ _ _ _ _;refine AWP_reg_seq tok fun K hK => ?_;refine ldQ ?_;refine s_call rfl rfl (sign0_c) rfl rfl rfl rfl ?_;refine biQ ?_;refine mvQ ?_;refine ldQ ?_;refine s_call rfl rfl (sign0_c) rfl rfl rfl rfl ?_;refine biQ ?_;refine piQ ?_;refine mvQ ?_;refine mvQ ?_;refine s_blt rfl (len_m SP.dc rfl rfl) rfl ?_;refine faQ ?_;refine ldQ ?_;refine s_blt rfl (len_m RW.dc rfl rfl) rfl ?_;refine s_bin rfl (e_eqI (by rw [hlG])) rfl ?_;refine piQ ?_;refine asQ ?_;refine s_end (hK _ ?_); clear hK K;refine AWP_ret ?_
    repeat (with_reducible refine tq_ret ?_)
    exact post_ret (fin_mk (by rfl) (by rfl) (by rfl))
  · rw [grdV, if_neg hb] at cG;refine AWP_reg_seq tok fun K hK => ?_;refine ldQ ?_;refine mvQ ?_;refine s_call rfl rfl (cG) rfl rfl rfl rfl ?_;refine mvQ ?_;refine s_extract rfl rfl rfl ?_;refine s_extract rfl rfl rfl ?_;refine asQ ?_;refine asQ ?_;refine s_end (hK _ ?_); clear hK K;refine AWP_seq ?_;refine AWP_reg_seq tok fun K hK => ?_;refine mvQ ?_;refine biQ ?_;refine s_end (hK _ ?_); clear hK K;refine a_cond rfl (fun _ => ?_) (fun h => by cases h);refine AWP_reg_seq tok fun K hK => ?_;refine mvQ ?_;refine biQ ?_;refine mvQ ?_;refine mvQ ?_;refine s_blt rfl (len_m SP.dc rfl rfl) rfl ?_;refine biQ ?_;refine piQ ?_;refine asQ ?_;refine s_end (hK _ ?_); clear hK K;refine AWP_ret ?_
    repeat (with_reducible refine tq_ret ?_)
    exact post_ret (fin_mk (by rfl) (by rfl) (by rfl))
end Go.Proofs.YtlnbkmkkiemcaaaGreatDoor

/- law31: Order, Merges. No condition. -/
namespace Go.Proofs.YtlnbkmkkiemcaaaGreatDoor
attribute [local irreducible] lexA
open Go.RowKit

section
variable {T : Tab} {t e : TypeId} {ti ei : TI}
theorem splL_set2 {α : Type} (x : α) (l : List α) (j : Nat) : splL l j [x] = l.set j x := rfl
theorem st_f {S : Objs} {rb : List Nat} {id sz i j : Nat} {es : List (List DC)} {el : List DC} (x : DC) (h1 : T t = some ti) (h4 : ti.size = 1) (hS : S id = some (.arr sz es)) (hel : es[i]? = some el) (hj : j < el.length) :
    effStore T ⟨[], S, rb⟩ t (.pe id sz i j) (V1 x) = .upd (updO S id (.arr sz (es.set i (el.set j x)))) rb := by
  simp only [effStore, h1, h4, cellsOf, List.length_singleton, if_true, hS, dataL, SC.data?, hel, show j + 1 ≤ el.length from hj, splL_set2]
end
theorem st_K {T : Tab} {t : TypeId} {ti : TI} {S : Objs} {rb : List Nat} {id i : Nat} {L : List LK} {l : LK} (h1 : T t = some ti) (h4 : ti.size = 5) (hS : S id = some (.arr 5 (L.map LK.dc))) (hi : i < L.length) :
    effStore T ⟨[], S, rb⟩ t (.pe id 5 i 0) (AG l.cs) = .upd (updO S id (.arr 5 ((L.set i l).map LK.dc))) rb := by
  rw [List.map_set]
  exact st_o (ds := l.dc) h1 hS (by rw [List.length_map]; exact hi) (fun el h => by
    obtain ⟨x, _, rfl⟩ := List.mem_map.1 (List.mem_of_getElem? h)
    rw [h4]; rfl) rfl (by rw [h4]; rfl) (by rw [h4]; rfl)
theorem few31_links {g h : GR} (hn : h.nodes = g.nodes) (hf : few31 g = true) : (h.links.length ≤ 10 ∨ h.links.length = 49) → validB h = true → (∀ r ∈ g.nodes, r.OK 1) → SM h := fun hl hv ok => by
  rw [few31, Bool.and_eq_true] at hf
  have h1 := of_decide_eq_true hf.1
  have gv := validB_iff.1 hv
  have a := gv.n2
  have b := gv.l
  rw [hn] at a;exact ⟨by rw [hn]; omega, by omega, fun r hr => (ok r (hn ▸ hr)).mono rfl⟩
theorem min_small {g : GR} (hsm : validB g = true → SM g) : ∀ p ∈ (minV g).1, p.small := by
  unfold minV
  split
  · rename_i hv
    split
    · rename_i hc
      intro p hp
      have o := mn_ok (validB_iff.1 hv) (hsm hv) hc p hp
      exact ⟨⟨Nat.le_trans o.x.lp (by decide), Nat.le_trans o.x.lq (by decide)⟩, ⟨Nat.le_trans o.y.lp (by decide), Nat.le_trans o.y.lq (by decide)⟩⟩
    · intro p hp; cases hp
  · intro p hp; cases hp
theorem min_len (g : GR) : (minV g).1.length ≤ 16 := by
  unfold minV
  split
  · rename_i hv
    split
    · show (mnL g).length ≤ 16
      rw [mnL_length]; exact (validB_iff.1 hv).n2
    · exact Nat.zero_le _
  · exact Nat.zero_le _
theorem lst_small {g : GR} (ok : ∀ r ∈ g.nodes, r.OK 4096) (hsm : validB g = true → SM g) : RS (lstV g).1 := by
  unfold lstV
  split
  · rename_i hv
    split
    · rename_i hc
      have gv := validB_iff.1 hv
      have om4 : ∀ p ∈ mnL g, p.OK 4096 := fun p hp => (mn_ok gv (hsm hv) hc p hp).mono rfl
      have q := csR_le (g := g) (s := mnL g) ⟨gv, mnL_length g⟩ ok om4 g.links (fun l hl => hl) 0
      have z : ql (0 : Rat) ≤ 1 := ql_zero
      have := gv.l
      have q' : ql (lsQ g) ≤ 16777216 := by rw [← cs_mn gv]; unfold csR; omega
      have o := qzW_ok q'
      exact ⟨Nat.le_trans o.lp (by decide), Nat.le_trans o.lq (by decide)⟩
    · exact ⟨Nat.zero_le _, Nat.zero_le _⟩
  · exact ⟨Nat.zero_le _, Nat.zero_le _⟩
set_option maxHeartbeats 1000000 in
theorem lOrder_c (g : GR) (ch : List Nat) (hg : ∀ r ∈ g.nodes, r.W) (hch : ∀ b ∈ ch, b < 256) : Con Tryz.prog 5 [AG g.cs, V1 (dB8 ch)] { v := dB true } := by
  refine con_intro (fn := Tryz.f5) tok Tryz.func5 (by kernel_rfl) rfl ?_
  intro w0 X
  rw [entry_mkE _ _ [(0, AG g.cs), (1, V1 (dB8 ch))] rfl rfl];refine AWP_reg_seq tok fun K hK => ?_;refine s_box rfl rfl rfl rfl rfl rfl ?_;refine asQ ?_;refine s_end (hK _ ?_); clear hK K;refine AWP_seq ?_;refine a_join (α := Bool) (fun c => mk 113 [(1, V1 (dB8 ch)), (2, .ptr 2 0), (23, dB c)] [(2, some (.box g.cs))] []) (fun c => c = !few31 g) ?_ ?_
  · refine AWP_regW fun K hK => ?_;refine w_step tok rfl ?_;refine s_call rfl rfl (awake31_c) rfl rfl rfl rfl ?_;refine s_end ?_;refine w_step tok rfl ?_;refine s_un rfl rfl rfl ?_;refine s_end ?_;refine w_step tok rfl ?_;refine mvQ ?_;refine s_end ?_;refine w_split (fun h0 => ?_) (fun h0 => ?_)
    · refine w_skip rfl rfl ?_;refine w_skip rfl rfl ?_;refine w_skip rfl rfl ?_;refine w_step tok rfl ?_;refine piQ ?_;refine s_end ?_;refine w_end rfl (hK _ ?_); clear hK K
      first|(exact absurd h0 (by decide))|exact ⟨_, (by simp only [Bool.not_eq_true', Bool.not_eq_false'] at h0; simp only [h0, Bool.not_false, Bool.not_true]), Wk.mk' ⟨rfl, rfl, rfl, trivial⟩ ⟨rfl, trivial⟩⟩
    · refine w_step tok rfl ?_;refine ldQ ?_;refine s_end ?_;refine w_step tok rfl ?_;refine s_call rfl rfl (few31_c g) rfl rfl rfl rfl ?_;refine s_end ?_;refine w_step tok rfl ?_;refine s_un rfl rfl rfl ?_;refine s_end ?_;refine w_step tok rfl ?_;refine piQ ?_;refine s_end ?_;refine w_end rfl (hK _ ?_); clear hK K
      first|(exact absurd h0 (by decide))|exact ⟨_, (by simp only [Bool.not_eq_true', Bool.not_eq_false'] at h0; simp only [h0, Bool.not_false, Bool.not_true]), Wk.mk' ⟨rfl, rfl, rfl, trivial⟩ ⟨rfl, trivial⟩⟩
  rintro c rfl
  refine a_cond rfl (fun hc => ?_) (fun hc => ?_)
  · refine AWP_reg_seq tok fun K hK => ?_;refine s_call rfl rfl (awake31_c) rfl rfl rfl rfl ?_;refine asQ ?_;refine s_end (hK _ ?_); clear hK K;refine AWP_ret ?_
    repeat (with_reducible refine tq_ret ?_)
    exact post_ret (fin_mk (by rfl) (by rfl) (by rfl))
  rw [Bool.not_eq_false'] at hc
  obtain ⟨ok1, hsm, h49⟩ := few31_ok hg hc
  have ok : ∀ r ∈ g.nodes, r.OK 4096 := fun r hr => (ok1 r hr).mono rfl
  have cM := gMin_c g ok hsm
  have cL := gLst_c g ok hsm
  refine AWP_skip ?_;show AWP _ _ _ _ _ _;refine a_draw tok mixed (A := [[], [], [], [], [], [3], [0, 2, 3, 4], [], []]) (an := [{}, {}, {}, { c := [27] }, { c := [27] }, { d := [25] }, {}, { c := [27, 30] }, {}]) rfl (by kernel_rfl) rfl fun K hK => ?_;refine faQ ?_;refine ldQ ?_;refine s_buildSlice rfl rfl rfl rfl ?_;refine faQ ?_;refine ldQ ?_;refine s_append rfl (ap_o rfl rfl rfl rfl rfl rfl (by decide) (Nat.le_of_ble_eq_true rfl) rfl (fun e he => by obtain ⟨x, _, rfl⟩ := List.mem_map.1 he; rfl) rfl rfl rfl (by rw [List.length_map]; exact Nat.le_trans (by omega : 0 + g.links.length ≤ 1048576) (by decide))) rfl rfl rfl ?_;refine s_build rfl rfl rfl ?_;refine s_alloc rfl rfl rfl rfl rfl rfl ?_;refine s_storeB rfl rfl rfl rfl rfl ?_;refine s_end (hK _ ?_); clear hK K
  have z0 : ∀ a b : Nat, a = b → (SV.val (.one (.own 30 5 0 a)) = SV.val (.one (.own 30 5 0 b))) := fun a b h => by rw [h]
  refine a_keep [(1, V1 (dB8 ch)), (2, .ptr 2 0), (5, .ptr 5 0)] [(2, some (.box g.cs)), (5, some (.box [.d (dRs g.nodes), .own 30 5 0 g.links.length])), (30, some (.arr 5 (g.links.map LK.dc)))] ⟨rfl, rfl, rfl, trivial⟩ ⟨rfl, ?_, ?_, trivial⟩ ?_
  · show some (OO.box [.d (dRs g.nodes), .own 30 5 0 _]) = _
    simp
  · rfl
  refine AWP_reg_seq tok fun K hK => ?_;refine faQ ?_;refine ldQ ?_;refine s_blt rfl rfl rfl ?_;refine asQ ?_;refine s_end (hK _ ?_); clear hK K;refine AWP_seq ?_;refine AWP_reg_seq tok fun K hK => ?_;refine asQ ?_;refine s_end (hK _ ?_); clear hK K;refine AWP_block (a_loop (α := Nat × List LK) (fun p => mk 113 [(1, V1 (dB8 ch)), (2, .ptr 2 0), (5, .ptr 5 0), (6, dI g.links.length), (7, dI p.1)] [(2, some (.box g.cs)), (5, some (.box [.d (dRs g.nodes), .own 30 5 0 g.links.length])), (30, some (.arr 5 (p.2.map LK.dc)))] [5]) (fun p => p.1 ≤ g.links.length ∧ p.2.length = g.links.length ∧ g.links.Perm p.2) (fun p => g.links.length - p.1) (0, g.links) ?_ ⟨Nat.zero_le _, rfl, List.Perm.refl _⟩ ?_)
  · exact Wk.mk' ⟨rfl, rfl, rfl, rfl, rfl, trivial⟩ ⟨rfl, rfl, rfl, trivial⟩
  rintro ⟨i, L⟩ ⟨hi, hL, hp⟩
  simp only at hi hL hp ⊢
  refine AWP_seq ?_;refine a_join (α := Bool) (fun c => mk 113 [(1, V1 (dB8 ch)), (2, .ptr 2 0), (5, .ptr 5 0), (6, dI g.links.length), (7, dI i), (43, dB c)] [(2, some (.box g.cs)), (5, some (.box [.d (dRs g.nodes), .own 30 5 0 g.links.length])), (30, some (.arr 5 (L.map LK.dc)))] [5]) (fun c => c = decide (i < g.links.length ∧ i < ch.length)) ?_ ?_
  · refine AWP_regW fun K hK => ?_;refine w_step tok rfl ?_;refine mvQ ?_;refine s_end ?_;refine w_step tok rfl ?_;refine mvQ ?_;refine s_end ?_;refine w_step tok rfl ?_;refine biQ ?_;refine s_end ?_;refine w_step tok rfl ?_;refine mvQ ?_;refine s_end ?_;refine w_split (fun h0 => ?_) (fun h0 => ?_)
    · refine w_step tok rfl ?_;refine mvQ ?_;refine s_end ?_;refine w_step tok rfl ?_;refine mvQ ?_;refine s_end ?_;refine w_step tok rfl ?_;refine s_blt rfl (len_m b8 rfl rfl) rfl ?_;refine s_end ?_;refine w_step tok rfl ?_;refine biQ ?_;refine s_end ?_;refine w_step tok rfl ?_;refine piQ ?_;refine s_end ?_;refine w_end rfl (hK _ ?_); clear hK K;exact ⟨_, (by simp only [decide_eq_true_eq, decide_eq_false_iff_not] at h0; rw [Bool.eq_iff_iff]; simp only [decide_eq_true_eq, reduceCtorEq, false_iff]; omega), Wk.mk' ⟨rfl, rfl, rfl, rfl, rfl, rfl, trivial⟩ ⟨rfl, rfl, rfl, trivial⟩⟩
    · refine w_skip rfl rfl ?_;refine w_skip rfl rfl ?_;refine w_skip rfl rfl ?_;refine w_skip rfl rfl ?_;refine w_step tok rfl ?_;refine piQ ?_;refine s_end ?_;refine w_end rfl (hK _ ?_); clear hK K;exact ⟨_, (by simp only [decide_eq_true_eq, decide_eq_false_iff_not] at h0; rw [Bool.eq_iff_iff]; simp only [decide_eq_true_eq, reduceCtorEq, false_iff]; omega), Wk.mk' ⟨rfl, rfl, rfl, rfl, rfl, rfl, trivial⟩ ⟨rfl, rfl, rfl, trivial⟩⟩
  rintro c rfl
  refine a_cond rfl (fun hd => ?_) (fun hd => ?_)
  · obtain ⟨h1, h2⟩ := of_decide_eq_true hd
    obtain ⟨q, hq⟩ : ∃ q, ch[i] % (g.links.length - i) = q := ⟨_, rfl⟩
    have hql : q < g.links.length - i := by rw [← hq]; exact Nat.mod_lt _ (by omega)
    have hb := hch _ (List.getElem_mem h2)
    have k1 : i < L.length := by omega
    have k2 : i + q < L.length := by omega
    have gi : (L.map LK.dc)[i]? = some (L[i]).dc := by rw [List.getElem?_map, List.getElem?_eq_getElem k1]; rfl
    have gk : (L.map LK.dc)[i + q]? = some (L[i + q]).dc := by rw [List.getElem?_map, List.getElem?_eq_getElem k2]; rfl
    have hp2 := hp.trans (swap_perm k1 k2)
    refine AWP_skip ?_;show AWP _ _ _ _ _ _;refine AWP_seq ?_;refine AWP_block ?_;refine AWP_reg_seq tok fun K hK => ?_;refine mvQ ?_;refine mvQ ?_;refine mvQ ?_;refine s_indexAddr rfl (x_m b8 rfl rfl rfl rfl h2 rfl) rfl ?_;refine ldQ ?_;refine s_conv rfl (e_conv rfl rfl rfl (u8_i64 hb)) rfl ?_;refine mvQ ?_;refine mvQ ?_;refine s_bin rfl (e_sub (c := ((g.links.length - i : Nat) : Int)) (by omega) (by omega)) rfl ?_;refine s_bin rfl (e_remI (by omega) (by omega) hq) rfl ?_;refine s_bin rfl (e_add (c := ((i + q : Nat) : Int)) (by omega) (by omega)) rfl ?_;refine asQ ?_;refine s_end (hK _ ?_); clear hK K;refine a_draw1 tok mixed (A := [[], [], [], [], [], [], [], [], [], [6], [6, 7, 8], [], [], [], [11], [11, 12, 13], [11, 12, 13, 14], [11, 12, 13, 14], [], []]) (an := [{}, {}, {}, {}, {}, {}, {}, {}, {}, {}, {}, {}, {}, {}, {}, {}, {}, { d := [60] }, {}, {}]) rfl (by kernel_rfl) rfl fun K hK => ?_;refine faQ ?_;refine ldQ ?_;refine mvQ ?_;refine faQ ?_;refine ldQ ?_;refine mvQ ?_;refine faQ ?_;refine ldQ ?_;refine mvQ ?_;refine s_indexAddr rfl (x_o (i := i + q) (j := i + q) rfl rfl rfl rfl rfl (by omega) (Nat.zero_add _)) rfl ?_;refine s_load rfl (l_o rfl rfl gk rfl rfl) rfl ?_;refine faQ ?_;refine ldQ ?_;refine mvQ ?_;refine s_indexAddr rfl (x_o (i := i) (j := i) rfl rfl rfl rfl rfl (by omega) (Nat.zero_add _)) rfl ?_;refine s_load rfl (l_o rfl rfl gi rfl rfl) rfl ?_;refine s_indexAddr rfl (x_o (i := i) (j := i) rfl rfl rfl rfl rfl (by omega) (Nat.zero_add _)) rfl ?_;refine s_store rfl (st_K (l := L[i + q]) rfl rfl rfl k1) rfl rfl rfl ?_;refine s_indexAddr rfl (x_o (i := i + q) (j := i + q) rfl rfl rfl rfl rfl (by omega) (Nat.zero_add _)) rfl ?_;refine s_store rfl (st_K (l := L[i]) rfl rfl rfl (by rw [List.length_set]; exact k2)) rfl rfl rfl ?_;refine s_end (hK _ ?_); clear hK K;show AWP _ _ _ _ _ _;refine AWP_reg tok fun K hK => ?_;refine mvQ ?_;refine s_bin rfl (e_add (c := ((i + 1 : Nat) : Int)) (by omega) (by omega)) rfl ?_;refine asQ ?_;refine s_end (hK _ ?_); clear hK K;exact ⟨(i + 1, (L.set i L[i + q]).set (i + q) L[i]), (by show g.links.length - (i + 1) < g.links.length - i; omega), ⟨h1, by simp [hL], hp2⟩, Wk.mk' ⟨rfl, rfl, rfl, rfl, rfl, trivial⟩ ⟨rfl, rfl, rfl, trivial⟩⟩
  obtain ⟨N, A⟩ := g
  simp only at hL hp
  have pm := perm_min (N := N) hp
  have okB : ∀ r ∈ (GR.mk N L).nodes, r.OK 4096 := ok
  have hsB : validB ⟨N, L⟩ = true → SM ⟨N, L⟩ := fun hv => few31_links (g := ⟨N, A⟩) rfl hc (by
    have h1 := (of_decide_eq_true (Bool.and_eq_true _ _ |>.mp hc).1).2
    show L.length ≤ 10 ∨ L.length = 49
    have h1 : A.length ≤ 9 ∨ A.length = 49 := h1
    omega) hv ok1
  have cMb := gMin_c ⟨N, L⟩ okB hsB
  have cLb := gLst_c ⟨N, L⟩ okB hsB
  rw [← pm.1] at cMb;rw [← pm.2] at cLb
  have cS := spots_same (minV ⟨N, A⟩).1 (Nat.le_trans (min_len _) (by decide)) (min_small hsm)
  have cR := rat_same (lstV ⟨N, A⟩).1 (lst_small ok hsm)
  generalize minV ⟨N, A⟩ = m at cM cMb cS;generalize lstV ⟨N, A⟩ = n at cL cLb cR
  obtain ⟨m, e1⟩ := m
  obtain ⟨n, e2⟩ := n
  refine AWP_exit ?_;show AWP _ _ _ _ _ _;refine a_fz [2, 5] [2, 5, 30] 30 [(2, .ptr 2 0), (5, .ptr 5 0)] [(2, some (.box (GR.mk N A).cs)), (5, some (.box (GR.mk N L).cs))] rfl ⟨rfl, rfl, trivial⟩ ⟨rfl, ?_, trivial⟩ ?_
  · show some (OO.box [.d (dRs N), frzC 30 5 _ (.own 30 5 0 _)]) = _
    rw [frzC_own rfl (by rw [List.length_map]; exact hL.symm)]; rfl
  refine AWP_reg_seq tok fun K hK => ?_;refine ldQ ?_;refine s_call rfl rfl (cM) rfl rfl rfl rfl ?_;refine mvQ ?_;refine s_extract rfl rfl rfl ?_;refine s_extract rfl rfl rfl ?_;refine asQ ?_;refine asQ ?_;refine s_end (hK _ ?_); clear hK K;refine AWP_reg_seq tok fun K hK => ?_;refine ldQ ?_;refine s_call rfl rfl (cMb) rfl rfl rfl rfl ?_;refine mvQ ?_;refine s_extract rfl rfl rfl ?_;refine s_extract rfl rfl rfl ?_;refine asQ ?_;refine asQ ?_;refine s_end (hK _ ?_); clear hK K;refine AWP_reg_seq tok fun K hK => ?_;refine ldQ ?_;refine s_call rfl rfl (cL) rfl rfl rfl rfl ?_;refine mvQ ?_;refine s_extract rfl rfl rfl ?_;refine s_extract rfl rfl rfl ?_;refine s_alloc rfl rfl rfl rfl rfl rfl ?_;refine s_store rfl rfl rfl rfl rfl ?_;refine asQ ?_;refine s_end (hK _ ?_); clear hK K;refine AWP_reg_seq tok fun K hK => ?_;refine ldQ ?_;refine s_call rfl rfl (cLb) rfl rfl rfl rfl ?_;refine mvQ ?_;refine s_extract rfl rfl rfl ?_;refine s_extract rfl rfl rfl ?_;refine s_alloc rfl rfl rfl rfl rfl rfl ?_;refine s_store rfl rfl rfl rfl rfl ?_;refine asQ ?_;refine s_end (hK _ ?_); clear hK K;refine AWP_reg_seq tok fun K hK => ?_;refine mvQ ?_;refine mvQ ?_;refine s_bin rfl (e_eqI rfl) rfl ?_;refine mvQ ?_;refine mvQ ?_;refine mvQ ?_;refine s_call rfl rfl (cS) rfl rfl rfl rfl ?_;refine piQ ?_;refine mvQ ?_;refine mvQ ?_;refine mvQ ?_;refine s_bin rfl (e_eqI rfl) rfl ?_;refine piQ ?_;refine mvQ ?_;refine ldQ ?_;refine ldQ ?_;refine s_call rfl rfl (cR) rfl rfl rfl rfl ?_;refine piQ ?_;refine asQ ?_;refine s_end (hK _ ?_); clear hK K;refine AWP_ret ?_
  repeat (with_reducible refine tq_ret ?_)
  exact post_ret (fin_mk (by rfl) (by rfl) (by rfl))
end Go.Proofs.YtlnbkmkkiemcaaaGreatDoor

/- law31: Merges. No condition. -/
namespace Go.Proofs.YtlnbkmkkiemcaaaGreatDoor
attribute [local irreducible] lexA
open Go.RowKit

set_option maxHeartbeats 1000000 in
theorem lMerges_c (g : GR) (k v : Int) (hg : ∀ r ∈ g.nodes, r.W) (hk : I64 k) (hv : I64 v) : Con Tryz.prog 6 [AG g.cs, dI k, dI v] { v := dB true } := by
  have cV := gValid_c g
  refine con_intro (fn := Tryz.f6) tok Tryz.func6 (by kernel_rfl) rfl ?_
  intro w0 X
  rw [entry_mkE _ _ [(0, AG g.cs), (1, dI k), (2, dI v)] rfl rfl];refine AWP_reg_seq tok fun K hK => ?_;refine s_box rfl rfl rfl rfl rfl rfl ?_;refine asQ ?_;refine s_end (hK _ ?_); clear hK K;refine AWP_seq ?_;refine a_join (α := Bool) (fun c => mk 138 [(1, dI k), (2, dI v), (3, .ptr 3 0), (26, dB c)] [(3, some (.box g.cs))] []) (fun c => c = !few31 g) ?_ ?_
  · refine AWP_regW fun K hK => ?_;refine w_step tok rfl ?_;refine s_call rfl rfl (awake31_c) rfl rfl rfl rfl ?_;refine s_end ?_;refine w_step tok rfl ?_;refine s_un rfl rfl rfl ?_;refine s_end ?_;refine w_step tok rfl ?_;refine mvQ ?_;refine s_end ?_;refine w_split (fun h0 => ?_) (fun h0 => ?_)
    · refine w_skip rfl rfl ?_;refine w_skip rfl rfl ?_;refine w_skip rfl rfl ?_;refine w_step tok rfl ?_;refine piQ ?_;refine s_end ?_;refine w_end rfl (hK _ ?_); clear hK K
      first|(exact absurd h0 (by decide))|exact ⟨_, (by simp only [Bool.not_eq_true', Bool.not_eq_false'] at h0; simp only [h0, Bool.not_false, Bool.not_true]), Wk.mk' ⟨rfl, rfl, rfl, rfl, trivial⟩ ⟨rfl, trivial⟩⟩
    · refine w_step tok rfl ?_;refine ldQ ?_;refine s_end ?_;refine w_step tok rfl ?_;refine s_call rfl rfl (few31_c g) rfl rfl rfl rfl ?_;refine s_end ?_;refine w_step tok rfl ?_;refine s_un rfl rfl rfl ?_;refine s_end ?_;refine w_step tok rfl ?_;refine piQ ?_;refine s_end ?_;refine w_end rfl (hK _ ?_); clear hK K
      first|(exact absurd h0 (by decide))|exact ⟨_, (by simp only [Bool.not_eq_true', Bool.not_eq_false'] at h0; simp only [h0, Bool.not_false, Bool.not_true]), Wk.mk' ⟨rfl, rfl, rfl, rfl, trivial⟩ ⟨rfl, trivial⟩⟩
  rintro c rfl
  refine a_cond rfl (fun hc => ?_) (fun hc => ?_)
  · refine AWP_reg_seq tok fun K hK => ?_;refine s_call rfl rfl (awake31_c) rfl rfl rfl rfl ?_;refine asQ ?_;refine s_end (hK _ ?_); clear hK K;refine AWP_ret ?_
    repeat (with_reducible refine tq_ret ?_)
    exact post_ret (fin_mk (by rfl) (by rfl) (by rfl))
  rw [Bool.not_eq_false'] at hc
  obtain ⟨ok1, hsm, h49⟩ := few31_ok hg hc
  have ok : ∀ r ∈ g.nodes, r.OK 4096 := fun r hr => (ok1 r hr).mono rfl
  have cM := gMin_c g ok hsm
  have cL := gLst_c g ok hsm
  refine AWP_skip ?_;show AWP _ _ _ _ _ _
  by_cases hvl : validB g = true
  · have gv := validB_iff.1 hvl
    have l48 := gv.l
    rw [hvl] at cV
    have l9 : g.links.length ≤ 9 := by
      have := (of_decide_eq_true (Bool.and_eq_true _ _ |>.mp hc).1).2
      omega
    by_cases h0 : g.links.length = 0
    · refine AWP_seq ?_;refine AWP_reg_seq tok fun K hK => ?_;refine ldQ ?_;refine s_call rfl rfl (cV) rfl rfl rfl rfl ?_;refine s_un rfl rfl rfl ?_;refine mvQ ?_;refine faQ ?_;refine ldQ ?_;refine s_blt rfl (len_m LK.dc rfl rfl) rfl ?_;refine s_bin rfl (e_eqK (c := true) (by rw [h0]; rfl)) rfl ?_;refine piQ ?_;refine mvQ ?_;refine s_skip rfl ?_;refine s_skip rfl ?_;refine s_skip rfl ?_;refine s_skip rfl ?_;refine piQ ?_;refine s_end (hK _ ?_); clear hK K;refine a_cond rfl (fun _ => ?_) (fun h => by cases h);refine AWP_reg_seq tok fun K hK => ?_;refine ldQ ?_;refine s_call rfl rfl (cM) rfl rfl rfl rfl ?_;refine mvQ ?_;refine s_extract rfl rfl rfl ?_;refine s_extract rfl rfl rfl ?_;refine asQ ?_;refine asQ ?_;refine s_end (hK _ ?_); clear hK K;refine AWP_reg_seq tok fun K hK => ?_;refine ldQ ?_;refine s_call rfl rfl (cV) rfl rfl rfl rfl ?_;refine mvQ ?_;refine s_skip rfl ?_;refine s_skip rfl ?_;refine piQ ?_;refine asQ ?_;refine s_end (hK _ ?_); clear hK K;refine AWP_ret ?_
      repeat (with_reducible refine tq_ret ?_)
      exact post_ret (fin_mk (by rfl) (by rfl) (by rfl))
    refine AWP_seq ?_;refine AWP_reg_seq tok fun K hK => ?_;refine ldQ ?_;refine s_call rfl rfl (cV) rfl rfl rfl rfl ?_;refine s_un rfl rfl rfl ?_;refine mvQ ?_;refine faQ ?_;refine ldQ ?_;refine s_blt rfl (len_m LK.dc rfl rfl) rfl ?_;refine s_bin rfl (e_eqK (c := false) (by rw [beq_eq_false_iff_ne]; omega)) rfl ?_;refine piQ ?_;refine mvQ ?_;refine faQ ?_;refine ldQ ?_;refine s_blt rfl (len_m LK.dc rfl rfl) rfl ?_;refine s_bin rfl (e_geK (c := false) (decide_eq_false (by omega))) rfl ?_;refine piQ ?_;refine s_end (hK _ ?_); clear hK K;refine a_cond rfl (fun h => by cases h) (fun _ => ?_);refine AWP_skip ?_;show AWP _ _ _ _ _ _
    obtain ⟨N, A⟩ := g
    simp only at h0 l9
    obtain ⟨q, hq⟩ : ∃ q : Nat, k % (A.length : Int) = (q : Int) := ⟨(k % (A.length : Int)).toNat, by
      have := Int.emod_nonneg k (b := (A.length : Int)) (by omega); omega⟩
    have hql : q < A.length := by
      have := Int.emod_lt_of_pos k (b := (A.length : Int)) (by omega)
      omega
    have cK := bMod_c k (A.length : Int) hk (by omega) (by omega)
    rw [hq] at cK
    have lv : LV N.length A[q] := gLV gv A[q] (List.getElem_mem hql)
    have lw := lv.w
    have gq : (A.map LK.dc)[q]? = some (A[q]).dc := by rw [List.getElem?_map, List.getElem?_eq_getElem hql]; rfl
    refine AWP_reg_seq tok fun K hK => ?_;refine mvQ ?_;refine faQ ?_;refine ldQ ?_;refine s_blt rfl (len_m LK.dc rfl rfl) rfl ?_;refine s_call rfl rfl (cK) rfl rfl rfl rfl ?_;refine asQ ?_;refine s_end (hK _ ?_); clear hK K;refine AWP_reg_seq tok fun K hK => ?_;refine faQ ?_;refine ldQ ?_;refine mvQ ?_;refine s_indexAddr rfl (x_m LK.dc rfl rfl rfl rfl hql rfl) rfl ?_;refine faQ ?_;refine ldQ ?_;refine asQ ?_;refine s_end (hK _ ?_); clear hK K;refine AWP_seq ?_;refine AWP_reg_seq tok fun K hK => ?_;refine mvQ ?_;refine s_bin rfl (e_ltJ (c := decide (A[q].w < 2)) rfl) rfl ?_;refine s_end (hK _ ?_); clear hK K;refine a_cond rfl (fun hw => ?_) (fun hw => ?_)
    · refine AWP_reg_seq tok fun K hK => ?_;refine asQ ?_;refine s_end (hK _ ?_); clear hK K;refine AWP_ret ?_
      repeat (with_reducible refine tq_ret ?_)
      exact post_ret (fin_mk (by rfl) (by rfl) (by rfl))
    have hw := of_decide_eq_false hw
    have cW := bMod_c v (A[q].w - 1) hv (by omega) (by omega)
    have b0 := Int.emod_nonneg v (b := A[q].w - 1) (by omega)
    have b1 := Int.emod_lt_of_pos v (b := A[q].w - 1) (by omega)
    generalize v % (A[q].w - 1) = u at cW b0 b1
    obtain ⟨gB, pm1, pm2⟩ := part_min gv (by omega) hql (v := 1 + u) (by omega) (by omega)
    have hsB : validB ⟨N, A.set q (lkW A[q] (1 + u)) ++ [lkW A[q] (A[q].w - (1 + u))]⟩ = true → SM ⟨N, A.set q (lkW A[q] (1 + u)) ++ [lkW A[q] (A[q].w - (1 + u))]⟩ := fun hv => few31_links (g := ⟨N, A⟩) rfl hc (by
      left
      show (A.set q _ ++ [_]).length ≤ 10
      rw [List.length_append, List.length_set]; simp; omega) hv ok1
    have cMb := gMin_c ⟨N, A.set q (lkW A[q] (1 + u)) ++ [lkW A[q] (A[q].w - (1 + u))]⟩ ok hsB
    have cLb := gLst_c ⟨N, A.set q (lkW A[q] (1 + u)) ++ [lkW A[q] (A[q].w - (1 + u))]⟩ ok hsB
    rw [← pm1] at cMb;rw [← pm2] at cLb
    have cS := spots_same (minV ⟨N, A⟩).1 (Nat.le_trans (min_len _) (by decide)) (min_small hsm)
    have cR := rat_same (lstV ⟨N, A⟩).1 (lst_small ok hsm)
    generalize minV ⟨N, A⟩ = m at cM cMb cS;generalize lstV ⟨N, A⟩ = n at cL cLb cR
    obtain ⟨m, e1⟩ := m
    obtain ⟨n, e2⟩ := n
    refine AWP_skip ?_;show AWP _ _ _ _ _ _;refine AWP_reg_seq tok fun K hK => ?_;refine mvQ ?_;refine mvQ ?_;refine s_bin rfl (e_sub (c := A[q].w - 1) (by omega) (by omega)) rfl ?_;refine s_call rfl rfl (cW) rfl rfl rfl rfl ?_;refine s_bin rfl (e_add (c := 1 + u) (by omega) (by omega)) rfl ?_;refine asQ ?_;refine s_end (hK _ ?_); clear hK K;refine a_draw tok mixed (A := [[], [], [], [], [], [3], [0, 2, 3, 4], [], []]) (an := [{}, {}, {}, { c := [74] }, { c := [74] }, { d := [72] }, {}, { c := [74, 77] }, {}]) rfl (by kernel_rfl) rfl fun K hK => ?_;refine faQ ?_;refine ldQ ?_;refine s_buildSlice rfl rfl rfl rfl ?_;refine faQ ?_;refine ldQ ?_;refine s_append rfl (ap_o rfl rfl rfl rfl rfl rfl (by decide) (Nat.le_of_ble_eq_true rfl) rfl (fun e he => by obtain ⟨x, _, rfl⟩ := List.mem_map.1 he; rfl) rfl rfl rfl (by rw [List.length_map]; exact Nat.le_trans (by omega : 0 + A.length ≤ 1048576) (by decide))) rfl rfl rfl ?_;refine s_build rfl rfl rfl ?_;refine s_alloc rfl rfl rfl rfl rfl rfl ?_;refine s_storeB rfl rfl rfl rfl rfl ?_;refine s_end (hK _ ?_); clear hK K;refine a_keep [(1, dI q), (2, dI (1 + u)), (3, .ptr 3 0), (9, dI A[q].w), (10, .ptr 10 0)] [(3, some (.box (GR.mk N A).cs)), (10, some (.box [.d (dRs N), .own 77 5 0 A.length])), (77, some (.arr 5 (A.map LK.dc)))] ⟨rfl, rfl, rfl, rfl, rfl, trivial⟩ ⟨rfl, ?_, ?_, trivial⟩ ?_
    · show some (OO.box [.d (dRs N), .own 77 5 0 _]) = _
      simp
    · rfl
    refine AWP_reg_seq tok fun K hK => ?_;refine faQ ?_;refine ldQ ?_;refine mvQ ?_;refine s_indexAddr rfl (x_o (i := q) (j := q) rfl rfl rfl rfl rfl hql (Nat.zero_add _)) rfl ?_;refine s_load rfl (l_o rfl rfl gq rfl rfl) rfl ?_;refine s_alloc rfl rfl rfl rfl rfl rfl ?_;refine s_store rfl rfl rfl rfl rfl ?_;refine s_end (hK _ ?_); clear hK K;refine AWP_reg_seq tok fun K hK => ?_;refine mvQ ?_;refine mvQ ?_;refine s_bin rfl (e_sub (c := A[q].w - (1 + u)) (by omega) (by omega)) rfl ?_;refine faQ ?_;refine s_store rfl rfl rfl rfl rfl ?_;refine s_end (hK _ ?_); clear hK K;refine AWP_reg_seq tok fun K hK => ?_;refine faQ ?_;refine ldQ ?_;refine mvQ ?_;refine mvQ ?_;refine s_indexAddr rfl (x_o (i := q) (j := q) rfl rfl rfl rfl rfl hql (Nat.zero_add _)) rfl ?_;refine faQ ?_;refine s_store rfl (st_f (j := 4) (lI (1 + u)) rfl rfl rfl gq (by show 4 < 5; decide)) rfl rfl rfl ?_;refine s_end (hK _ ?_); clear hK K
    have e3 : (A.map LK.dc).set q ((A[q]).dc.set 4 (lI (1 + u))) = (A.set q (lkW A[q] (1 + u))).map LK.dc := by rw [List.map_set]; rfl
    rw [e3]
    have z1 : A.length = ((A.set q (lkW A[q] (1 + u))).map LK.dc).length := by simp
    refine AWP_reg_seq tok fun K hK => ?_;refine faQ ?_;refine ldQ ?_;refine ldQ ?_;refine s_buildSlice rfl rfl rfl rfl ?_;refine s_append rfl (ap_o rfl rfl rfl rfl rfl rfl (by decide) (Nat.le_of_ble_eq_true rfl) rfl (by simp) rfl rfl z1 (by simp <;> omega)) rfl rfl rfl ?_;refine faQ ?_;refine s_storeB rfl rfl rfl rfl rfl ?_;refine s_end (hK _ ?_); clear hK K
    have e4 : (A.set q (lkW A[q] (1 + u))).map LK.dc ++ [(lkW A[q] (A[q].w - (1 + u))).dc] = (A.set q (lkW A[q] (1 + u)) ++ [lkW A[q] (A[q].w - (1 + u))]).map LK.dc := by rw [List.map_append]; rfl
    refine a_fz [3, 10] [3, 10, 98] 98 [(3, .ptr 3 0), (10, .ptr 10 0)] [(3, some (.box (GR.mk N A).cs)), (10, some (.box (GR.mk N (A.set q (lkW A[q] (1 + u)) ++ [lkW A[q] (A[q].w - (1 + u))])).cs))] rfl ⟨rfl, rfl, trivial⟩ ⟨rfl, ?_, trivial⟩ ?_
    · have ez := frzC_own (id := 98) (sz := 5) (len := ((A.set q (lkW A[q] (1 + u))).map LK.dc ++ [(lkW A[q] (A[q].w - (1 + u))).dc]).length) e4 (by simp)
      exact Eq.trans rfl (congrArg (fun c => some (OO.box [.d (dRs N), c])) ez)
    refine AWP_reg_seq tok fun K hK => ?_;refine ldQ ?_;refine s_call rfl rfl (cM) rfl rfl rfl rfl ?_;refine mvQ ?_;refine s_extract rfl rfl rfl ?_;refine s_extract rfl rfl rfl ?_;refine asQ ?_;refine asQ ?_;refine s_end (hK _ ?_); clear hK K;refine AWP_reg_seq tok fun K hK => ?_;refine ldQ ?_;refine s_call rfl rfl (cMb) rfl rfl rfl rfl ?_;refine mvQ ?_;refine s_extract rfl rfl rfl ?_;refine s_extract rfl rfl rfl ?_;refine asQ ?_;refine asQ ?_;refine s_end (hK _ ?_); clear hK K;refine AWP_reg_seq tok fun K hK => ?_;refine ldQ ?_;refine s_call rfl rfl (cL) rfl rfl rfl rfl ?_;refine mvQ ?_;refine s_extract rfl rfl rfl ?_;refine s_extract rfl rfl rfl ?_;refine s_alloc rfl rfl rfl rfl rfl rfl ?_;refine s_store rfl rfl rfl rfl rfl ?_;refine asQ ?_;refine s_end (hK _ ?_); clear hK K;refine AWP_reg_seq tok fun K hK => ?_;refine ldQ ?_;refine s_call rfl rfl (cLb) rfl rfl rfl rfl ?_;refine mvQ ?_;refine s_extract rfl rfl rfl ?_;refine s_extract rfl rfl rfl ?_;refine s_alloc rfl rfl rfl rfl rfl rfl ?_;refine s_store rfl rfl rfl rfl rfl ?_;refine asQ ?_;refine s_end (hK _ ?_); clear hK K;refine AWP_reg_seq tok fun K hK => ?_;refine mvQ ?_;refine mvQ ?_;refine s_bin rfl (e_eqI rfl) rfl ?_;refine mvQ ?_;refine mvQ ?_;refine mvQ ?_;refine s_call rfl rfl (cS) rfl rfl rfl rfl ?_;refine piQ ?_;refine mvQ ?_;refine mvQ ?_;refine mvQ ?_;refine s_bin rfl (e_eqI rfl) rfl ?_;refine piQ ?_;refine mvQ ?_;refine ldQ ?_;refine ldQ ?_;refine s_call rfl rfl (cR) rfl rfl rfl rfl ?_;refine piQ ?_;refine asQ ?_;refine s_end (hK _ ?_); clear hK K;refine AWP_ret ?_
    repeat (with_reducible refine tq_ret ?_)
    exact post_ret (fin_mk (by rfl) (by rfl) (by rfl))
  · have hvl : validB g = false := by simpa using hvl
    rw [hvl] at cV
    have e1 : minV g = ([], 1) := by rw [minV, if_neg (by rw [hvl]; simp)]
    rw [e1] at cM;refine AWP_seq ?_;refine AWP_reg_seq tok fun K hK => ?_;refine ldQ ?_;refine s_call rfl rfl (cV) rfl rfl rfl rfl ?_;refine s_un rfl rfl rfl ?_;refine mvQ ?_;refine s_skip rfl ?_;refine s_skip rfl ?_;refine s_skip rfl ?_;refine s_skip rfl ?_;refine piQ ?_;refine mvQ ?_;refine s_skip rfl ?_;refine s_skip rfl ?_;refine s_skip rfl ?_;refine s_skip rfl ?_;refine piQ ?_;refine s_end (hK _ ?_); clear hK K;refine a_cond rfl (fun _ => ?_) (fun h => by cases h);refine AWP_reg_seq tok fun K hK => ?_;refine ldQ ?_;refine s_call rfl rfl (cM) rfl rfl rfl rfl ?_;refine mvQ ?_;refine s_extract rfl rfl rfl ?_;refine s_extract rfl rfl rfl ?_;refine asQ ?_;refine asQ ?_;refine s_end (hK _ ?_); clear hK K;refine AWP_reg_seq tok fun K hK => ?_;refine ldQ ?_;refine s_call rfl rfl (cV) rfl rfl rfl rfl ?_;refine mvQ ?_;refine mvQ ?_;refine biQ ?_;refine piQ ?_;refine asQ ?_;refine s_end (hK _ ?_); clear hK K;refine AWP_ret ?_
    repeat (with_reducible refine tq_ret ?_)
    exact post_ret (fin_mk (by rfl) (by rfl) (by rfl))
end Go.Proofs.YtlnbkmkkiemcaaaGreatDoor

/- solve: dot, Times, Form. law31: Form. No condition. -/
namespace Go.Proofs.YtlnbkmkkiemcaaaGreatDoor
attribute [local irreducible] lexA
open Go.RowKit

/-! ### dot -/
def dtS (a x : List RW) (k : Nat) : Rat := sm k fun i => rhsV a i * rhsV x i
theorem rhsV_at {a : List RW} {i : Nat} (h : i < a.length) : rhsV a i = (a[i]).v := by
  unfold rhsV; rw [List.getD_eq_getElem?_getD, List.getElem?_eq_getElem h]; rfl
theorem dtS_ql {a x : List RW} {A B : Nat} (ha : ∀ i, i < a.length → ql (rhsV a i) ≤ A) (hx : ∀ i, i < x.length → ql (rhsV x i) ≤ B) {k : Nat} (hk : k ≤ a.length) (hk' : k ≤ x.length) : ql (dtS a x k) ≤ 1 + k * (A + B + 1) :=
  ql_sm_le fun i hi => ql_mul_le (ha i (by omega)) (hx i (by omega))
theorem sDot_c (a x : List RW) (A B : Nat) (hl : a.length ≤ 16) (hlx : a.length ≤ x.length) (ha : ∀ r ∈ a, r.OK A) (hx : ∀ r ∈ x, r.OK B) (hA : 1 ≤ A ∧ A ≤ 400000) (hB : 1 ≤ B ∧ B ≤ 400000) : Con Tryz.prog 97 [V1 (dRs a), V1 (dRs x)] { v := AG (qzW (dtS a x a.length)).cs } := by
  have qa : ∀ i, i < a.length → ql (rhsV a i) ≤ A := fun i h => by rw [rhsV_at h]; exact (ha _ (List.getElem_mem h)).ql (Nat.ble_eq_true_of_le hA.1)
  have qx : ∀ i, i < x.length → ql (rhsV x i) ≤ B := fun i h => by rw [rhsV_at h]; exact (hx _ (List.getElem_mem h)).ql (Nat.ble_eq_true_of_le hB.1)
  refine con_intro (fn := Tryz.f97) tok Tryz.func97 (by kernel_rfl) rfl ?_
  intro w0 X
  rw [entry_mkE _ _ [(0, V1 (dRs a)), (1, V1 (dRs x))] rfl rfl];refine AWP_reg_seq tok fun K hK => ?_;refine s_alloc rfl rfl rfl rfl rfl rfl ?_;refine s_end (hK _ ?_); clear hK K;refine AWP_reg_seq tok fun K hK => ?_;refine s_call rfl rfl (sZero_c) rfl rfl rfl rfl ?_;refine s_alloc rfl rfl rfl rfl rfl rfl ?_;refine s_store rfl rfl rfl rfl rfl ?_;refine s_end (hK _ ?_); clear hK K;refine AWP_seq ?_;refine AWP_reg_seq tok fun K hK => ?_;refine mvQ ?_;refine s_blt rfl (len_m RW.dc rfl rfl) rfl ?_;refine mvQ ?_;refine s_end (hK _ ?_); clear hK K;refine AWP_block (a_loop (α := Nat) (fun i => mk 26 [(0, V1 (dRs a)), (1, V1 (dRs x)), (4, .ptr 4 0), (5, .ptr 5 0), (9, dI a.length), (10, dI i)] [(4, some (.box [.d (.lit (.bool false)), .nil, .d (.lit (.bool false)), .nil])), (5, some (.box (qzW (dtS a x i)).cs))] []) (fun i => i ≤ a.length) (fun i => a.length - i) 0 ?_ (Nat.zero_le _) ?_)
  · exact Wk.mk' ⟨rfl, rfl, rfl, rfl, rfl, rfl, trivial⟩ ⟨rfl, rfl, trivial⟩
  intro i hi
  refine AWP_reg_seq tok fun K hK => ?_;refine biQ ?_;refine s_end (hK _ ?_); clear hK K;refine AWP_seq ?_;refine a_cond rfl (fun hg => ?_) (fun hg => ?_)
  · have hg : i < a.length := by simp at hg; omega
    have hg2 : i < x.length := by omega
    have o1 := ha _ (List.getElem_mem hg)
    have o2 := hx _ (List.getElem_mem hg2)
    have q0 := dtS_ql qa qx (k := i) (by omega) (by omega)
    have q1 : ql (dtS a x i) ≤ 16777216 := by
      have h1 : i * (A + B + 1) ≤ 16 * (A + B + 1) := Nat.mul_le_mul_right _ (by omega)
      omega
    have q2 := ql_mul_le (qa i hg) (qx i hg2)
    have q3 : ql (rhsV a i * rhsV x i) ≤ 16777216 := by omega
    have c1 := qMul_t a[i] x[i] (rhsV a i * rhsV x i) ⟨o1.op, o1.oq, Nat.le_trans o1.lp (by omega), Nat.le_trans o1.lq (by omega)⟩ ⟨o2.op, o2.oq, Nat.le_trans o2.lp (by omega), Nat.le_trans o2.lq (by omega)⟩ (by rw [rhsV_at hg, rhsV_at hg2])
    have c2 := qAdd_t (qzW (dtS a x i)) (qzW (rhsV a i * rhsV x i)) (dtS a x (i + 1)) (qzW_ok q1) (qzW_ok q3) (by rw [qzW_v, qzW_v]; rfl)
    refine AWP_skip ?_;show AWP _ _ _ _ _ _;refine AWP_seq ?_;refine AWP_block ?_;refine AWP_reg_seq tok fun K hK => ?_;refine mvQ ?_;refine asQ ?_;refine s_end (hK _ ?_); clear hK K;refine a_draw1 tok mixed (A := [[], [], [], [], [1, 2], [], [], [], [5, 6], [1, 2, 3, 5, 6, 7], [1, 2, 3, 4, 5, 6, 7, 8], []]) (an := [{}, {}, {}, {}, {}, {}, {}, {}, {}, {}, {}, {}]) rfl (by kernel_rfl) rfl fun K hK => ?_;refine ldQ ?_;refine mvQ ?_;refine mvQ ?_;refine s_indexAddr rfl (x_m RW.dc rfl rfl rfl rfl hg rfl) rfl ?_;refine ldQ ?_;refine mvQ ?_;refine mvQ ?_;refine s_indexAddr rfl (x_m RW.dc rfl rfl rfl rfl hg2 rfl) rfl ?_;refine ldQ ?_;refine s_call rfl rfl (c1) rfl rfl rfl rfl ?_;refine s_call rfl rfl (c2) rfl rfl rfl rfl ?_;refine s_store rfl rfl rfl rfl rfl ?_;refine s_end (hK _ ?_); clear hK K;show AWP _ _ _ _ _ _;refine AWP_reg tok fun K hK => ?_;refine s_bin rfl (e_add (c := ((i + 1 : Nat) : Int)) (by omega) (by omega)) rfl ?_;refine mvQ ?_;refine s_end (hK _ ?_); clear hK K;exact ⟨i + 1, by omega, hg, Wk.mk' ⟨rfl, rfl, rfl, rfl, rfl, rfl, trivial⟩ ⟨rfl, rfl, trivial⟩⟩
  have hg : i = a.length := by simp at hg; omega
  subst hg
  refine AWP_exit ?_;show AWP _ _ _ _ _ _;refine AWP_reg_seq tok fun K hK => ?_;refine ldQ ?_;refine s_store rfl rfl rfl rfl rfl ?_;refine s_end (hK _ ?_); clear hK K;refine AWP_ret ?_
  repeat (with_reducible refine tq_ret ?_)
  exact post_ret (fin_mk (by rfl) (by rfl) (by rfl))
/-! ### Times and Form -/
def tmsV (m : List (List RW)) (x : List RW) : List RW × Int := if validM m = true ∧ x.length = m.length then (m.map fun r => qzW (dtS r x m.length), 0) else ([], 1)
set_option maxHeartbeats 1000000 in
theorem sTimes_c (m : List (List RW)) (x : List RW) (A B : Nat) (hl : m.length ≤ 9223372036854775806) (hr : ∀ r ∈ m, r.length ≤ 9223372036854775806) (ok : okM 65536 m) (ha : okM A m) (hx : ∀ r ∈ x, r.OK B) (hA : 1 ≤ A ∧ A ≤ 400000) (hB : 1 ≤ B ∧ B ≤ 400000) :
    Con Tryz.prog 96 [V1 (dMs m), V1 (dRs x)] { v := .tup [.one (.d (dRs (tmsV m x).1)), .one (.d (lI (tmsV m x).2))] } := by
  have cV := sValid_c m hl hr ok
  refine con_intro (fn := Tryz.f96) tok Tryz.func96 (by kernel_rfl) rfl ?_
  intro w0 X
  rw [entry_mkE _ _ [(0, V1 (dMs m)), (1, V1 (dRs x))] rfl rfl];refine AWP_reg_seq tok fun K hK => ?_;refine asQ ?_;refine asQ ?_;refine s_end (hK _ ?_); clear hK K
  by_cases hc : validM m = true ∧ x.length = m.length
  · obtain ⟨hv, hlx⟩ := hc
    rw [tmsV, if_pos ⟨hv, hlx⟩];rw [hv] at cV
    have hV := of_decide_eq_true hv
    have n16 := hV.1
    refine AWP_seq ?_;refine AWP_reg_seq tok fun K hK => ?_;refine mvQ ?_;refine s_call rfl rfl (cV) rfl rfl rfl rfl ?_;refine s_un rfl rfl rfl ?_;refine mvQ ?_;refine mvQ ?_;refine s_blt rfl (len_m RW.dc rfl rfl) rfl ?_;refine mvQ ?_;refine s_blt rfl (len_m cM rfl rfl) rfl ?_;refine s_bin rfl (e_neK (c := false) (by simp [hlx])) rfl ?_;refine piQ ?_;refine s_end (hK _ ?_); clear hK K;refine a_cond rfl (fun h => by cases h) (fun _ => ?_);refine AWP_skip ?_;show AWP _ _ _ _ _ _;refine AWP_reg_seq tok fun K hK => ?_;refine asQ ?_;refine s_end (hK _ ?_); clear hK K;refine AWP_seq ?_;refine AWP_reg_seq tok fun K hK => ?_;refine mvQ ?_;refine s_blt rfl (len_m cM rfl rfl) rfl ?_;refine mvQ ?_;refine s_end (hK _ ?_); clear hK K;refine AWP_block (a_loop (α := Nat) (fun i => mk 33 [(1, V1 (dRs x)), (6, ownN 200 4 i), (19, V1 (dMs m)), (20, dI m.length), (21, dI i)] [(200, arrN 4 (((m.take i).map fun r => qzW (dtS r x m.length)).map RW.dc) i)] []) (fun i => i ≤ m.length) (fun i => m.length - i) 0 ?_ (Nat.zero_le _) ?_)
    · exact Wk.mk' ⟨rfl, rfl, rfl, rfl, rfl, trivial⟩ ⟨rfl, trivial⟩
    intro i hi
    refine AWP_reg_seq tok fun K hK => ?_;refine biQ ?_;refine s_end (hK _ ?_); clear hK K;refine AWP_seq ?_;refine a_cond rfl (fun hg => ?_) (fun hg => ?_)
    · have hg : i < m.length := by simp at hg; omega
      have hrl : m[i].length = m.length := hV.2.1 _ (List.getElem_mem hg)
      have cD := sDot_c m[i] x A B (by omega) (by omega) (fun r hr => ha _ (List.getElem_mem hg) r hr) hx hA hB
      rw [hrl] at cD
      have n1 : ((m.take i).map fun r => qzW (dtS r x m.length)).map RW.dc ++ [(qzW (dtS m[i] x m.length)).dc] = ((m.take (i + 1)).map fun r => qzW (dtS r x m.length)).map RW.dc := by
        rw [List.take_succ_eq_append_getElem hg, List.map_append, List.map_append]; rfl
      have z1 : (((m.take i).map fun r => qzW (dtS r x m.length)).map RW.dc).length = i := by simp; omega
      generalize qzW (dtS m[i] x m.length) = q at cD n1;generalize ((m.take i).map fun r => qzW (dtS r x m.length)).map RW.dc = es at n1 z1 ⊢;refine AWP_skip ?_;show AWP _ _ _ _ _ _;refine AWP_seq ?_;refine AWP_block ?_
      rcases i with _ | i
      · refine AWP_reg_seq tok fun K hK => ?_;refine s_indexAddr rfl (x_m cM rfl rfl rfl rfl hg rfl) rfl ?_;refine ldQ ?_;refine asQ ?_;refine s_end (hK _ ?_); clear hK K;refine AWP_reg tok fun K hK => ?_;refine mvQ ?_;refine mvQ ?_;refine mvQ ?_;refine s_call rfl rfl (cD) rfl rfl rfl rfl ?_;refine s_buildSlice rfl rfl rfl rfl ?_;refine s_append rfl (ap_nil rfl rfl rfl rfl rfl (by decide) (Nat.le_of_ble_eq_true rfl) rfl (by simp) rfl (by simp) (by simp)) rfl rfl rfl ?_;refine asQ ?_;refine s_end (hK _ ?_); clear hK K;show AWP _ _ _ _ _ _;refine AWP_reg tok fun K hK => ?_;refine s_bin rfl (e_add (c := ((0 + 1 : Nat) : Int)) (by omega) (by omega)) rfl ?_;refine mvQ ?_;refine s_end (hK _ ?_); clear hK K;refine ⟨0 + 1, by omega, hg, Wk.rn [1, 6, 19, 20, 21] [30] 30 200 rfl rfl rfl ⟨rfl, ?_, rfl, rfl, rfl, trivial⟩ ⟨?_, trivial⟩⟩
        · first
            | rfl
            | (show SV.val (.one (.own 200 4 0 _)) = _
               rw [List.length_append, z1]; rfl)
        · first
            | (rw [← n1, List.length_eq_zero_iff.1 z1]; rfl)
            | (rw [← n1]; rfl)
      · refine AWP_reg_seq tok fun K hK => ?_;refine s_indexAddr rfl (x_m cM rfl rfl rfl rfl hg rfl) rfl ?_;refine ldQ ?_;refine asQ ?_;refine s_end (hK _ ?_); clear hK K;refine AWP_reg tok fun K hK => ?_;refine mvQ ?_;refine mvQ ?_;refine mvQ ?_;refine s_call rfl rfl (cD) rfl rfl rfl rfl ?_;refine s_buildSlice rfl rfl rfl rfl ?_;refine s_append rfl (ap_o rfl rfl rfl rfl rfl rfl (by decide) (Nat.le_of_ble_eq_true rfl) rfl (by simp) rfl rfl z1.symm (by simp <;> omega)) rfl rfl rfl ?_;refine asQ ?_;refine s_end (hK _ ?_); clear hK K;show AWP _ _ _ _ _ _;refine AWP_reg tok fun K hK => ?_;refine s_bin rfl (e_add (c := ((i + 1 + 1 : Nat) : Int)) (by omega) (by omega)) rfl ?_;refine mvQ ?_;refine s_end (hK _ ?_); clear hK K;refine ⟨i + 1 + 1, by omega, hg, Wk.rn [1, 6, 19, 20, 21] [30] 30 200 rfl rfl rfl ⟨rfl, ?_, rfl, rfl, rfl, trivial⟩ ⟨?_, trivial⟩⟩
        · first
            | rfl
            | (show SV.val (.one (.own 200 4 0 _)) = _
               rw [List.length_append, z1]; rfl)
        · first
            | (rw [← n1, List.length_eq_zero_iff.1 z1]; rfl)
            | (rw [← n1]; rfl)
    have hg : i = m.length := by simp at hg; omega
    subst hg
    rw [List.take_length]
    have zL : (m.map fun r => qzW (dtS r x m.length)).length = m.length := List.length_map _
    generalize (m.map fun r => qzW (dtS r x m.length)) = LL at zL ⊢;rw [← zL];refine AWP_exit ?_;show AWP _ _ _ _ _ _
    rcases LL with _ | ⟨l, LL⟩
    · refine AWP_reg_seq tok fun K hK => ?_;refine mvQ ?_;refine asQ ?_;refine asQ ?_;refine s_end (hK _ ?_); clear hK K;refine AWP_ret ?_
      repeat (with_reducible refine tq_ret ?_)
      exact post_ret (fin_mk (by rfl) (by rfl) (by rfl))
    · refine a_fz [6] [200] 200 [(6, V1 (dRs (l :: LL)))] [] rfl ?_ trivial ?_
      · exact ⟨frz_own rfl (by simp), trivial⟩
      refine AWP_reg_seq tok fun K hK => ?_;refine mvQ ?_;refine asQ ?_;refine asQ ?_;refine s_end (hK _ ?_); clear hK K;refine AWP_ret ?_
      repeat (with_reducible refine tq_ret ?_)
      exact post_ret (fin_mk (by rfl) (by rfl) (by rfl))
  · rw [tmsV, if_neg hc]
    by_cases hv : validM m = true
    · have hlx : x.length ≠ m.length := fun h => hc ⟨hv, h⟩
      rw [hv] at cV;refine AWP_seq ?_;refine AWP_reg_seq tok fun K hK => ?_;refine mvQ ?_;refine s_call rfl rfl (cV) rfl rfl rfl rfl ?_;refine s_un rfl rfl rfl ?_;refine mvQ ?_;refine mvQ ?_;refine s_blt rfl (len_m RW.dc rfl rfl) rfl ?_;refine mvQ ?_;refine s_blt rfl (len_m cM rfl rfl) rfl ?_;refine s_bin rfl (e_neK (c := true) (by simp; omega)) rfl ?_;refine piQ ?_;refine s_end (hK _ ?_); clear hK K;refine a_cond rfl (fun _ => ?_) (fun h => by cases h);refine AWP_reg_seq tok fun K hK => ?_;refine asQ ?_;refine asQ ?_;refine s_end (hK _ ?_); clear hK K;refine AWP_ret ?_
      repeat (with_reducible refine tq_ret ?_)
      exact post_ret (fin_mk (by rfl) (by rfl) (by rfl))
    · have hv : validM m = false := by simpa using hv
      rw [hv] at cV;refine AWP_seq ?_;refine AWP_reg_seq tok fun K hK => ?_;refine mvQ ?_;refine s_call rfl rfl (cV) rfl rfl rfl rfl ?_;refine s_un rfl rfl rfl ?_;refine mvQ ?_;refine s_skip rfl ?_;refine s_skip rfl ?_;refine s_skip rfl ?_;refine s_skip rfl ?_;refine s_skip rfl ?_;refine piQ ?_;refine s_end (hK _ ?_); clear hK K;refine a_cond rfl (fun _ => ?_) (fun h => by cases h);refine AWP_reg_seq tok fun K hK => ?_;refine asQ ?_;refine asQ ?_;refine s_end (hK _ ?_); clear hK K;refine AWP_ret ?_
      repeat (with_reducible refine tq_ret ?_)
      exact post_ret (fin_mk (by rfl) (by rfl) (by rfl))
def frmV (m : List (List RW)) (x : List RW) : RW × Int := if validM m = true ∧ x.length = m.length then (qzW (fm m.length (matV m) (rhsV x)), 0) else (rw00, 1)
theorem mat_row {m : List (List RW)} {i j : Nat} (h : i < m.length) : rhsV m[i] j = matV m i j := by
  unfold rhsV matV mtv
  rw [List.getD_eq_getElem?_getD (l := m), List.getElem?_eq_getElem h]; rfl
theorem sForm_c (m : List (List RW)) (x : List RW) (A B : Nat) (hl : m.length ≤ 9223372036854775806) (hr : ∀ r ∈ m, r.length ≤ 9223372036854775806) (ok : okM 65536 m) (ha : okM A m) (hx : ∀ r ∈ x, r.OK B) (hA : 1 ≤ A ∧ A ≤ 12000) (hB : 1 ≤ B ∧ B ≤ 12000) :
    Con Tryz.prog 42 [V1 (dMs m), V1 (dRs x)] { v := .tup [.agg (frmV m x).1.cs, .one (.d (lI (frmV m x).2))] } := by
  have cT := sTimes_c m x A B hl hr ok ha hx (by omega) (by omega)
  refine con_intro (fn := Tryz.f42) tok Tryz.func42 (by kernel_rfl) rfl ?_
  intro w0 X
  rw [entry_mkE _ _ [(0, V1 (dMs m)), (1, V1 (dRs x))] rfl rfl];refine AWP_reg_seq tok fun K hK => ?_;refine s_alloc rfl rfl rfl rfl rfl rfl ?_;refine asQ ?_;refine s_end (hK _ ?_); clear hK K
  by_cases hc : validM m = true ∧ x.length = m.length
  · obtain ⟨hv, hlx⟩ := hc
    rw [frmV, if_pos ⟨hv, hlx⟩];rw [tmsV, if_pos ⟨hv, hlx⟩] at cT
    have hV := of_decide_eq_true hv
    have n16 := hV.1
    have hly : (m.map fun r => qzW (dtS r x m.length)).length = m.length := List.length_map _
    have oy : ∀ r ∈ (m.map fun r => qzW (dtS r x m.length)), r.OK 400000 := fun r hr => by
      obtain ⟨t, ht, rfl⟩ := List.mem_map.1 hr
      have q := dtS_ql (a := t) (x := x) (A := A) (B := B) (fun i h => by rw [rhsV_at h]; exact (ha t ht _ (List.getElem_mem h)).ql (Nat.ble_eq_true_of_le hA.1)) (fun i h => by rw [rhsV_at h]; exact (hx _ (List.getElem_mem h)).ql (Nat.ble_eq_true_of_le hB.1)) (k := m.length) (by rw [hV.2.1 t ht]; omega) (by omega)
      have h1 : m.length * (A + B + 1) ≤ 16 * (A + B + 1) := Nat.mul_le_mul_right _ n16
      exact qzW_ok (by omega)
    have cD := sDot_c x (m.map fun r => qzW (dtS r x m.length)) B 400000 (by omega) (by omega) hx oy (by omega) (by omega)
    have eD : dtS x (m.map fun r => qzW (dtS r x m.length)) x.length = fm m.length (matV m) (rhsV x) := by
      rw [hlx]
      unfold fm
      refine sm_congr fun i hi => ?_
      have : rhsV (m.map fun r => qzW (dtS r x m.length)) i = dtS m[i] x m.length := by
        rw [rhsV_at (by omega), List.getElem_map, qzW_v]
      rw [this]
      congr 1
      exact sm_congr fun j hj => by rw [mat_row hi]
    rw [eD] at cD;generalize (m.map fun r => qzW (dtS r x m.length)) = y at cT cD;refine AWP_reg_seq tok fun K hK => ?_;refine mvQ ?_;refine mvQ ?_;refine s_call rfl rfl (cT) rfl rfl rfl rfl ?_;refine mvQ ?_;refine s_extract rfl rfl rfl ?_;refine s_extract rfl rfl rfl ?_;refine asQ ?_;refine asQ ?_;refine s_end (hK _ ?_); clear hK K;refine AWP_seq ?_;refine AWP_reg_seq tok fun K hK => ?_;refine mvQ ?_;refine biQ ?_;refine s_end (hK _ ?_); clear hK K;refine a_cond rfl (fun h => by cases h) (fun _ => ?_);refine AWP_skip ?_;show AWP _ _ _ _ _ _;refine AWP_reg_seq tok fun K hK => ?_;refine mvQ ?_;refine mvQ ?_;refine s_call rfl rfl (cD) rfl rfl rfl rfl ?_;refine s_store rfl rfl rfl rfl rfl ?_;refine asQ ?_;refine s_end (hK _ ?_); clear hK K;refine AWP_ret ?_
    repeat (with_reducible refine tq_ret ?_)
    exact post_ret (fin_mk (by rfl) (by rfl) (by rfl))
  · rw [frmV, if_neg hc];rw [tmsV, if_neg hc] at cT;refine AWP_reg_seq tok fun K hK => ?_;refine mvQ ?_;refine mvQ ?_;refine s_call rfl rfl (cT) rfl rfl rfl rfl ?_;refine mvQ ?_;refine s_extract rfl rfl rfl ?_;refine s_extract rfl rfl rfl ?_;refine asQ ?_;refine asQ ?_;refine s_end (hK _ ?_); clear hK K;refine AWP_seq ?_;refine AWP_reg_seq tok fun K hK => ?_;refine mvQ ?_;refine biQ ?_;refine s_end (hK _ ?_); clear hK K;refine a_cond rfl (fun _ => ?_) (fun h => by cases h);refine AWP_reg_seq tok fun K hK => ?_;refine s_build rfl rfl rfl ?_;refine mvQ ?_;refine s_store rfl rfl rfl rfl rfl ?_;refine asQ ?_;refine s_end (hK _ ?_); clear hK K;refine AWP_ret ?_
    repeat (with_reducible refine tq_ret ?_)
    exact post_ret (fin_mk (by rfl) (by rfl) (by rfl))
end Go.Proofs.YtlnbkmkkiemcaaaGreatDoor
