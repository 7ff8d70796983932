/- Part of a proof that a Go function answers true for every input. No condition. -/
import Derived.Test.YtlnbkmkkiemcaaaGreatDoorC4
set_option linter.unusedVariables false
set_option linter.unusedSimpArgs false
set_option linter.unusedSectionVars false
/- adjust: Worst, Graph; awake. No condition. -/
namespace Go.Proofs.YtlnbkmkkiemcaaaGreatDoor
attribute [local irreducible] lexA
open Go.RowKit

theorem sCloneL_c (ls : List LK) (hn : ls.length ≤ 1048576) : Con Tryz.prog 99 [V1 (dLs ls)] { v := V1 (dLs ls) } := by
  refine con_intro (fn := Tryz.f99) tok Tryz.func99 (by kernel_rfl) rfl ?_
  intro w0 X
  rw [entry_mkE _ _ [(0, V1 (dLs ls))] rfl rfl];refine AWP_reg_seq tok fun K hK => ?_;refine asQ ?_;refine s_end (hK _ ?_); clear hK K;refine AWP_seq ?_;refine AWP_isNil (es := ls.map LK.dc) tok rfl rfl rfl rfl rfl rfl rfl rfl rfl rfl fun b hb => ?_;rw [put_mk, put_mk];refine a_cond rfl (fun hc => ?_) (fun hc => ?_)
  · have : ls = [] := by have := hb hc; simpa using this
    subst this
    refine AWP_reg_seq tok fun K hK => ?_;refine asQ ?_;refine s_end (hK _ ?_); clear hK K;refine AWP_ret ?_
    repeat (with_reducible refine tq_ret ?_)
    exact post_ret (fin_mk (by rfl) (by rfl) (by rfl))
  · refine AWP_skip ?_;show AWP _ _ _ _ _ _;refine AWP_reg_seq tok fun K hK => ?_;refine s_buildSlice rfl rfl rfl rfl ?_;refine mvQ ?_;refine s_append rfl (ap_o (es := []) rfl rfl rfl rfl rfl rfl (by decide) (Nat.le_of_ble_eq_true rfl) rfl (fun e he => by obtain ⟨x, _, rfl⟩ := List.mem_map.1 he; rfl) rfl rfl rfl (by simp; omega)) rfl rfl rfl ?_;refine asQ ?_;refine s_end (hK _ ?_); clear hK K;refine a_fz [2] [7] 7 [(2, V1 (dLs ls))] [] rfl ?_ trivial ?_
    · exact ⟨frz_own (List.nil_append _) (by simp), trivial⟩
    refine AWP_ret ?_
    repeat (with_reducible refine tq_ret ?_)
    exact post_ret (fin_mk (by rfl) (by rfl) (by rfl))
set_option maxHeartbeats 1000000 in
theorem aGraph_c (ns : List RW) (ls : List LK) (ok : ∀ r ∈ ns, r.OK 268435456) (hn : ns.length ≤ 1048576) (hl : ls.length ≤ 1048576) : Con Tryz.prog 48 [.pd [dRs ns, dLs ls]] { v := AG (GR.mk (ns.map fun r => pz2 r.cn) ls).cs } := by
  have cC := sCloneL_c ls hl
  refine con_intro (fn := Tryz.f48) tok Tryz.func48 (by kernel_rfl) rfl ?_
  intro w0 X
  rw [entry_mkE _ _ [(0, .pd [dRs ns, dLs ls])] rfl rfl];refine AWP_reg_seq tok fun K hK => ?_;refine s_alloc rfl rfl rfl rfl rfl rfl ?_;refine s_end (hK _ ?_); clear hK K;refine AWP_seq ?_;refine AWP_regW_seq fun K hK => ?_;refine w_step tok rfl ?_;refine mvQ ?_;refine s_end ?_;refine w_peq (e := 133) rfl rfl rfl (by kernel_rfl) ?_;refine w_end rfl (hK _ ?_); clear hK K;refine a_cond rfl (fun h => by cases h) (fun _ => ?_);refine AWP_skip ?_;show AWP _ _ _ _ _ _;refine AWP_regW_seq fun K hK => ?_;refine w_step tok rfl ?_;refine mvQ ?_;refine s_end ?_;refine w_nil rfl rfl rfl ?_;refine w_step tok rfl ?_;refine faQ ?_;refine s_end ?_;refine w_step tok rfl ?_;refine faQ ?_;refine s_end ?_;refine w_step tok rfl ?_;refine ldQ ?_;refine s_end ?_;refine w_step tok rfl ?_;refine s_call rfl rfl (cC) rfl rfl rfl rfl ?_;refine s_end ?_;refine w_step tok rfl ?_;refine s_build rfl rfl rfl ?_;refine s_end ?_;refine w_step tok rfl ?_;refine s_alloc rfl rfl rfl rfl rfl rfl ?_;refine s_end ?_;refine w_step tok rfl ?_;refine s_store rfl rfl rfl rfl rfl ?_;refine s_end ?_;refine w_end rfl (hK _ ?_); clear hK K;refine AWP_seq ?_;refine AWP_regW_seq fun K hK => ?_;refine w_step tok rfl ?_;refine mvQ ?_;refine s_end ?_;refine w_nil rfl rfl rfl ?_;refine w_step tok rfl ?_;refine faQ ?_;refine s_end ?_;refine w_step tok rfl ?_;refine faQ ?_;refine s_end ?_;refine w_step tok rfl ?_;refine ldQ ?_;refine s_end ?_;refine w_step tok rfl ?_;refine s_blt rfl (len_m RW.dc rfl rfl) rfl ?_;refine s_end ?_;refine w_step tok rfl ?_;refine mvQ ?_;refine s_end ?_;refine w_end rfl (hK _ ?_); clear hK K;refine AWP_block (a_loop (α := Nat) (fun i => mk 35 [(2, .ptr 2 0), (3, .ptr 3 0), (20, V1 (dRs ns)), (21, dI ns.length), (22, dI i)] [(2, some (.box [.nil, .nil])), (3, some (.box [ownC 200 4 i, .d (dLs ls)])), (200, arrN 4 (((ns.take i).map fun r => pz2 r.cn).map RW.dc) i)] [3]) (fun i => i ≤ ns.length) (fun i => ns.length - i) 0 ?_ (Nat.zero_le _) ?_)
  · exact Wk.trans (Wk.rbE rfl) (Wk.mk' ⟨rfl, rfl, rfl, rfl, rfl, trivial⟩ ⟨rfl, rfl, rfl, trivial⟩)
  intro i hi
  refine AWP_reg_seq tok fun K hK => ?_;refine biQ ?_;refine s_end (hK _ ?_); clear hK K;refine AWP_seq ?_;refine a_cond rfl (fun hg => ?_) (fun hg => ?_)
  · have hg : i < ns.length := by simp at hg; omega
    have cN := tNorm_t ns[i] (ok _ (List.getElem_mem hg))
    have n1 : ((ns.take i).map fun r => pz2 r.cn).map RW.dc ++ [(pz2 (ns[i]).cn).dc] = ((ns.take (i + 1)).map fun r => pz2 r.cn).map RW.dc := by
      rw [List.take_succ_eq_append_getElem hg, List.map_append, List.map_append]; rfl
    have z1 : (((ns.take i).map fun r => pz2 r.cn).map RW.dc).length = i := by simp; omega
    generalize pz2 (ns[i]).cn = q at cN n1;generalize ((ns.take i).map fun r => pz2 r.cn).map RW.dc = es at n1 z1 ⊢;refine AWP_skip ?_;show AWP _ _ _ _ _ _;refine AWP_seq ?_;refine AWP_block ?_
    rcases i with _ | i
    · refine AWP_reg_seq tok fun K hK => ?_;refine s_indexAddr rfl (x_m RW.dc rfl rfl rfl rfl hg rfl) rfl ?_;refine ldQ ?_;refine s_alloc rfl rfl rfl rfl rfl rfl ?_;refine s_store rfl rfl rfl rfl rfl ?_;refine s_end (hK _ ?_); clear hK K;refine a_draw1 tok mixed (A := [[], [], [], [], [2], [0, 2], [], []]) (an := [{}, {}, {}, {}, {}, {}, {}, {}]) rfl (by kernel_rfl) rfl fun K hK => ?_;refine faQ ?_;refine ldQ ?_;refine ldQ ?_;refine s_call rfl rfl (cN) rfl rfl rfl rfl ?_;refine s_buildSlice rfl rfl rfl rfl ?_;refine s_append rfl (ap_nil rfl rfl rfl rfl rfl (by decide) (Nat.le_of_ble_eq_true rfl) rfl (by simp) rfl (by simp) (by simp)) rfl rfl rfl ?_;refine faQ ?_;refine s_storeB rfl rfl rfl rfl rfl ?_;refine s_end (hK _ ?_); clear hK K;show AWP _ _ _ _ _ _;refine AWP_reg tok fun K hK => ?_;refine s_bin rfl (e_add (c := ((0 + 1 : Nat) : Int)) (by omega) (by omega)) rfl ?_;refine mvQ ?_;refine s_end (hK _ ?_); clear hK K;refine ⟨0 + 1, by omega, hg, Wk.rnB [2, 3, 20, 21, 22] [2, 3, 31] 31 200 rfl rfl rfl ⟨rfl, rfl, rfl, rfl, rfl, trivial⟩ ⟨rfl, ?_, ?_, trivial⟩ rfl⟩
      · first
          | rfl
          | (show some (OO.box [.own 200 4 0 _, _]) = _
             rw [List.length_append, z1]; rfl)
      · first
          | (rw [← n1, List.length_eq_zero_iff.1 z1]; rfl)
          | (rw [← n1]; rfl)
    · refine AWP_reg_seq tok fun K hK => ?_;refine s_indexAddr rfl (x_m RW.dc rfl rfl rfl rfl hg rfl) rfl ?_;refine ldQ ?_;refine s_alloc rfl rfl rfl rfl rfl rfl ?_;refine s_store rfl rfl rfl rfl rfl ?_;refine s_end (hK _ ?_); clear hK K;refine a_draw1 tok mixed (A := [[], [], [], [], [2], [0, 2], [], []]) (an := [{}, {}, {}, {}, {}, {}, {}, {}]) rfl (by kernel_rfl) rfl fun K hK => ?_;refine faQ ?_;refine ldQ ?_;refine ldQ ?_;refine s_call rfl rfl (cN) rfl rfl rfl rfl ?_;refine s_buildSlice rfl rfl rfl rfl ?_;refine s_append rfl (ap_o rfl rfl rfl rfl rfl rfl (by decide) (Nat.le_of_ble_eq_true rfl) rfl (by simp) rfl rfl z1.symm (by simp <;> omega)) rfl rfl rfl ?_;refine faQ ?_;refine s_storeB rfl rfl rfl rfl rfl ?_;refine s_end (hK _ ?_); clear hK K;show AWP _ _ _ _ _ _;refine AWP_reg tok fun K hK => ?_;refine s_bin rfl (e_add (c := ((i + 1 + 1 : Nat) : Int)) (by omega) (by omega)) rfl ?_;refine mvQ ?_;refine s_end (hK _ ?_); clear hK K;refine ⟨i + 1 + 1, by omega, hg, Wk.rnB [2, 3, 20, 21, 22] [2, 3, 31] 31 200 rfl rfl rfl ⟨rfl, rfl, rfl, rfl, rfl, trivial⟩ ⟨rfl, ?_, ?_, trivial⟩ rfl⟩
      · first
          | rfl
          | (show some (OO.box [.own 200 4 0 _, _]) = _
             rw [List.length_append, z1]; rfl)
      · first
          | (rw [← n1, List.length_eq_zero_iff.1 z1]; rfl)
          | (rw [← n1]; rfl)
  have hg : i = ns.length := by simp at hg; omega
  subst hg
  rw [List.take_length]
  have zL : (ns.map fun r => pz2 r.cn).length = ns.length := List.length_map _
  rw [← zL];generalize (ns.map fun r => pz2 r.cn) = LL;refine AWP_exit ?_;show AWP _ _ _ _ _ _
  rcases LL with _ | ⟨l, LL⟩
  · refine AWP_reg_seq tok fun K hK => ?_;refine ldQ ?_;refine s_store rfl rfl rfl rfl rfl ?_;refine s_end (hK _ ?_); clear hK K;refine AWP_ret ?_
    repeat (with_reducible refine tq_ret ?_)
    exact post_ret (fin_mk (by rfl) (by rfl) (by rfl))
  · refine a_fz [2, 3] [2, 3, 200] 200 [(2, .ptr 2 0), (3, .ptr 3 0)] [(2, some (.box [.nil, .nil])), (3, some (.box (GR.mk (l :: LL) ls).cs))] rfl ⟨rfl, rfl, trivial⟩ ⟨rfl, ?_, trivial⟩ ?_
    · show some (OO.box [frzC 200 4 _ (.own 200 4 0 _), _]) = _
      rw [frzC_own rfl (by simp)]; rfl
    refine AWP_reg_seq tok fun K hK => ?_;refine ldQ ?_;refine s_store rfl rfl rfl rfl rfl ?_;refine s_end (hK _ ?_); clear hK K;refine AWP_ret ?_
    repeat (with_reducible refine tq_ret ?_)
    exact post_ret (fin_mk (by rfl) (by rfl) (by rfl))

/-! ### Worst -/
def wrN (q : Nat → Rat) : Nat → Nat
  | 0 => 0
  | k + 1 => if q (wrN q k) < q k then k else wrN q k
theorem wrN_lt (q : Nat → Rat) : ∀ {k n : Nat}, k ≤ n → 0 < n → wrN q k < n
  | 0, _, _, h => h
  | k + 1, n, h, hn => by
    rw [wrN]; split
    · omega
    · exact wrN_lt q (by omega) hn
def csN (g : GR) (s : List SP) (i : Nat) : Rat := csT g s (g.links.getD i ⟨0, 0, 0, 0, 0⟩)
def wrsV (g : GR) (s : List SP) : Int × RW × Int :=
  if costB g s = true then (if g.links.length = 0 then (0, rw00, 7) else ((wrN (csN g s) g.links.length : Nat), qzW (csN g s (wrN (csN g s) g.links.length)), 0)) else (0, rw00, 1)
theorem qcmp_le2 (x y : Rat) : qcmp x y ≤ 0 ↔ x ≤ y := by
  have z : ∀ x y : Int, zcmp x y ≤ 0 ↔ x ≤ y := fun x y => by unfold zcmp; (repeat' split) <;> omega
  unfold qcmp
  rw [z, Rat.le_iff]
theorem qcmp_gt2 (x y : Rat) : decide (qcmp x y > 0) = decide (y < x) := by
  rw [Bool.eq_iff_iff, decide_eq_true_eq, decide_eq_true_eq]
  have := qcmp_le2 x y
  constructor
  · intro h
    exact Rat.not_le.1 fun h' => by have := this.2 h'; omega
  · intro h
    have h' := Rat.not_le.2 h
    have : ¬ qcmp x y ≤ 0 := fun h2 => h' (this.1 h2)
    omega
theorem qcmp_z (x y : Rat) : qcmp x y = 0 ↔ x = y := by
  have a := qcmp_le2 x y
  have b := qcmp_le2 y x
  have e : qcmp y x = - qcmp x y := by
    unfold qcmp zcmp; (repeat' split) <;> omega
  rw [e] at b
  constructor
  · intro h
    exact Rat.le_antisymm (a.1 (by omega)) (b.1 (by omega))
  · intro h
    have h1 := a.2 (by rw [h]; exact Rat.le_refl)
    have h2 := b.2 (by rw [h]; exact Rat.le_refl)
    omega
def bestI (q : Nat → Rat) (i : Nat) : Int := if i = 0 then -1 else (wrN q i : Nat)
def zcs : List SC := [.d (.lit (.bool false)), .nil, .d (.lit (.bool false)), .nil]
def mostR (q : Nat → Rat) (i : Nat) : List SC := if i = 0 then zcs else (qzW (q (wrN q i))).cs
set_option maxHeartbeats 1000000 in
theorem gWst_c (g : GR) (s : List SP) (ok : ∀ r ∈ g.nodes, r.OK 4096) (os : ∀ p ∈ s, p.OK 4096) : Con Tryz.prog 38 [AG g.cs, V1 (dSs s)] { v := .tup [.one (.d (lI (wrsV g s).1)), .agg (wrsV g s).2.1.cs, .one (.d (lI (wrsV g s).2.2))] } := by
  have cR := aRight_c g s
  refine con_intro (fn := Tryz.f38) tok Tryz.func38 (by kernel_rfl) rfl ?_
  intro w0 X
  rw [entry_mkE _ _ [(0, AG g.cs), (1, V1 (dSs s))] rfl rfl];refine AWP_reg_seq tok fun K hK => ?_;refine s_box rfl rfl rfl rfl rfl rfl ?_;refine asQ ?_;refine s_alloc rfl rfl rfl rfl rfl rfl ?_;refine asQ ?_;refine s_end (hK _ ?_); clear hK K;refine AWP_seq ?_;refine AWP_block ?_;refine AWP_reg_seq tok fun K hK => ?_;refine ldQ ?_;refine mvQ ?_;refine s_call rfl rfl (cR) rfl rfl rfl rfl ?_;refine s_un rfl rfl rfl ?_;refine asQ ?_;refine s_end (hK _ ?_); clear hK K;refine a_cond rfl (fun hc => ?_) (fun hc => ?_)
  · rw [Bool.not_eq_true'] at hc
    have e : wrsV g s = (0, rw00, 1) := by rw [wrsV, if_neg (by rw [hc]; simp)]
    rw [e];refine AWP_reg_seq tok fun K hK => ?_;refine s_build rfl rfl rfl ?_;refine asQ ?_;refine s_store rfl rfl rfl rfl rfl ?_;refine asQ ?_;refine s_end (hK _ ?_); clear hK K;refine AWP_ret ?_
    repeat (with_reducible refine tq_ret ?_)
    exact post_ret (fin_mk (by rfl) (by rfl) (by rfl))
  rw [Bool.not_eq_false'] at hc
  have h := costB_iff.1 hc
  have gv := h.gv
  have l48 := gv.l
  rw [wrsV, if_pos hc];refine AWP_reg_seq tok fun K hK => ?_;refine faQ ?_;refine ldQ ?_;refine s_blt rfl (len_m LK.dc rfl rfl) rfl ?_;refine s_bin rfl (e_eqV _ 0) rfl ?_;refine asQ ?_;refine s_end (hK _ ?_); clear hK K;refine a_cond rfl (fun hd => ?_) (fun hd => ?_)
  · rw [if_pos (of_decide_eq_true hd)];refine AWP_reg_seq tok fun K hK => ?_;refine s_build rfl rfl rfl ?_;refine asQ ?_;refine s_store rfl rfl rfl rfl rfl ?_;refine asQ ?_;refine s_end (hK _ ?_); clear hK K;refine AWP_ret ?_
    repeat (with_reducible refine tq_ret ?_)
    exact post_ret (fin_mk (by rfl) (by rfl) (by rfl))
  have hd := of_decide_eq_false hd
  rw [if_neg hd];refine AWP_skip ?_;show AWP _ _ _ _ _ _;refine AWP_reg_seq tok fun K hK => ?_;refine s_build rfl rfl rfl ?_;refine s_alloc rfl rfl rfl rfl rfl rfl ?_;refine asQ ?_;refine s_store rfl rfl rfl rfl rfl ?_;refine s_end (hK _ ?_); clear hK K;refine AWP_seq ?_;refine AWP_reg_seq tok fun K hK => ?_;refine faQ ?_;refine ldQ ?_;refine s_blt rfl (len_m LK.dc rfl rfl) rfl ?_;refine mvQ ?_;refine s_end (hK _ ?_); clear hK K;refine AWP_block (a_loop (α := Nat) (fun i => mk 71 [(1, V1 (dSs s)), (2, .ptr 2 0), (5, .ptr 5 0), (7, dI (bestI (csN g s) i)), (8, .ptr 8 0), (28, V1 (dLs g.links)), (29, dI g.links.length), (30, dI i)] [(2, some (.box g.cs)), (5, some (.box zcs)), (8, some (.box (mostR (csN g s) i)))] []) (fun i => i ≤ g.links.length) (fun i => g.links.length - i) 0 ?_ (Nat.zero_le _) ?_)
  · have b0 : bestI (csN g s) 0 = -1 := if_pos rfl
    have b1 : mostR (csN g s) 0 = zcs := if_pos rfl
    simp only [b0, b1];exact Wk.mk' ⟨rfl, rfl, rfl, rfl, rfl, rfl, rfl, rfl, trivial⟩ ⟨rfl, rfl, rfl, trivial⟩
  intro i hi
  refine AWP_reg_seq tok fun K hK => ?_;refine biQ ?_;refine s_end (hK _ ?_); clear hK K;refine AWP_seq ?_;refine a_cond rfl (fun hg => ?_) (fun hg => ?_)
  · have hg : i < g.links.length := by simp at hg; omega
    obtain ⟨l, hl⟩ : ∃ l, l = g.links[i] := ⟨_, rfl⟩
    have hm : l ∈ g.links := hl ▸ List.getElem_mem hg
    have lv := gLV gv l hm
    have o := rsG_ok h hm ok os
    have cR := gResidual_c g s (i : Int) (fun r hr => (ok r hr).mono rfl) (fun p hp => (os p hp).mono rfl)
    have eR : resV g s (i : Int) = (rsG g s l, 0) := by
      rw [resV, if_pos hc, dif_pos ⟨by omega, by simpa using hg⟩];simp only [Int.toNat_natCast, ← hl]
    rw [eR] at cR
    have eq1 : csN g s i = ((rsG g s l).vx * (rsG g s l).vx + (rsG g s l).vy * (rsG g s l).vy) * ((l.w : Int) : Rat) := by
      unfold csN; rw [List.getD_eq_getElem?_getD, List.getElem?_eq_getElem hg, ← hl]; rfl
    have hql : ∀ k, k < g.links.length → ql (csN g s k) ≤ 98400 := fun k hk => by
      unfold csN; rw [List.getD_eq_getElem?_getD, List.getElem?_eq_getElem hk]
      exact csT_le h (List.getElem_mem hk) ok os
    have hwr := wrN_lt (csN g s) hi (by omega)
    have qi := hql i hg
    have qw := hql _ hwr
    have ws : wrN (csN g s) (i + 1) = if csN g s (wrN (csN g s) i) < csN g s i then i else wrN (csN g s) i := rfl
    generalize rsG g s l = r at cR o eq1
    have x1 := o.qx rfl
    have x2 := o.qy rfl
    have m1 := ql_mul_le x1 x1
    have m2 := ql_mul_le x2 x2
    have m3 := ql_add_le m1 m2
    have c1 := qMul_t r.x r.x (r.vx * r.vx) (o.x.mono rfl) (o.x.mono rfl) rfl
    have c2 := qMul_t r.y r.y (r.vy * r.vy) (o.y.mono rfl) (o.y.mono rfl) rfl
    have c3 := qAdd_t (qzW (r.vx * r.vx)) (qzW (r.vy * r.vy)) (r.vx * r.vx + r.vy * r.vy) ((qzW_ok m1).mono rfl) ((qzW_ok m2).mono rfl) (by rw [qzW_v, qzW_v])
    have c4 := qOfI_c l.w lv.iw
    have c5 := qMul_t (qzW (r.vx * r.vx + r.vy * r.vy)) (qzW ((l.w : Int) : Rat)) (csN g s i) ((qzW_ok m3).mono rfl) ((qzW_ok (ql_i64 lv.iw)).mono rfl) (by rw [qzW_v, qzW_v, eq1])
    have c6 := qCmp_t (qzW (csN g s i)) (qzW (csN g s (wrN (csN g s) i))) ((qzW_ok qi).mono rfl) ((qzW_ok qw).mono rfl)
    rw [qzW_v, qzW_v] at c6
    have hgt := qcmp_gt2 (csN g s i) (csN g s (wrN (csN g s) i))
    have b1 : ∀ k, bestI (csN g s) (k + 1) = (wrN (csN g s) (k + 1) : Nat) := fun k => if_neg (by omega)
    have b2 : ∀ k, mostR (csN g s) (k + 1) = (qzW (csN g s (wrN (csN g s) (k + 1)))).cs := fun k => if_neg (by omega)
    refine AWP_skip ?_;show AWP _ _ _ _ _ _;refine AWP_seq ?_;refine AWP_block ?_;refine AWP_reg_seq tok fun K hK => ?_;refine mvQ ?_;refine s_indexAddr rfl (x_m LK.dc rfl rfl rfl rfl hg rfl) rfl ?_;refine ldQ ?_;refine s_alloc rfl rfl rfl rfl rfl rfl ?_;refine asQ ?_;refine s_store rfl rfl rfl rfl rfl ?_;refine s_end (hK _ ?_); clear hK K;rw [← hl];refine AWP_reg_seq tok fun K hK => ?_;refine ldQ ?_;refine mvQ ?_;refine mvQ ?_;refine s_call rfl rfl (cR) rfl rfl rfl rfl ?_;refine mvQ ?_;refine s_extract rfl rfl rfl ?_;refine s_extract rfl rfl rfl ?_;refine s_alloc rfl rfl rfl rfl rfl rfl ?_;refine s_store rfl rfl rfl rfl rfl ?_;refine asQ ?_;refine s_end (hK _ ?_); clear hK K;refine a_draw tok mixed (A := [[], [], [], [], [0, 2], [], [], [], [], [0, 1, 2, 3, 5, 7], [0, 1, 2, 3, 5, 6, 7, 8], [], []]) (an := [{}, {}, {}, {}, {}, { c := [46] }, { c := [46] }, { c := [46] }, { c := [46] }, {}, {}, { c := [46, 51, 52] }, {}]) rfl (by kernel_rfl) rfl fun K hK => ?_;refine faQ ?_;refine ldQ ?_;refine faQ ?_;refine ldQ ?_;refine s_call rfl rfl (c1) rfl rfl rfl rfl ?_;refine faQ ?_;refine ldQ ?_;refine faQ ?_;refine ldQ ?_;refine s_call rfl rfl (c2) rfl rfl rfl rfl ?_;refine s_call rfl rfl (c3) rfl rfl rfl rfl ?_;refine s_alloc rfl rfl rfl rfl rfl rfl ?_;refine s_store rfl rfl rfl rfl rfl ?_;refine s_end (hK _ ?_); clear hK K;refine a_draw tok mixed (A := [[], [], [], [1], [1, 2], []]) (an := [{}, {}, {}, {}, {}, {}]) rfl (by kernel_rfl) rfl fun K hK => ?_;refine ldQ ?_;refine faQ ?_;refine ldQ ?_;refine s_call rfl rfl (c4) rfl rfl rfl rfl ?_;refine s_call rfl rfl (c5) rfl rfl rfl rfl ?_;refine s_store rfl rfl rfl rfl rfl ?_;refine s_end (hK _ ?_); clear hK K
    rcases i with _ | i
    · have w1 : wrN (csN g s) (0 + 1) = 0 := by rw [ws]; split <;> rfl
      have b0 : bestI (csN g s) 0 = -1 := if_pos rfl
      have b3 : mostR (csN g s) 0 = zcs := if_pos rfl
      rw [b0, b3];refine AWP_reg_seq tok fun K hK => ?_;refine mvQ ?_;refine biQ ?_;refine mvQ ?_;refine s_skip rfl ?_;refine s_skip rfl ?_;refine s_skip rfl ?_;refine s_skip rfl ?_;refine piQ ?_;refine s_end (hK _ ?_); clear hK K;refine a_cond rfl (fun _ => ?_) (fun h => by cases h);refine a_draw1 tok mixed (A := [[], [], [], []]) (an := [{}, {}, {}, {}]) rfl (by kernel_rfl) rfl fun K hK => ?_;refine mvQ ?_;refine ldQ ?_;refine asQ ?_;refine s_store rfl rfl rfl rfl rfl ?_;refine s_end (hK _ ?_); clear hK K;show AWP _ _ _ _ _ _;refine AWP_reg tok fun K hK => ?_;refine s_bin rfl (e_add (c := ((0 + 1 : Nat) : Int)) (by omega) (by omega)) rfl ?_;refine mvQ ?_;refine s_end (hK _ ?_); clear hK K;refine ⟨0 + 1, by omega, hg, ?_⟩
      have a1 : bestI (csN g s) (0 + 1) = ((0 : Nat) : Int) := by rw [bestI, if_neg (by omega), w1]
      have a2 : mostR (csN g s) (0 + 1) = (qzW (csN g s 0)).cs := by rw [mostR, if_neg (by omega), w1]
      rw [a1, a2];exact Wk.mk' ⟨rfl, rfl, rfl, rfl, rfl, rfl, rfl, rfl, trivial⟩ ⟨rfl, rfl, rfl, trivial⟩
    · rw [b1, b2];generalize hw0 : wrN (csN g s) (i + 1) = w0' at *;generalize qcmp (csN g s (i + 1)) (csN g s w0') = kk at c6 hgt;refine AWP_reg_seq tok fun K hK => ?_;refine mvQ ?_;refine s_bin rfl (e_ltJ (c := false) (decide_eq_false (by omega))) rfl ?_;refine mvQ ?_;refine ldQ ?_;refine ldQ ?_;refine s_call rfl rfl (c6) rfl rfl rfl rfl ?_;refine s_bin rfl (e_gtJ hgt) rfl ?_;refine piQ ?_;refine s_end (hK _ ?_); clear hK K;refine a_cond rfl (fun he => ?_) (fun he => ?_)
      · rw [if_pos (of_decide_eq_true he)] at ws;refine a_draw1 tok mixed (A := [[], [], [], []]) (an := [{}, {}, {}, {}]) rfl (by kernel_rfl) rfl fun K hK => ?_;refine mvQ ?_;refine ldQ ?_;refine asQ ?_;refine s_store rfl rfl rfl rfl rfl ?_;refine s_end (hK _ ?_); clear hK K;show AWP _ _ _ _ _ _;refine AWP_reg tok fun K hK => ?_;refine s_bin rfl (e_add (c := ((i + 1 + 1 : Nat) : Int)) (by omega) (by omega)) rfl ?_;refine mvQ ?_;refine s_end (hK _ ?_); clear hK K;refine ⟨i + 1 + 1, by omega, hg, ?_⟩;rw [b1, b2, ws];exact Wk.mk' ⟨rfl, rfl, rfl, rfl, rfl, rfl, rfl, rfl, trivial⟩ ⟨rfl, rfl, rfl, trivial⟩
      · rw [if_neg (of_decide_eq_false he)] at ws;refine AWP_skip ?_;show AWP _ _ _ _ _ _;refine AWP_reg tok fun K hK => ?_;refine s_bin rfl (e_add (c := ((i + 1 + 1 : Nat) : Int)) (by omega) (by omega)) rfl ?_;refine mvQ ?_;refine s_end (hK _ ?_); clear hK K;refine ⟨i + 1 + 1, by omega, hg, ?_⟩;rw [b1, b2, ws];exact Wk.mk' ⟨rfl, rfl, rfl, rfl, rfl, rfl, rfl, rfl, trivial⟩ ⟨rfl, rfl, rfl, trivial⟩
  have hg : i = g.links.length := by simp at hg; omega
  subst hg
  have a1 : bestI (csN g s) g.links.length = (wrN (csN g s) g.links.length : Nat) := if_neg hd
  have a2 : mostR (csN g s) g.links.length = (qzW (csN g s (wrN (csN g s) g.links.length))).cs := if_neg hd
  rw [a1, a2];refine AWP_exit ?_;show AWP _ _ _ _ _ _;refine a_draw tok mixed (A := [[], [], [], [], []]) (an := [{}, {}, {}, {}, {}]) rfl (by kernel_rfl) rfl fun K hK => ?_;refine mvQ ?_;refine ldQ ?_;refine asQ ?_;refine s_store rfl rfl rfl rfl rfl ?_;refine asQ ?_;refine s_end (hK _ ?_); clear hK K;refine AWP_ret ?_
  repeat (with_reducible refine tq_ret ?_)
  exact post_ret (fin_mk (by rfl) (by rfl) (by rfl))
end Go.Proofs.YtlnbkmkkiemcaaaGreatDoor

/- law31: awake; alike; Least. No condition. -/
namespace Go.Proofs.YtlnbkmkkiemcaaaGreatDoor
attribute [local irreducible] lexA
open Go.RowKit

theorem e_eqSt {T : Tab} {t : TypeId} (a : ByteArray) : effBin T .eql t (V1 (.lit (.string a))) (V1 (.lit (.string a))) = .set (dB true) := by
  show Eff.set (dB (a.toList == a.toList)) = _
  rw [beq_self_eq_true]
def gW : GR := ⟨[rw00, rw00], [⟨0, 1, 10, 0, 1⟩, ⟨0, 1, 13, 0, 2⟩]⟩
def sW : List SP := [szW 0 0, szW 12 0]
theorem tW1 : minV gW = (sW, 0) := by decide +kernel
theorem tW2 : lstV gW = (qzW 6, 0) := by decide +kernel
theorem tW3 : wrsV gW sW = (0, qzW 4, 0) := by decide +kernel
theorem gW_ok : ∀ r ∈ gW.nodes, r.OK 2 := by
  intro r hr
  have : r = rw00 := by
    simp only [gW, List.mem_cons, List.not_mem_nil, or_false, or_self] at hr; exact hr
  rw [this];exact ⟨fun x hx => (List.not_mem_nil hx).elim, fun x hx => (List.not_mem_nil hx).elim, Nat.zero_le _, Nat.zero_le _⟩
theorem gW_sm : validB gW = true → SM gW := fun _ => ⟨by decide, by decide, gW_ok⟩
theorem sW_ok : ∀ p ∈ sW, p.OK 4096 := by
  intro p hp
  simp only [sW, List.mem_cons, List.not_mem_nil, or_false] at hp
  rcases hp with rfl | rfl
  · exact szW_ok (by decide +kernel) (by decide +kernel)
  · exact szW_ok (by decide +kernel) (by decide +kernel)
set_option maxHeartbeats 1000000 in
theorem awake31_c : Con Tryz.prog 26 [] { v := dB true } := by
  have cM := gMin_c gW (fun r hr => (gW_ok r hr).mono rfl) gW_sm
  have cL := gLst_c gW (fun r hr => (gW_ok r hr).mono rfl) gW_sm
  have cW := gWst_c gW sW (fun r hr => (gW_ok r hr).mono rfl) sW_ok
  rw [tW1] at cM;rw [tW2] at cL;rw [tW3] at cW
  have cN := aNew_c rw00 ⟨fun x hx => (List.not_mem_nil hx).elim, fun x hx => (List.not_mem_nil hx).elim, Nat.zero_le _, Nat.zero_le _⟩
  have o1 : (pz2 rw00.cn).OK 268435456 := pz2_ok (by decide +kernel)
  generalize pz2 rw00.cn = q at cN o1
  have cG := aGraph_c [q] [] (fun r hr => by rw [List.mem_singleton.1 hr]; exact o1) (by simp) (by simp)
  have t1 := qText_t (qzW 12) (qzW_ok (by decide +kernel)) (by rw [qzW_v]; decide +kernel) (by rw [qzW_v]; decide +kernel)
  have t2 := qText_t (qzW 6) (qzW_ok (by decide +kernel)) (by rw [qzW_v]; decide +kernel) (by rw [qzW_v]; decide +kernel)
  have t3 := qText_t (qzW 4) (qzW_ok (by decide +kernel)) (by rw [qzW_v]; decide +kernel) (by rw [qzW_v]; decide +kernel)
  rw [qzW_v, show qtx (12 : Rat) = [49, 50] by decide +kernel] at t1;rw [qzW_v, show qtx (6 : Rat) = [54] by decide +kernel] at t2;rw [qzW_v, show qtx (4 : Rat) = [52] by decide +kernel] at t3
  have eS : sW = [⟨qzW 0, qzW 0⟩, ⟨qzW 12, qzW 0⟩] := rfl
  rw [eS] at cM cW;generalize qzW (12 : Rat) = A at *;generalize qzW (6 : Rat) = B at *;generalize qzW (4 : Rat) = C at *;generalize qzW (0 : Rat) = Z at *;refine con_intro (fn := Tryz.f26) tok Tryz.func26 (by kernel_rfl) rfl ?_
  intro w0 X
  rw [entry_mkE _ _ [] rfl rfl];refine AWP_reg_seq tok fun K hK => ?_;refine asQ ?_;refine s_end (hK _ ?_); clear hK K;refine AWP_reg_seq tok fun K hK => ?_;refine s_makeSlice (sz := _) (es := _) (f := _) (v := _) rfl (mk_a (l := 2) rfl rfl rfl rfl rfl (Nat.le_of_ble_eq_true rfl) (by decide) rfl rfl (by omega)) rfl rfl ?_;refine s_build rfl rfl rfl ?_;refine s_build rfl rfl rfl ?_;refine s_buildSlice rfl rfl rfl rfl ?_;refine s_build rfl rfl rfl ?_;refine s_alloc rfl rfl rfl rfl rfl rfl ?_;refine s_storeB rfl rfl rfl rfl rfl ?_;refine s_end (hK _ ?_); clear hK K;refine a_fz [1] [1, 10, 13] 10 [(1, .ptr 1 0)] [(1, some (.box [.d (dRs [rw00, rw00]), .own 13 5 0 2])), (13, some (.arr 5 [(LK.mk 0 1 10 0 1).dc, (LK.mk 0 1 13 0 2).dc]))] rfl ⟨rfl, trivial⟩ ⟨rfl, rfl, trivial⟩ ?_;refine a_fz [1] [1, 13] 13 [(1, .ptr 1 0)] [(1, some (.box gW.cs))] rfl ⟨rfl, trivial⟩ ⟨rfl, trivial⟩ ?_;refine AWP_reg_seq tok fun K hK => ?_;refine ldQ ?_;refine s_call rfl rfl (cM) rfl rfl rfl rfl ?_;refine mvQ ?_;refine s_extract rfl rfl rfl ?_;refine s_extract rfl rfl rfl ?_;refine asQ ?_;refine asQ ?_;refine s_end (hK _ ?_); clear hK K;refine AWP_reg_seq tok fun K hK => ?_;refine ldQ ?_;refine s_call rfl rfl (cL) rfl rfl rfl rfl ?_;refine mvQ ?_;refine s_extract rfl rfl rfl ?_;refine s_extract rfl rfl rfl ?_;refine s_alloc rfl rfl rfl rfl rfl rfl ?_;refine s_store rfl rfl rfl rfl rfl ?_;refine asQ ?_;refine s_end (hK _ ?_); clear hK K;refine AWP_seq ?_;refine AWP_reg_seq tok fun K hK => ?_;refine mvQ ?_;refine biQ ?_;refine mvQ ?_;refine mvQ ?_;refine biQ ?_;refine piQ ?_;refine mvQ ?_;refine mvQ ?_;refine s_blt rfl (len_m SP.dc rfl rfl) rfl ?_;refine s_bin rfl (e_neK (c := false) rfl) rfl ?_;refine piQ ?_;refine s_end (hK _ ?_); clear hK K;refine a_cond rfl (fun h => by cases h) (fun _ => ?_);refine AWP_skip ?_;show AWP _ _ _ _ _ _;refine AWP_reg_seq tok fun K hK => ?_;refine ldQ ?_;refine mvQ ?_;refine s_call rfl rfl (cW) rfl rfl rfl rfl ?_;refine mvQ ?_;refine s_extract rfl rfl rfl ?_;refine s_extract rfl rfl rfl ?_;refine s_extract rfl rfl rfl ?_;refine s_alloc rfl rfl rfl rfl rfl rfl ?_;refine asQ ?_;refine s_store rfl rfl rfl rfl rfl ?_;refine asQ ?_;refine s_end (hK _ ?_); clear hK K;refine AWP_reg_seq tok fun K hK => ?_;refine s_build rfl rfl rfl ?_;refine s_call rfl rfl (cN) rfl rfl rfl rfl ?_;refine asQ ?_;refine s_end (hK _ ?_); clear hK K;refine AWP_regW_seq fun K hK => ?_;refine w_step tok rfl ?_;refine mvQ ?_;refine s_end ?_;refine w_step tok rfl ?_;refine s_indexAddr rfl (x_m SP.dc (i := 1) rfl rfl rfl rfl (by simp) rfl) rfl ?_;refine s_end ?_;refine w_step tok rfl ?_;refine faQ ?_;refine s_end ?_;refine w_step tok rfl ?_;refine ldQ ?_;refine s_end ?_;refine w_step tok rfl ?_;refine s_call rfl rfl (t1) rfl rfl rfl rfl ?_;refine s_end ?_;refine w_step tok rfl ?_;refine s_bin rfl (e_eqSt _) rfl ?_;refine s_end ?_;refine w_step tok rfl ?_;refine mvQ ?_;refine s_end ?_;refine w_step tok rfl ?_;refine ldQ ?_;refine s_end ?_;refine w_step tok rfl ?_;refine s_call rfl rfl (t2) rfl rfl rfl rfl ?_;refine s_end ?_;refine w_step tok rfl ?_;refine s_bin rfl (e_eqSt _) rfl ?_;refine s_end ?_;refine w_step tok rfl ?_;refine piQ ?_;refine s_end ?_;refine w_step tok rfl ?_;refine mvQ ?_;refine s_end ?_;refine w_step tok rfl ?_;refine mvQ ?_;refine s_end ?_;refine w_step tok rfl ?_;refine biQ ?_;refine s_end ?_;refine w_step tok rfl ?_;refine piQ ?_;refine s_end ?_;refine w_step tok rfl ?_;refine mvQ ?_;refine s_end ?_;refine w_step tok rfl ?_;refine ldQ ?_;refine s_end ?_;refine w_step tok rfl ?_;refine s_call rfl rfl (t3) rfl rfl rfl rfl ?_;refine s_end ?_;refine w_step tok rfl ?_;refine s_bin rfl (e_eqSt _) rfl ?_;refine s_end ?_;refine w_step tok rfl ?_;refine piQ ?_;refine s_end ?_;refine w_step tok rfl ?_;refine mvQ ?_;refine s_end ?_;refine w_step tok rfl ?_;refine mvQ ?_;refine s_end ?_;refine w_step tok rfl ?_;refine biQ ?_;refine s_end ?_;refine w_step tok rfl ?_;refine piQ ?_;refine s_end ?_;refine w_step tok rfl ?_;refine mvQ ?_;refine s_end ?_;refine w_step tok rfl ?_;refine mvQ ?_;refine s_end ?_;refine w_pne (e := 133) rfl rfl rfl (by kernel_rfl) ?_;refine w_step tok rfl ?_;refine piQ ?_;refine s_end ?_;refine w_step tok rfl ?_;refine mvQ ?_;refine s_end ?_;refine w_step tok rfl ?_;refine mvQ ?_;refine s_end ?_;refine w_step tok rfl ?_;refine s_call rfl rfl (cG) rfl rfl rfl rfl ?_;refine s_end ?_;refine w_step tok rfl ?_;refine s_field rfl rfl rfl ?_;refine s_end ?_;refine w_step tok rfl ?_;refine s_blt rfl (len_m RW.dc rfl rfl) rfl ?_;refine s_end ?_;refine w_step tok rfl ?_;refine s_bin rfl (e_eqI rfl) rfl ?_;refine s_end ?_;refine w_step tok rfl ?_;refine piQ ?_;refine s_end ?_;refine w_step tok rfl ?_;refine asQ ?_;refine s_end ?_;refine w_end rfl (hK _ ?_); clear hK K;refine AWP_ret ?_
  repeat (with_reducible refine tq_ret ?_)
  exact post_ret (fin_mk (by rfl) (by rfl) (by rfl))

/-! ### alike -/
theorem xs_at {s : List SP} {i : Nat} (h : i < s.length) : s[i].vx = xs s i ∧ s[i].vy = ys s i := by
  unfold xs ys; rw [List.getD_eq_getElem?_getD, List.getElem?_eq_getElem h]; exact ⟨rfl, rfl⟩
/-! ### Least -/
end Go.Proofs.YtlnbkmkkiemcaaaGreatDoor

/- law31: Gradient. No condition. -/
namespace Go.Proofs.YtlnbkmkkiemcaaaGreatDoor
attribute [local irreducible] lexA
open Go.RowKit

theorem sign0_c : Con Tryz.prog 30 [AG (qzW 0).cs] { v := dI 0 } := by
  have h := qSign_t (qzW 0) (qzW_ok (k := 1) (by decide) |>.mono rfl)
  rw [qzW_v] at h;exact h
end Go.Proofs.YtlnbkmkkiemcaaaGreatDoor

/- law31: Order, Merges. No condition. -/
namespace Go.Proofs.YtlnbkmkkiemcaaaGreatDoor
attribute [local irreducible] lexA
open Go.RowKit

section
variable {T : Tab} {t e : TypeId} {ti ei : TI}
end
end Go.Proofs.YtlnbkmkkiemcaaaGreatDoor

/- law31: Merges. No condition. -/
namespace Go.Proofs.YtlnbkmkkiemcaaaGreatDoor
attribute [local irreducible] lexA
open Go.RowKit

end Go.Proofs.YtlnbkmkkiemcaaaGreatDoor

/- solve: dot, Times, Form. law31: Form. No condition. -/
namespace Go.Proofs.YtlnbkmkkiemcaaaGreatDoor
attribute [local irreducible] lexA
open Go.RowKit

/-! ### dot -/
def dtS (a x : List RW) (k : Nat) : Rat := sm k fun i => rhsV a i * rhsV x i
theorem rhsV_at {a : List RW} {i : Nat} (h : i < a.length) : rhsV a i = (a[i]).v := by
  unfold rhsV; rw [List.getD_eq_getElem?_getD, List.getElem?_eq_getElem h]; rfl
theorem dtS_ql {a x : List RW} {A B : Nat} (ha : ∀ i, i < a.length → ql (rhsV a i) ≤ A) (hx : ∀ i, i < x.length → ql (rhsV x i) ≤ B) {k : Nat} (hk : k ≤ a.length) (hk' : k ≤ x.length) : ql (dtS a x k) ≤ 1 + k * (A + B + 1) :=
  ql_sm_le fun i hi => ql_mul_le (ha i (by omega)) (hx i (by omega))
theorem sDot_c (a x : List RW) (A B : Nat) (hl : a.length ≤ 16) (hlx : a.length ≤ x.length) (ha : ∀ r ∈ a, r.OK A) (hx : ∀ r ∈ x, r.OK B) (hA : 1 ≤ A ∧ A ≤ 400000) (hB : 1 ≤ B ∧ B ≤ 400000) : Con Tryz.prog 97 [V1 (dRs a), V1 (dRs x)] { v := AG (qzW (dtS a x a.length)).cs } := by
  have qa : ∀ i, i < a.length → ql (rhsV a i) ≤ A := fun i h => by rw [rhsV_at h]; exact (ha _ (List.getElem_mem h)).ql (Nat.ble_eq_true_of_le hA.1)
  have qx : ∀ i, i < x.length → ql (rhsV x i) ≤ B := fun i h => by rw [rhsV_at h]; exact (hx _ (List.getElem_mem h)).ql (Nat.ble_eq_true_of_le hB.1)
  refine con_intro (fn := Tryz.f97) tok Tryz.func97 (by kernel_rfl) rfl ?_
  intro w0 X
  rw [entry_mkE _ _ [(0, V1 (dRs a)), (1, V1 (dRs x))] rfl rfl];refine AWP_reg_seq tok fun K hK => ?_;refine s_alloc rfl rfl rfl rfl rfl rfl ?_;refine s_end (hK _ ?_); clear hK K;refine AWP_reg_seq tok fun K hK => ?_;refine s_call rfl rfl (sZero_c) rfl rfl rfl rfl ?_;refine s_alloc rfl rfl rfl rfl rfl rfl ?_;refine s_store rfl rfl rfl rfl rfl ?_;refine s_end (hK _ ?_); clear hK K;refine AWP_seq ?_;refine AWP_reg_seq tok fun K hK => ?_;refine mvQ ?_;refine s_blt rfl (len_m RW.dc rfl rfl) rfl ?_;refine mvQ ?_;refine s_end (hK _ ?_); clear hK K;refine AWP_block (a_loop (α := Nat) (fun i => mk 26 [(0, V1 (dRs a)), (1, V1 (dRs x)), (4, .ptr 4 0), (5, .ptr 5 0), (9, dI a.length), (10, dI i)] [(4, some (.box [.d (.lit (.bool false)), .nil, .d (.lit (.bool false)), .nil])), (5, some (.box (qzW (dtS a x i)).cs))] []) (fun i => i ≤ a.length) (fun i => a.length - i) 0 ?_ (Nat.zero_le _) ?_)
  · exact Wk.mk' ⟨rfl, rfl, rfl, rfl, rfl, rfl, trivial⟩ ⟨rfl, rfl, trivial⟩
  intro i hi
  refine AWP_reg_seq tok fun K hK => ?_;refine biQ ?_;refine s_end (hK _ ?_); clear hK K;refine AWP_seq ?_;refine a_cond rfl (fun hg => ?_) (fun hg => ?_)
  · have hg : i < a.length := by simp at hg; omega
    have hg2 : i < x.length := by omega
    have o1 := ha _ (List.getElem_mem hg)
    have o2 := hx _ (List.getElem_mem hg2)
    have q0 := dtS_ql qa qx (k := i) (by omega) (by omega)
    have q1 : ql (dtS a x i) ≤ 16777216 := by
      have h1 : i * (A + B + 1) ≤ 16 * (A + B + 1) := Nat.mul_le_mul_right _ (by omega)
      omega
    have q2 := ql_mul_le (qa i hg) (qx i hg2)
    have q3 : ql (rhsV a i * rhsV x i) ≤ 16777216 := by omega
    have c1 := qMul_t a[i] x[i] (rhsV a i * rhsV x i) ⟨o1.op, o1.oq, Nat.le_trans o1.lp (by omega), Nat.le_trans o1.lq (by omega)⟩ ⟨o2.op, o2.oq, Nat.le_trans o2.lp (by omega), Nat.le_trans o2.lq (by omega)⟩ (by rw [rhsV_at hg, rhsV_at hg2])
    have c2 := qAdd_t (qzW (dtS a x i)) (qzW (rhsV a i * rhsV x i)) (dtS a x (i + 1)) (qzW_ok q1) (qzW_ok q3) (by rw [qzW_v, qzW_v]; rfl)
    refine AWP_skip ?_;show AWP _ _ _ _ _ _;refine AWP_seq ?_;refine AWP_block ?_;refine AWP_reg_seq tok fun K hK => ?_;refine mvQ ?_;refine asQ ?_;refine s_end (hK _ ?_); clear hK K;refine a_draw1 tok mixed (A := [[], [], [], [], [1, 2], [], [], [], [5, 6], [1, 2, 3, 5, 6, 7], [1, 2, 3, 4, 5, 6, 7, 8], []]) (an := [{}, {}, {}, {}, {}, {}, {}, {}, {}, {}, {}, {}]) rfl (by kernel_rfl) rfl fun K hK => ?_;refine ldQ ?_;refine mvQ ?_;refine mvQ ?_;refine s_indexAddr rfl (x_m RW.dc rfl rfl rfl rfl hg rfl) rfl ?_;refine ldQ ?_;refine mvQ ?_;refine mvQ ?_;refine s_indexAddr rfl (x_m RW.dc rfl rfl rfl rfl hg2 rfl) rfl ?_;refine ldQ ?_;refine s_call rfl rfl (c1) rfl rfl rfl rfl ?_;refine s_call rfl rfl (c2) rfl rfl rfl rfl ?_;refine s_store rfl rfl rfl rfl rfl ?_;refine s_end (hK _ ?_); clear hK K;show AWP _ _ _ _ _ _;refine AWP_reg tok fun K hK => ?_;refine s_bin rfl (e_add (c := ((i + 1 : Nat) : Int)) (by omega) (by omega)) rfl ?_;refine mvQ ?_;refine s_end (hK _ ?_); clear hK K;exact ⟨i + 1, by omega, hg, Wk.mk' ⟨rfl, rfl, rfl, rfl, rfl, rfl, trivial⟩ ⟨rfl, rfl, trivial⟩⟩
  have hg : i = a.length := by simp at hg; omega
  subst hg
  refine AWP_exit ?_;show AWP _ _ _ _ _ _;refine AWP_reg_seq tok fun K hK => ?_;refine ldQ ?_;refine s_store rfl rfl rfl rfl rfl ?_;refine s_end (hK _ ?_); clear hK K;refine AWP_ret ?_
  repeat (with_reducible refine tq_ret ?_)
  exact post_ret (fin_mk (by rfl) (by rfl) (by rfl))
/-! ### Times and Form -/
def tmsV (m : List (List RW)) (x : List RW) : List RW × Int := if validM m = true ∧ x.length = m.length then (m.map fun r => qzW (dtS r x m.length), 0) else ([], 1)
set_option maxHeartbeats 1000000 in
theorem sTimes_c (m : List (List RW)) (x : List RW) (A B : Nat) (hl : m.length ≤ 9223372036854775806) (hr : ∀ r ∈ m, r.length ≤ 9223372036854775806) (ok : okM 65536 m) (ha : okM A m) (hx : ∀ r ∈ x, r.OK B) (hA : 1 ≤ A ∧ A ≤ 400000) (hB : 1 ≤ B ∧ B ≤ 400000) :
    Con Tryz.prog 96 [V1 (dMs m), V1 (dRs x)] { v := .tup [.one (.d (dRs (tmsV m x).1)), .one (.d (lI (tmsV m x).2))] } := by
  have cV := sValid_c m hl hr ok
  refine con_intro (fn := Tryz.f96) tok Tryz.func96 (by kernel_rfl) rfl ?_
  intro w0 X
  rw [entry_mkE _ _ [(0, V1 (dMs m)), (1, V1 (dRs x))] rfl rfl];refine AWP_reg_seq tok fun K hK => ?_;refine asQ ?_;refine asQ ?_;refine s_end (hK _ ?_); clear hK K
  by_cases hc : validM m = true ∧ x.length = m.length
  · obtain ⟨hv, hlx⟩ := hc
    rw [tmsV, if_pos ⟨hv, hlx⟩];rw [hv] at cV
    have hV := of_decide_eq_true hv
    have n16 := hV.1
    refine AWP_seq ?_;refine AWP_reg_seq tok fun K hK => ?_;refine mvQ ?_;refine s_call rfl rfl (cV) rfl rfl rfl rfl ?_;refine s_un rfl rfl rfl ?_;refine mvQ ?_;refine mvQ ?_;refine s_blt rfl (len_m RW.dc rfl rfl) rfl ?_;refine mvQ ?_;refine s_blt rfl (len_m cM rfl rfl) rfl ?_;refine s_bin rfl (e_neK (c := false) (by simp [hlx])) rfl ?_;refine piQ ?_;refine s_end (hK _ ?_); clear hK K;refine a_cond rfl (fun h => by cases h) (fun _ => ?_);refine AWP_skip ?_;show AWP _ _ _ _ _ _;refine AWP_reg_seq tok fun K hK => ?_;refine asQ ?_;refine s_end (hK _ ?_); clear hK K;refine AWP_seq ?_;refine AWP_reg_seq tok fun K hK => ?_;refine mvQ ?_;refine s_blt rfl (len_m cM rfl rfl) rfl ?_;refine mvQ ?_;refine s_end (hK _ ?_); clear hK K;refine AWP_block (a_loop (α := Nat) (fun i => mk 33 [(1, V1 (dRs x)), (6, ownN 200 4 i), (19, V1 (dMs m)), (20, dI m.length), (21, dI i)] [(200, arrN 4 (((m.take i).map fun r => qzW (dtS r x m.length)).map RW.dc) i)] []) (fun i => i ≤ m.length) (fun i => m.length - i) 0 ?_ (Nat.zero_le _) ?_)
    · exact Wk.mk' ⟨rfl, rfl, rfl, rfl, rfl, trivial⟩ ⟨rfl, trivial⟩
    intro i hi
    refine AWP_reg_seq tok fun K hK => ?_;refine biQ ?_;refine s_end (hK _ ?_); clear hK K;refine AWP_seq ?_;refine a_cond rfl (fun hg => ?_) (fun hg => ?_)
    · have hg : i < m.length := by simp at hg; omega
      have hrl : m[i].length = m.length := hV.2.1 _ (List.getElem_mem hg)
      have cD := sDot_c m[i] x A B (by omega) (by omega) (fun r hr => ha _ (List.getElem_mem hg) r hr) hx hA hB
      rw [hrl] at cD
      have n1 : ((m.take i).map fun r => qzW (dtS r x m.length)).map RW.dc ++ [(qzW (dtS m[i] x m.length)).dc] = ((m.take (i + 1)).map fun r => qzW (dtS r x m.length)).map RW.dc := by
        rw [List.take_succ_eq_append_getElem hg, List.map_append, List.map_append]; rfl
      have z1 : (((m.take i).map fun r => qzW (dtS r x m.length)).map RW.dc).length = i := by simp; omega
      generalize qzW (dtS m[i] x m.length) = q at cD n1;generalize ((m.take i).map fun r => qzW (dtS r x m.length)).map RW.dc = es at n1 z1 ⊢;refine AWP_skip ?_;show AWP _ _ _ _ _ _;refine AWP_seq ?_;refine AWP_block ?_
      rcases i with _ | i
      · refine AWP_reg_seq tok fun K hK => ?_;refine s_indexAddr rfl (x_m cM rfl rfl rfl rfl hg rfl) rfl ?_;refine ldQ ?_;refine asQ ?_;refine s_end (hK _ ?_); clear hK K;refine AWP_reg tok fun K hK => ?_;refine mvQ ?_;refine mvQ ?_;refine mvQ ?_;refine s_call rfl rfl (cD) rfl rfl rfl rfl ?_;refine s_buildSlice rfl rfl rfl rfl ?_;refine s_append rfl (ap_nil rfl rfl rfl rfl rfl (by decide) (Nat.le_of_ble_eq_true rfl) rfl (by simp) rfl (by simp) (by simp)) rfl rfl rfl ?_;refine asQ ?_;refine s_end (hK _ ?_); clear hK K;show AWP _ _ _ _ _ _;refine AWP_reg tok fun K hK => ?_;refine s_bin rfl (e_add (c := ((0 + 1 : Nat) : Int)) (by omega) (by omega)) rfl ?_;refine mvQ ?_;refine s_end (hK _ ?_); clear hK K;refine ⟨0 + 1, by omega, hg, Wk.rn [1, 6, 19, 20, 21] [30] 30 200 rfl rfl rfl ⟨rfl, ?_, rfl, rfl, rfl, trivial⟩ ⟨?_, trivial⟩⟩
        · first
            | rfl
            | (show SV.val (.one (.own 200 4 0 _)) = _
               rw [List.length_append, z1]; rfl)
        · first
            | (rw [← n1, List.length_eq_zero_iff.1 z1]; rfl)
            | (rw [← n1]; rfl)
      · refine AWP_reg_seq tok fun K hK => ?_;refine s_indexAddr rfl (x_m cM rfl rfl rfl rfl hg rfl) rfl ?_;refine ldQ ?_;refine asQ ?_;refine s_end (hK _ ?_); clear hK K;refine AWP_reg tok fun K hK => ?_;refine mvQ ?_;refine mvQ ?_;refine mvQ ?_;refine s_call rfl rfl (cD) rfl rfl rfl rfl ?_;refine s_buildSlice rfl rfl rfl rfl ?_;refine s_append rfl (ap_o rfl rfl rfl rfl rfl rfl (by decide) (Nat.le_of_ble_eq_true rfl) rfl (by simp) rfl rfl z1.symm (by simp <;> omega)) rfl rfl rfl ?_;refine asQ ?_;refine s_end (hK _ ?_); clear hK K;show AWP _ _ _ _ _ _;refine AWP_reg tok fun K hK => ?_;refine s_bin rfl (e_add (c := ((i + 1 + 1 : Nat) : Int)) (by omega) (by omega)) rfl ?_;refine mvQ ?_;refine s_end (hK _ ?_); clear hK K;refine ⟨i + 1 + 1, by omega, hg, Wk.rn [1, 6, 19, 20, 21] [30] 30 200 rfl rfl rfl ⟨rfl, ?_, rfl, rfl, rfl, trivial⟩ ⟨?_, trivial⟩⟩
        · first
            | rfl
            | (show SV.val (.one (.own 200 4 0 _)) = _
               rw [List.length_append, z1]; rfl)
        · first
            | (rw [← n1, List.length_eq_zero_iff.1 z1]; rfl)
            | (rw [← n1]; rfl)
    have hg : i = m.length := by simp at hg; omega
    subst hg
    rw [List.take_length]
    have zL : (m.map fun r => qzW (dtS r x m.length)).length = m.length := List.length_map _
    generalize (m.map fun r => qzW (dtS r x m.length)) = LL at zL ⊢;rw [← zL];refine AWP_exit ?_;show AWP _ _ _ _ _ _
    rcases LL with _ | ⟨l, LL⟩
    · refine AWP_reg_seq tok fun K hK => ?_;refine mvQ ?_;refine asQ ?_;refine asQ ?_;refine s_end (hK _ ?_); clear hK K;refine AWP_ret ?_
      repeat (with_reducible refine tq_ret ?_)
      exact post_ret (fin_mk (by rfl) (by rfl) (by rfl))
    · refine a_fz [6] [200] 200 [(6, V1 (dRs (l :: LL)))] [] rfl ?_ trivial ?_
      · exact ⟨frz_own rfl (by simp), trivial⟩
      refine AWP_reg_seq tok fun K hK => ?_;refine mvQ ?_;refine asQ ?_;refine asQ ?_;refine s_end (hK _ ?_); clear hK K;refine AWP_ret ?_
      repeat (with_reducible refine tq_ret ?_)
      exact post_ret (fin_mk (by rfl) (by rfl) (by rfl))
  · rw [tmsV, if_neg hc]
    by_cases hv : validM m = true
    · have hlx : x.length ≠ m.length := fun h => hc ⟨hv, h⟩
      rw [hv] at cV;refine AWP_seq ?_;refine AWP_reg_seq tok fun K hK => ?_;refine mvQ ?_;refine s_call rfl rfl (cV) rfl rfl rfl rfl ?_;refine s_un rfl rfl rfl ?_;refine mvQ ?_;refine mvQ ?_;refine s_blt rfl (len_m RW.dc rfl rfl) rfl ?_;refine mvQ ?_;refine s_blt rfl (len_m cM rfl rfl) rfl ?_;refine s_bin rfl (e_neK (c := true) (by simp; omega)) rfl ?_;refine piQ ?_;refine s_end (hK _ ?_); clear hK K;refine a_cond rfl (fun _ => ?_) (fun h => by cases h);refine AWP_reg_seq tok fun K hK => ?_;refine asQ ?_;refine asQ ?_;refine s_end (hK _ ?_); clear hK K;refine AWP_ret ?_
      repeat (with_reducible refine tq_ret ?_)
      exact post_ret (fin_mk (by rfl) (by rfl) (by rfl))
    · have hv : validM m = false := by simpa using hv
      rw [hv] at cV;refine AWP_seq ?_;refine AWP_reg_seq tok fun K hK => ?_;refine mvQ ?_;refine s_call rfl rfl (cV) rfl rfl rfl rfl ?_;refine s_un rfl rfl rfl ?_;refine mvQ ?_;refine s_skip rfl ?_;refine s_skip rfl ?_;refine s_skip rfl ?_;refine s_skip rfl ?_;refine s_skip rfl ?_;refine piQ ?_;refine s_end (hK _ ?_); clear hK K;refine a_cond rfl (fun _ => ?_) (fun h => by cases h);refine AWP_reg_seq tok fun K hK => ?_;refine asQ ?_;refine asQ ?_;refine s_end (hK _ ?_); clear hK K;refine AWP_ret ?_
      repeat (with_reducible refine tq_ret ?_)
      exact post_ret (fin_mk (by rfl) (by rfl) (by rfl))
def frmV (m : List (List RW)) (x : List RW) : RW × Int := if validM m = true ∧ x.length = m.length then (qzW (fm m.length (matV m) (rhsV x)), 0) else (rw00, 1)
theorem mat_row {m : List (List RW)} {i j : Nat} (h : i < m.length) : rhsV m[i] j = matV m i j := by
  unfold rhsV matV mtv
  rw [List.getD_eq_getElem?_getD (l := m), List.getElem?_eq_getElem h]; rfl
theorem sForm_c (m : List (List RW)) (x : List RW) (A B : Nat) (hl : m.length ≤ 9223372036854775806) (hr : ∀ r ∈ m, r.length ≤ 9223372036854775806) (ok : okM 65536 m) (ha : okM A m) (hx : ∀ r ∈ x, r.OK B) (hA : 1 ≤ A ∧ A ≤ 12000) (hB : 1 ≤ B ∧ B ≤ 12000) :
    Con Tryz.prog 42 [V1 (dMs m), V1 (dRs x)] { v := .tup [.agg (frmV m x).1.cs, .one (.d (lI (frmV m x).2))] } := by
  have cT := sTimes_c m x A B hl hr ok ha hx (by omega) (by omega)
  refine con_intro (fn := Tryz.f42) tok Tryz.func42 (by kernel_rfl) rfl ?_
  intro w0 X
  rw [entry_mkE _ _ [(0, V1 (dMs m)), (1, V1 (dRs x))] rfl rfl];refine AWP_reg_seq tok fun K hK => ?_;refine s_alloc rfl rfl rfl rfl rfl rfl ?_;refine asQ ?_;refine s_end (hK _ ?_); clear hK K
  by_cases hc : validM m = true ∧ x.length = m.length
  · obtain ⟨hv, hlx⟩ := hc
    rw [frmV, if_pos ⟨hv, hlx⟩];rw [tmsV, if_pos ⟨hv, hlx⟩] at cT
    have hV := of_decide_eq_true hv
    have n16 := hV.1
    have hly : (m.map fun r => qzW (dtS r x m.length)).length = m.length := List.length_map _
    have oy : ∀ r ∈ (m.map fun r => qzW (dtS r x m.length)), r.OK 400000 := fun r hr => by
      obtain ⟨t, ht, rfl⟩ := List.mem_map.1 hr
      have q := dtS_ql (a := t) (x := x) (A := A) (B := B) (fun i h => by rw [rhsV_at h]; exact (ha t ht _ (List.getElem_mem h)).ql (Nat.ble_eq_true_of_le hA.1)) (fun i h => by rw [rhsV_at h]; exact (hx _ (List.getElem_mem h)).ql (Nat.ble_eq_true_of_le hB.1)) (k := m.length) (by rw [hV.2.1 t ht]; omega) (by omega)
      have h1 : m.length * (A + B + 1) ≤ 16 * (A + B + 1) := Nat.mul_le_mul_right _ n16
      exact qzW_ok (by omega)
    have cD := sDot_c x (m.map fun r => qzW (dtS r x m.length)) B 400000 (by omega) (by omega) hx oy (by omega) (by omega)
    have eD : dtS x (m.map fun r => qzW (dtS r x m.length)) x.length = fm m.length (matV m) (rhsV x) := by
      rw [hlx]
      unfold fm
      refine sm_congr fun i hi => ?_
      have : rhsV (m.map fun r => qzW (dtS r x m.length)) i = dtS m[i] x m.length := by
        rw [rhsV_at (by omega), List.getElem_map, qzW_v]
      rw [this]
      congr 1
      exact sm_congr fun j hj => by rw [mat_row hi]
    rw [eD] at cD;generalize (m.map fun r => qzW (dtS r x m.length)) = y at cT cD;refine AWP_reg_seq tok fun K hK => ?_;refine mvQ ?_;refine mvQ ?_;refine s_call rfl rfl (cT) rfl rfl rfl rfl ?_;refine mvQ ?_;refine s_extract rfl rfl rfl ?_;refine s_extract rfl rfl rfl ?_;refine asQ ?_;refine asQ ?_;refine s_end (hK _ ?_); clear hK K;refine AWP_seq ?_;refine AWP_reg_seq tok fun K hK => ?_;refine mvQ ?_;refine biQ ?_;refine s_end (hK _ ?_); clear hK K;refine a_cond rfl (fun h => by cases h) (fun _ => ?_);refine AWP_skip ?_;show AWP _ _ _ _ _ _;refine AWP_reg_seq tok fun K hK => ?_;refine mvQ ?_;refine mvQ ?_;refine s_call rfl rfl (cD) rfl rfl rfl rfl ?_;refine s_store rfl rfl rfl rfl rfl ?_;refine asQ ?_;refine s_end (hK _ ?_); clear hK K;refine AWP_ret ?_
    repeat (with_reducible refine tq_ret ?_)
    exact post_ret (fin_mk (by rfl) (by rfl) (by rfl))
  · rw [frmV, if_neg hc];rw [tmsV, if_neg hc] at cT;refine AWP_reg_seq tok fun K hK => ?_;refine mvQ ?_;refine mvQ ?_;refine s_call rfl rfl (cT) rfl rfl rfl rfl ?_;refine mvQ ?_;refine s_extract rfl rfl rfl ?_;refine s_extract rfl rfl rfl ?_;refine asQ ?_;refine asQ ?_;refine s_end (hK _ ?_); clear hK K;refine AWP_seq ?_;refine AWP_reg_seq tok fun K hK => ?_;refine mvQ ?_;refine biQ ?_;refine s_end (hK _ ?_); clear hK K;refine a_cond rfl (fun _ => ?_) (fun h => by cases h);refine AWP_reg_seq tok fun K hK => ?_;refine s_build rfl rfl rfl ?_;refine mvQ ?_;refine s_store rfl rfl rfl rfl rfl ?_;refine asQ ?_;refine s_end (hK _ ?_); clear hK K;refine AWP_ret ?_
    repeat (with_reducible refine tq_ret ?_)
    exact post_ret (fin_mk (by rfl) (by rfl) (by rfl))
end Go.Proofs.YtlnbkmkkiemcaaaGreatDoor

/- law31: Form. No condition. -/
namespace Go.Proofs.YtlnbkmkkiemcaaaGreatDoor
attribute [local irreducible] lexA
open Go.RowKit

def dfL (X Y : Nat → Rat) (k : Nat) : List RW := (List.range k).map fun i => qzW (X i - Y i)
theorem dfL_snoc (X Y : Nat → Rat) (k : Nat) : (dfL X Y k).map RW.dc ++ [(qzW (X k - Y k)).dc] = (dfL X Y (k + 1)).map RW.dc := by
  unfold dfL; rw [List.range_succ, List.map_append, List.map_append]; rfl
theorem dfL_len (X Y : Nat → Rat) (k : Nat) : (dfL X Y k).length = k := by simp [dfL]
theorem dfL_at {X Y : Nat → Rat} {k i : Nat} (h : i < k) : rhsV (dfL X Y k) i = X i - Y i := by
  unfold rhsV dfL
  rw [List.getD_eq_getElem?_getD, List.getElem?_map, List.getElem?_range h];exact qzW_v _
section
variable {g : GR} (gv : GV g)
include gv
theorem lap_valid : validM (lapQ g.nodes.length (lapM g.links)) = true := by
  have e : lapQ g.nodes.length (lapM g.links) = matW g.nodes.length g.nodes.length (fun a b => qzW ((lapM g.links a b : Int) : Rat)) := rfl
  rw [e];refine decide_eq_true (VMp_mat.2 ⟨gv.n2, fun i hi j hj => ?_⟩);rw [qzW_v, qzW_v, lap_lpl (gLV gv), lap_lpl (gLV gv), lpl_symm]
theorem lap_form {X Y : Nat → Rat} : fm g.nodes.length (matV (lapQ g.nodes.length (lapM g.links))) (rhsV (dfL X Y g.nodes.length)) = EN (fun v => X v - Y v) (fun v => X v - Y v) (wls g.links) := by
  have e : lapQ g.nodes.length (lapM g.links) = matW g.nodes.length g.nodes.length (fun a b => qzW ((lapM g.links a b : Int) : Rat)) := rfl
  rw [← sm_LU (n := g.nodes.length) (u := fun v => X v - Y v) (v := fun v => X v - Y v) (wls_l gv)]
  unfold fm
  refine sm_congr fun i hi => ?_;rw [dfL_at hi]
  congr 1
  rw [← sm_lpl (n := g.nodes.length) (u := fun v => X v - Y v) i (wls_l gv)];refine sm_congr fun j hj => ?_
  unfold matV
  rw [e, mtv_mat hi hj, qzW_v, lap_lpl (gLV gv), dfL_at hj]
theorem lap_ok : okM 2 (lapQ g.nodes.length (lapM g.links)) := by
  intro r hr x hx
  obtain ⟨a, _, rfl⟩ := List.mem_map.1 hr
  obtain ⟨b, _, rfl⟩ := List.mem_map.1 hx
  have h1 := lapM_le g.links (gLV gv) a b
  have h2 := gv.l
  exact qzW_ok (ql_i64 ⟨by omega, by omega⟩)
end
theorem fm_ql {n : Nat} {A : Nat → Nat → Rat} {x : Nat → Rat} {B : Nat} (hn : n ≤ 16) (hA : ∀ i j, i < n → j < n → ql (A i j) ≤ 2) (hx : ∀ i, i < n → ql (x i) ≤ B) : ql (fm n A x) ≤ 1 + 16 * (B + (1 + 16 * (2 + B + 1)) + 1) := by
  unfold fm
  have h1 : ∀ i, i < n → ql (sm n (fun j => A i j * x j)) ≤ 1 + 16 * (2 + B + 1) := fun i hi => by
    have := ql_sm_le (k := n) (f := fun j => A i j * x j) (M := 2 + B) fun j hj => ql_mul_le (hA i j hi hj) (hx j hj)
    have h2 : n * (2 + B + 1) ≤ 16 * (2 + B + 1) := Nat.mul_le_mul_right _ hn
    omega
  have := ql_sm_le (k := n) (f := fun i => x i * sm n (fun j => A i j * x j)) (M := B + (1 + 16 * (2 + B + 1))) fun i hi => ql_mul_le (hx i hi) (h1 i hi)
  have h2 : n * (B + (1 + 16 * (2 + B + 1)) + 1) ≤ 16 * (B + (1 + 16 * (2 + B + 1)) + 1) := Nat.mul_le_mul_right _ hn
  omega

set_option maxHeartbeats 1000000 in
theorem lForm_c (g : GR) (s : List SP) (hg : ∀ r ∈ g.nodes, r.W) (hs : ∀ p ∈ s, p.W) (hl : s.length ≤ 9223372036854775807) : Con Tryz.prog 10 [AG g.cs, V1 (dSs s)] { v := dB true } := by
  refine con_intro (fn := Tryz.f10) tok Tryz.func10 (by kernel_rfl) rfl ?_
  intro w0 X
  rw [entry_mkE _ _ [(0, AG g.cs), (1, V1 (dSs s))] rfl rfl];refine AWP_reg_seq tok fun K hK => ?_;refine s_box rfl rfl rfl rfl rfl rfl ?_;refine asQ ?_;refine s_end (hK _ ?_); clear hK K;refine AWP_seq ?_;refine a_join (α := Bool) (fun c => mk 145 [(1, V1 (dSs s)), (2, .ptr 2 0), (31, dB c)] [(2, some (.box g.cs))] []) (fun c => c = !(few31 g && sh31 s)) ?_ ?_
  · refine AWP_regW fun K hK => ?_;refine w_step tok rfl ?_;refine s_call rfl rfl (awake31_c) rfl rfl rfl rfl ?_;refine s_end ?_;refine w_step tok rfl ?_;refine s_un rfl rfl rfl ?_;refine s_end ?_;refine w_step tok rfl ?_;refine mvQ ?_;refine s_end ?_;refine w_split (fun h0 => ?_) (fun h0 => ?_)
    · refine w_skip rfl rfl ?_;refine w_skip rfl rfl ?_;refine w_skip rfl rfl ?_;refine w_step tok rfl ?_;refine piQ ?_;refine s_end ?_;refine w_step tok rfl ?_;refine mvQ ?_;refine s_end ?_;refine w_skip rfl rfl ?_;refine w_skip rfl rfl ?_;refine w_skip rfl rfl ?_;refine w_step tok rfl ?_;refine piQ ?_;refine s_end ?_;refine w_end rfl (hK _ ?_); clear hK K
      first|(exact absurd h0 (by decide))|exact ⟨_, (by simp only [Bool.not_eq_true', Bool.not_eq_false'] at h0; simp only [h0, Bool.false_and, Bool.true_and, Bool.not_false, Bool.not_true]), Wk.mk' ⟨rfl, rfl, rfl, trivial⟩ ⟨rfl, trivial⟩⟩
    · refine w_step tok rfl ?_;refine ldQ ?_;refine s_end ?_;refine w_step tok rfl ?_;refine s_call rfl rfl (few31_c g) rfl rfl rfl rfl ?_;refine s_end ?_;refine w_step tok rfl ?_;refine s_un rfl rfl rfl ?_;refine s_end ?_;refine w_step tok rfl ?_;refine piQ ?_;refine s_end ?_;refine w_step tok rfl ?_;refine mvQ ?_;refine s_end ?_;refine w_split (fun h1 => ?_) (fun h1 => ?_)
      · refine w_skip rfl rfl ?_;refine w_skip rfl rfl ?_;refine w_skip rfl rfl ?_;refine w_step tok rfl ?_;refine piQ ?_;refine s_end ?_;refine w_end rfl (hK _ ?_); clear hK K
        first|(exact absurd h0 (by decide))|exact ⟨_, (by simp only [Bool.not_eq_true', Bool.not_eq_false'] at h0 h1; simp only [h0, h1, Bool.false_and, Bool.true_and, Bool.not_false, Bool.not_true]), Wk.mk' ⟨rfl, rfl, rfl, trivial⟩ ⟨rfl, trivial⟩⟩
      · refine w_step tok rfl ?_;refine mvQ ?_;refine s_end ?_;refine w_step tok rfl ?_;refine s_call rfl rfl (sh31_c s hl) rfl rfl rfl rfl ?_;refine s_end ?_;refine w_step tok rfl ?_;refine s_un rfl rfl rfl ?_;refine s_end ?_;refine w_step tok rfl ?_;refine piQ ?_;refine s_end ?_;refine w_end rfl (hK _ ?_); clear hK K
        first|(exact absurd h0 (by decide))|exact ⟨_, (by simp only [Bool.not_eq_true', Bool.not_eq_false'] at h0 h1; simp only [h0, h1, Bool.false_and, Bool.true_and, Bool.not_false, Bool.not_true]), Wk.mk' ⟨rfl, rfl, rfl, trivial⟩ ⟨rfl, trivial⟩⟩
  rintro c rfl
  refine a_cond rfl (fun hc => ?_) (fun hc => ?_)
  · refine AWP_reg_seq tok fun K hK => ?_;refine s_call rfl rfl (awake31_c) rfl rfl rfl rfl ?_;refine asQ ?_;refine s_end (hK _ ?_); clear hK K;refine AWP_ret ?_
    repeat (with_reducible refine tq_ret ?_)
    exact post_ret (fin_mk (by rfl) (by rfl) (by rfl))
  rw [Bool.not_eq_false', Bool.and_eq_true] at hc
  obtain ⟨hf, hsh⟩ := hc
  obtain ⟨ok1, hsm, _⟩ := few31_ok hg hf
  obtain ⟨os1, hs6⟩ := sh31_ok hs hsh
  have ok : ∀ r ∈ g.nodes, r.OK 4096 := fun r hr => (ok1 r hr).mono rfl
  have os : ∀ p ∈ s, p.OK 4096 := fun p hp => (os1 p hp).mono rfl
  have cM := gMin_c g ok hsm
  have cL := gLst_c g ok hsm
  have cC := gCost_c g s ok os
  have cA := gLap_c g
  refine AWP_skip ?_;show AWP _ _ _ _ _ _
  by_cases hm : validB g = true ∧ cnB g = true
  · obtain ⟨hv, hcn⟩ := hm
    have gv := validB_iff.1 hv
    have n16 := gv.n2
    have n1 := gv.n1
    have hml := mnL_length g
    rw [minV, if_pos hv, if_pos hcn] at cM;rw [lstV, if_pos hv, if_pos hcn] at cL
    by_cases hsn : s.length = g.nodes.length
    · have hb : costB g s = true := costB_iff.2 ⟨gv, hsn⟩
      have h := costB_iff.1 hb
      rw [costV, if_pos hb] at cC;rw [lapV, if_pos hv] at cA
      have om := mn_ok gv (hsm hv) hcn
      have om4 : ∀ p ∈ mnL g, p.OK 4096 := fun p hp => (om p hp).mono rfl
      have hd : ∀ i (h1 : i < s.length) (h2 : i < (mnL g).length), Con Tryz.prog 41 [AG (s[i]'h1).x.cs, AG ((mnL g)[i]'h2).x.cs] { v := AG (qzW (xs s i - mnX g i)).cs } ∧ Con Tryz.prog 41 [AG (s[i]'h1).y.cs, AG ((mnL g)[i]'h2).y.cs] { v := AG (qzW (ys s i - mnY g i)).cs } := fun i h1 h2 => by
        have o1 := os _ (List.getElem_mem h1)
        have o2 := om4 _ (List.getElem_mem h2)
        have a1 := xs_at h1
        have a2 := xs_at h2
        have a3 := mn_xs (g := g) (v := i) (by omega)
        rw [← a3.1, ← a3.2, ← a1.1, ← a1.2, ← a2.1, ← a2.2];exact ⟨qSub_t _ _ _ (o1.x.mono rfl) (o2.x.mono rfl) rfl, qSub_t _ _ _ (o1.y.mono rfl) (o2.y.mono rfl) rfl⟩
      have hqd : ∀ i, i < g.nodes.length → ql (xs s i - mnX g i) ≤ 1700 ∧ ql (ys s i - mnY g i) ≤ 1700 := fun i hi => by
        have o1 := os1 _ (List.getElem_mem (l := s) (n := i) (by omega))
        have a1 := xs_at (s := s) (i := i) (by omega)
        have b := (nrm_all gv (hsm hv)).qx hcn i hi
        rw [← a1.1, ← a1.2];exact ⟨Nat.le_trans (ql_sub_le (o1.qx rfl) b.1) (by omega), Nat.le_trans (ql_sub_le (o1.qy rfl) b.2) (by omega)⟩
      have lv := lap_valid gv
      have lo := lap_ok gv
      have ll : (lapQ g.nodes.length (lapM g.links)).length = g.nodes.length := by simp [lapQ]
      have lr : ∀ r ∈ lapQ g.nodes.length (lapM g.links), r.length ≤ 9223372036854775806 := fun r hr => by
        obtain ⟨a, _, rfl⟩ := List.mem_map.1 hr
        simp [lapR]; omega
      have odX : ∀ r ∈ dfL (xs s) (mnX g) g.nodes.length, r.OK 1700 := fun r hr => by
        obtain ⟨i, hi, rfl⟩ := List.mem_map.1 hr
        exact qzW_ok (hqd i (List.mem_range.1 hi)).1
      have odY : ∀ r ∈ dfL (ys s) (mnY g) g.nodes.length, r.OK 1700 := fun r hr => by
        obtain ⟨i, hi, rfl⟩ := List.mem_map.1 hr
        exact qzW_ok (hqd i (List.mem_range.1 hi)).2
      have lo6 : okM 65536 (lapQ g.nodes.length (lapM g.links)) := fun r hr x hx => (lo r hr x hx).mono rfl
      have cF1 := sForm_c (lapQ g.nodes.length (lapM g.links)) (dfL (xs s) (mnX g) g.nodes.length) 2 1700 (by omega) lr lo6 lo odX (by omega) (by omega)
      have cF2 := sForm_c (lapQ g.nodes.length (lapM g.links)) (dfL (ys s) (mnY g) g.nodes.length) 2 1700 (by omega) lr lo6 lo odY (by omega) (by omega)
      rw [frmV, if_pos ⟨lv, by rw [dfL_len, ll]⟩, ll] at cF1 cF2
      have hA : ∀ i j, i < g.nodes.length → j < g.nodes.length → ql (matV (lapQ g.nodes.length (lapM g.links)) i j) ≤ 2 := fun i j hi hj => by
        have e : lapQ g.nodes.length (lapM g.links) = matW g.nodes.length g.nodes.length (fun a b => qzW ((lapM g.links a b : Int) : Rat)) := rfl
        unfold matV
        rw [e, mtv_mat hi hj, qzW_v]
        have h1 := lapM_le g.links (gLV gv) i j
        have h2 := gv.l
        exact ql_i64 ⟨by omega, by omega⟩
      have qU := fm_ql (B := 1700) n16 hA (x := rhsV (dfL (xs s) (mnX g) g.nodes.length)) fun i hi => by rw [dfL_at hi]; exact (hqd i hi).1
      have qV := fm_ql (B := 1700) n16 hA (x := rhsV (dfL (ys s) (mnY g) g.nodes.length)) fun i hi => by rw [dfL_at hi]; exact (hqd i hi).2
      rw [lap_form gv] at cF1 cF2 qU qV
      have ef := cost_form gv hcn s
      have qC : ql (csR g s g.links) ≤ 5000000 := by
        have := csR_le h ok os g.links (fun l hl => hl) 0
        have z : ql (0 : Rat) ≤ 1 := ql_zero
        have := gv.l
        unfold csR; omega
      have qL : ql (lsQ g) ≤ 5000000 := by
        have := csR_le (g := g) (s := mnL g) ⟨gv, hml⟩ ok om4 g.links (fun l hl => hl) 0
        have z : ql (0 : Rat) ≤ 1 := ql_zero
        have := gv.l
        rw [← cs_mn gv]; unfold csR; omega
      generalize EN (fun v => xs s v - mnX g v) (fun v => xs s v - mnX g v) (wls g.links) = u at cF1 qU ef;generalize EN (fun v => ys s v - mnY g v) (fun v => ys s v - mnY g v) (wls g.links) = w at cF2 qV ef;generalize lsQ g = lq at cL qL ef;generalize csR g s g.links = cq at cC qC ef
      have quw := ql_add_le qU qV
      have k1 := qAdd_t (qzW u) (qzW w) (u + w) (qzW_ok (by omega)) (qzW_ok (by omega)) (by rw [qzW_v, qzW_v])
      have k2 := qAdd_t (qzW lq) (qzW (u + w)) (lq + (u + w)) (qzW_ok (by omega)) (qzW_ok (by omega)) (by rw [qzW_v, qzW_v])
      have k3 := qCmp_t (qzW cq) (qzW (lq + (u + w))) (qzW_ok (by omega)) (qzW_ok (Nat.le_trans (ql_add_le qL quw) (by omega)))
      rw [qzW_v, qzW_v, (qcmp_z _ _).2 ef] at k3;generalize lapQ g.nodes.length (lapM g.links) = LQ at cA cF1 cF2;generalize hM : mnL g = m at *;generalize mnX g = mx at *;generalize mnY g = my at *;generalize hX : xs s = X at *;generalize hY : ys s = Y at *
      obtain ⟨n, hn⟩ : ∃ n, n = g.nodes.length := ⟨_, rfl⟩
      rw [← hn] at cF1 cF2 hml hsn n1 n16;refine AWP_reg_seq tok fun K hK => ?_;refine ldQ ?_;refine s_call rfl rfl (cM) rfl rfl rfl rfl ?_;refine mvQ ?_;refine s_extract rfl rfl rfl ?_;refine s_extract rfl rfl rfl ?_;refine asQ ?_;refine asQ ?_;refine s_end (hK _ ?_); clear hK K;refine AWP_seq ?_;refine AWP_reg_seq tok fun K hK => ?_;refine mvQ ?_;refine biQ ?_;refine mvQ ?_;refine mvQ ?_;refine s_blt rfl (len_m SP.dc rfl rfl) rfl ?_;refine mvQ ?_;refine s_blt rfl (len_m SP.dc rfl rfl) rfl ?_;refine s_bin rfl (e_neK (c := false) (by rw [hsn, hml]; simp)) rfl ?_;refine piQ ?_;refine s_end (hK _ ?_); clear hK K;refine a_cond rfl (fun h => by cases h) (fun _ => ?_);refine AWP_skip ?_;show AWP _ _ _ _ _ _;refine AWP_reg_seq tok fun K hK => ?_;refine ldQ ?_;refine s_call rfl rfl (cL) rfl rfl rfl rfl ?_;refine mvQ ?_;refine s_extract rfl rfl rfl ?_;refine s_extract rfl rfl rfl ?_;refine s_alloc rfl rfl rfl rfl rfl rfl ?_;refine s_store rfl rfl rfl rfl rfl ?_;refine asQ ?_;refine s_end (hK _ ?_); clear hK K;refine AWP_reg_seq tok fun K hK => ?_;refine ldQ ?_;refine mvQ ?_;refine s_call rfl rfl (cC) rfl rfl rfl rfl ?_;refine mvQ ?_;refine s_extract rfl rfl rfl ?_;refine s_extract rfl rfl rfl ?_;refine s_alloc rfl rfl rfl rfl rfl rfl ?_;refine s_store rfl rfl rfl rfl rfl ?_;refine asQ ?_;refine s_end (hK _ ?_); clear hK K;refine AWP_reg_seq tok fun K hK => ?_;refine ldQ ?_;refine s_call rfl rfl (cA) rfl rfl rfl rfl ?_;refine mvQ ?_;refine s_extract rfl rfl rfl ?_;refine s_extract rfl rfl rfl ?_;refine asQ ?_;refine asQ ?_;refine s_end (hK _ ?_); clear hK K;refine AWP_seq ?_;refine AWP_reg_seq tok fun K hK => ?_;refine mvQ ?_;refine biQ ?_;refine mvQ ?_;refine mvQ ?_;refine biQ ?_;refine piQ ?_;refine mvQ ?_;refine mvQ ?_;refine biQ ?_;refine piQ ?_;refine s_end (hK _ ?_); clear hK K;refine a_cond rfl (fun h => by cases h) (fun _ => ?_);refine AWP_skip ?_;show AWP _ _ _ _ _ _;refine AWP_reg_seq tok fun K hK => ?_;refine asQ ?_;refine asQ ?_;refine s_end (hK _ ?_); clear hK K;refine AWP_seq ?_;refine AWP_reg_seq tok fun K hK => ?_;refine asQ ?_;refine s_end (hK _ ?_); clear hK K;refine AWP_block (a_loop (α := Nat) (fun i => mk 145 [(1, V1 (dSs s)), (5, V1 (dSs m)), (7, .ptr 7 0), (9, .ptr 9 0), (11, V1 (dMs LQ)), (13, ownN 200 4 i), (14, ownN 201 4 i), (15, dI i)] [(7, some (.box (qzW lq).cs)), (9, some (.box (qzW cq).cs)), (200, arrN 4 ((dfL X mx i).map RW.dc) i), (201, arrN 4 ((dfL Y my i).map RW.dc) i)] []) (fun i => i ≤ n) (fun i => n - i) 0 ?_ (Nat.zero_le _) ?_)
      · exact Wk.mk' ⟨rfl, rfl, rfl, rfl, rfl, rfl, rfl, rfl, trivial⟩ ⟨rfl, rfl, rfl, rfl, trivial⟩
      intro i hi
      refine AWP_seq ?_;refine AWP_reg_seq tok fun K hK => ?_;refine mvQ ?_;refine mvQ ?_;refine s_blt rfl (len_m SP.dc rfl rfl) rfl ?_;refine biQ ?_;refine s_end (hK _ ?_); clear hK K;refine a_cond rfl (fun hg' => ?_) (fun hg' => ?_)
      · have hg' : i < n := by simp at hg'; omega
        have g1 : i < s.length := by omega
        have g2 : i < m.length := by omega
        obtain ⟨d1, d2⟩ := hd i g1 g2
        have nx := dfL_snoc X mx i
        have ny := dfL_snoc Y my i
        have zx : ((dfL X mx i).map RW.dc).length = i := by rw [List.length_map, dfL_len]
        have zy : ((dfL Y my i).map RW.dc).length = i := by rw [List.length_map, dfL_len]
        generalize qzW (X i - mx i) = q1 at d1 nx;generalize qzW (Y i - my i) = q2 at d2 ny;generalize (dfL X mx i).map RW.dc = es at nx zx ⊢;generalize (dfL Y my i).map RW.dc = fs at ny zy ⊢;refine AWP_skip ?_;show AWP _ _ _ _ _ _;refine AWP_seq ?_;refine AWP_block ?_
        rcases i with _ | i
        · refine a_draw tok mixed (A := [[], [], [], [], [1, 2], [1, 2, 3], [], [], [], [6, 7], [6, 7, 8], [1, 2, 3, 4, 6, 7, 8, 9], [1, 2, 3, 4, 5, 6, 7, 8, 9, 10], [1, 2, 3, 4, 5, 6, 7, 8, 9, 10], []]) (an := [{}, {}, {}, {}, {}, {}, {}, {}, {}, {}, {}, {}, {}, {}, {}]) rfl (by kernel_rfl) rfl fun K hK => ?_;refine mvQ ?_;refine mvQ ?_;refine mvQ ?_;refine s_indexAddr rfl (x_m SP.dc rfl rfl rfl rfl g1 rfl) rfl ?_;refine faQ ?_;refine ldQ ?_;refine mvQ ?_;refine mvQ ?_;refine s_indexAddr rfl (x_m SP.dc rfl rfl rfl rfl g2 rfl) rfl ?_;refine faQ ?_;refine ldQ ?_;refine s_call rfl rfl (d1) rfl rfl rfl rfl ?_;refine s_buildSlice rfl rfl rfl rfl ?_;refine s_append rfl (ap_nil rfl rfl rfl rfl rfl (by decide) (Nat.le_of_ble_eq_true rfl) rfl (by simp) rfl (by simp) (by simp)) rfl rfl rfl ?_;refine asQ ?_;refine s_end (hK _ ?_); clear hK K;refine a_draw1 tok mixed (A := [[], [], [], [], [1, 2], [1, 2, 3], [], [], [], [6, 7], [6, 7, 8], [1, 2, 3, 4, 6, 7, 8, 9], [1, 2, 3, 4, 5, 6, 7, 8, 9, 10], [1, 2, 3, 4, 5, 6, 7, 8, 9, 10], []]) (an := [{}, {}, {}, {}, {}, {}, {}, {}, {}, {}, {}, {}, {}, {}, {}]) rfl (by kernel_rfl) rfl fun K hK => ?_;refine mvQ ?_;refine mvQ ?_;refine mvQ ?_;refine s_indexAddr rfl (x_m SP.dc rfl rfl rfl rfl g1 rfl) rfl ?_;refine faQ ?_;refine ldQ ?_;refine mvQ ?_;refine mvQ ?_;refine s_indexAddr rfl (x_m SP.dc rfl rfl rfl rfl g2 rfl) rfl ?_;refine faQ ?_;refine ldQ ?_;refine s_call rfl rfl (d2) rfl rfl rfl rfl ?_;refine s_buildSlice rfl rfl rfl rfl ?_;refine s_append rfl (ap_nil rfl rfl rfl rfl rfl (by decide) (Nat.le_of_ble_eq_true rfl) rfl (by simp) rfl (by simp) (by simp)) rfl rfl rfl ?_;refine asQ ?_;refine s_end (hK _ ?_); clear hK K;refine a_rn [1, 5, 7, 9, 11, 13, 14, 15] [7, 9, 102, 116] 102 200 [(1, V1 (dSs s)), (5, V1 (dSs m)), (7, .ptr 7 0), (9, .ptr 9 0), (11, V1 (dMs LQ)), (13, .val (.one (.own 200 4 0 (0 + 1)))), (14, .val (.one (.own 116 4 0 (0 + 1)))), (15, dI 0)] [(7, some (.box (qzW lq).cs)), (9, some (.box (qzW cq).cs)), (200, some (.arr 4 ((dfL X mx (0 + 1)).map RW.dc))), (116, some (.arr 4 ((dfL Y my (0 + 1)).map RW.dc)))] rfl rfl rfl ⟨rfl, rfl, rfl, rfl, rfl, ?_, ?_, rfl, trivial⟩ ⟨rfl, rfl, ?_, ?_, trivial⟩ ?_
          · show SV.val (.one (.own 200 4 0 _)) = _
            first
              | rfl
              | (rw [List.length_append, zx]; rfl)
          · show SV.val (.one (.own 116 4 0 _)) = _
            first
              | rfl
              | (rw [List.length_append, zy]; rfl)
          · first
              | (rw [← nx, List.length_eq_zero_iff.1 zx]; rfl)
              | (rw [← nx]; rfl)
          · first
              | (rw [← ny, List.length_eq_zero_iff.1 zy]; rfl)
              | (rw [← ny]; rfl)
          show AWP _ _ _ _ _ _;refine AWP_reg tok fun K hK => ?_;refine mvQ ?_;refine s_bin rfl (e_add (c := ((0 + 1 : Nat) : Int)) (by omega) (by omega)) rfl ?_;refine asQ ?_;refine s_end (hK _ ?_); clear hK K;exact ⟨0 + 1, by omega, hg', Wk.rn [1, 5, 7, 9, 11, 13, 14, 15] [7, 9, 200, 116] 116 201 rfl rfl rfl ⟨rfl, rfl, rfl, rfl, rfl, rfl, rfl, rfl, trivial⟩ ⟨rfl, rfl, rfl, rfl, trivial⟩⟩
        · refine a_draw tok mixed (A := [[], [], [], [], [1, 2], [1, 2, 3], [], [], [], [6, 7], [6, 7, 8], [1, 2, 3, 4, 6, 7, 8, 9], [1, 2, 3, 4, 5, 6, 7, 8, 9, 10], [1, 2, 3, 4, 5, 6, 7, 8, 9, 10], []]) (an := [{}, {}, {}, {}, {}, {}, {}, {}, {}, {}, {}, {}, {}, {}, {}]) rfl (by kernel_rfl) rfl fun K hK => ?_;refine mvQ ?_;refine mvQ ?_;refine mvQ ?_;refine s_indexAddr rfl (x_m SP.dc rfl rfl rfl rfl g1 rfl) rfl ?_;refine faQ ?_;refine ldQ ?_;refine mvQ ?_;refine mvQ ?_;refine s_indexAddr rfl (x_m SP.dc rfl rfl rfl rfl g2 rfl) rfl ?_;refine faQ ?_;refine ldQ ?_;refine s_call rfl rfl (d1) rfl rfl rfl rfl ?_;refine s_buildSlice rfl rfl rfl rfl ?_;refine s_append rfl (ap_o rfl rfl rfl rfl rfl rfl (by decide) (Nat.le_of_ble_eq_true rfl) rfl (by simp) rfl rfl zx.symm (by simp <;> omega)) rfl rfl rfl ?_;refine asQ ?_;refine s_end (hK _ ?_); clear hK K;refine a_draw1 tok mixed (A := [[], [], [], [], [1, 2], [1, 2, 3], [], [], [], [6, 7], [6, 7, 8], [1, 2, 3, 4, 6, 7, 8, 9], [1, 2, 3, 4, 5, 6, 7, 8, 9, 10], [1, 2, 3, 4, 5, 6, 7, 8, 9, 10], []]) (an := [{}, {}, {}, {}, {}, {}, {}, {}, {}, {}, {}, {}, {}, {}, {}]) rfl (by kernel_rfl) rfl fun K hK => ?_;refine mvQ ?_;refine mvQ ?_;refine mvQ ?_;refine s_indexAddr rfl (x_m SP.dc rfl rfl rfl rfl g1 rfl) rfl ?_;refine faQ ?_;refine ldQ ?_;refine mvQ ?_;refine mvQ ?_;refine s_indexAddr rfl (x_m SP.dc rfl rfl rfl rfl g2 rfl) rfl ?_;refine faQ ?_;refine ldQ ?_;refine s_call rfl rfl (d2) rfl rfl rfl rfl ?_;refine s_buildSlice rfl rfl rfl rfl ?_;refine s_append rfl (ap_o rfl rfl rfl rfl rfl rfl (by decide) (Nat.le_of_ble_eq_true rfl) rfl (by simp) rfl rfl zy.symm (by simp <;> omega)) rfl rfl rfl ?_;refine asQ ?_;refine s_end (hK _ ?_); clear hK K;refine a_rn [1, 5, 7, 9, 11, 13, 14, 15] [7, 9, 102, 116] 102 200 [(1, V1 (dSs s)), (5, V1 (dSs m)), (7, .ptr 7 0), (9, .ptr 9 0), (11, V1 (dMs LQ)), (13, .val (.one (.own 200 4 0 ((i + 1) + 1)))), (14, .val (.one (.own 116 4 0 ((i + 1) + 1)))), (15, dI (i + 1))] [(7, some (.box (qzW lq).cs)), (9, some (.box (qzW cq).cs)), (200, some (.arr 4 ((dfL X mx ((i + 1) + 1)).map RW.dc))), (116, some (.arr 4 ((dfL Y my ((i + 1) + 1)).map RW.dc)))] rfl rfl rfl ⟨rfl, rfl, rfl, rfl, rfl, ?_, ?_, rfl, trivial⟩ ⟨rfl, rfl, ?_, ?_, trivial⟩ ?_
          · show SV.val (.one (.own 200 4 0 _)) = _
            first
              | rfl
              | (rw [List.length_append, zx]; rfl)
          · show SV.val (.one (.own 116 4 0 _)) = _
            first
              | rfl
              | (rw [List.length_append, zy]; rfl)
          · first
              | (rw [← nx, List.length_eq_zero_iff.1 zx]; rfl)
              | (rw [← nx]; rfl)
          · first
              | (rw [← ny, List.length_eq_zero_iff.1 zy]; rfl)
              | (rw [← ny]; rfl)
          show AWP _ _ _ _ _ _;refine AWP_reg tok fun K hK => ?_;refine mvQ ?_;refine s_bin rfl (e_add (c := (((i + 1) + 1 : Nat) : Int)) (by omega) (by omega)) rfl ?_;refine asQ ?_;refine s_end (hK _ ?_); clear hK K;exact ⟨(i + 1) + 1, by omega, hg', Wk.rn [1, 5, 7, 9, 11, 13, 14, 15] [7, 9, 200, 116] 116 201 rfl rfl rfl ⟨rfl, rfl, rfl, rfl, rfl, rfl, rfl, rfl, trivial⟩ ⟨rfl, rfl, rfl, rfl, trivial⟩⟩
      have hg' : i = n := by simp at hg'; omega
      subst hg'
      obtain ⟨k, hk⟩ : ∃ k, i = k + 1 := ⟨i - 1, by omega⟩
      have zX := dfL_len X mx i
      have zY := dfL_len Y my i
      clear hqd odX odY hd lo6 lr lo lv qU qV;generalize dfL X mx i = LX at *;generalize dfL Y my i = LY at *
      subst hk
      refine AWP_exit ?_;show AWP _ _ _ _ _ _;refine a_fz [7, 9, 11, 13, 14] [7, 9, 200, 201] 200 [(7, .ptr 7 0), (9, .ptr 9 0), (11, V1 (dMs LQ)), (13, V1 (dRs LX)), (14, .val (.one (.own 201 4 0 (k + 1))))] [(7, some (.box (qzW lq).cs)), (9, some (.box (qzW cq).cs)), (201, some (.arr 4 (LY.map RW.dc)))] rfl ?_ ⟨rfl, rfl, rfl, trivial⟩ ?_
      · exact ⟨rfl, rfl, rfl, frz_own rfl (by rw [List.length_map]; omega), rfl, trivial⟩
      refine a_fz [7, 9, 11, 13, 14] [7, 9, 201] 201 [(7, .ptr 7 0), (9, .ptr 9 0), (11, V1 (dMs LQ)), (13, V1 (dRs LX)), (14, V1 (dRs LY))] [(7, some (.box (qzW lq).cs)), (9, some (.box (qzW cq).cs))] rfl ?_ ⟨rfl, rfl, trivial⟩ ?_
      · exact ⟨rfl, rfl, rfl, rfl, frz_own rfl (by rw [List.length_map]; omega), trivial⟩
      refine AWP_reg_seq tok fun K hK => ?_;refine mvQ ?_;refine mvQ ?_;refine s_call rfl rfl (cF1) rfl rfl rfl rfl ?_;refine mvQ ?_;refine s_extract rfl rfl rfl ?_;refine s_extract rfl rfl rfl ?_;refine s_alloc rfl rfl rfl rfl rfl rfl ?_;refine s_store rfl rfl rfl rfl rfl ?_;refine asQ ?_;refine s_end (hK _ ?_); clear hK K;refine AWP_reg_seq tok fun K hK => ?_;refine mvQ ?_;refine mvQ ?_;refine s_call rfl rfl (cF2) rfl rfl rfl rfl ?_;refine mvQ ?_;refine s_extract rfl rfl rfl ?_;refine s_extract rfl rfl rfl ?_;refine s_alloc rfl rfl rfl rfl rfl rfl ?_;refine s_store rfl rfl rfl rfl rfl ?_;refine asQ ?_;refine s_end (hK _ ?_); clear hK K;refine a_draw tok mixed (A := [[], [], [0], [0, 1], [0, 1], [0, 1, 3], [0, 1, 3, 4], [0, 1, 2, 3, 4, 5], [0, 1, 2, 3, 4, 5], [0, 1, 2, 3, 4, 5], [0, 1, 2, 3, 4, 5], [0, 1, 2, 3, 4, 5], [0, 1, 2, 3, 4, 5, 9, 10], [0, 1, 2, 3, 4, 5, 8, 9, 10, 11], [0, 1, 2, 3, 4, 5, 7, 8, 9, 10, 11, 12], [0, 1, 2, 3, 4, 5, 7, 8, 9, 10, 11, 12, 13], []]) (an := [{}, {}, {}, {}, {}, {}, {}, {}, {}, {}, {}, {}, {}, {}, {}, {}, {}]) rfl (by kernel_rfl) rfl fun K hK => ?_;refine mvQ ?_;refine s_bin rfl (e_eqI rfl) rfl ?_;refine mvQ ?_;refine mvQ ?_;refine s_bin rfl (e_eqI rfl) rfl ?_;refine piQ ?_;refine mvQ ?_;refine ldQ ?_;refine ldQ ?_;refine ldQ ?_;refine ldQ ?_;refine s_call rfl rfl (k1) rfl rfl rfl rfl ?_;refine s_call rfl rfl (k2) rfl rfl rfl rfl ?_;refine s_call rfl rfl (k3) rfl rfl rfl rfl ?_;refine s_bin rfl (e_eqI rfl) rfl ?_;refine piQ ?_;refine asQ ?_;refine s_end (hK _ ?_); clear hK K;refine AWP_ret ?_
      repeat (with_reducible refine tq_ret ?_)
      exact post_ret (fin_mk (by rfl) (by rfl) (by rfl))
    · refine AWP_reg_seq tok fun K hK => ?_;refine ldQ ?_;refine s_call rfl rfl (cM) rfl rfl rfl rfl ?_;refine mvQ ?_;refine s_extract rfl rfl rfl ?_;refine s_extract rfl rfl rfl ?_;refine asQ ?_;refine asQ ?_;refine s_end (hK _ ?_); clear hK K;refine AWP_seq ?_;refine AWP_reg_seq tok fun K hK => ?_;refine mvQ ?_;refine biQ ?_;refine mvQ ?_;refine mvQ ?_;refine s_blt rfl (len_m SP.dc rfl rfl) rfl ?_;refine mvQ ?_;refine s_blt rfl (len_m SP.dc rfl rfl) rfl ?_;refine s_bin rfl (e_neK (c := true) (by rw [hml]; simp; omega)) rfl ?_;refine piQ ?_;refine s_end (hK _ ?_); clear hK K;refine a_cond rfl (fun _ => ?_) (fun h => by cases h);refine AWP_reg_seq tok fun K hK => ?_;refine mvQ ?_;refine biQ ?_;refine mvQ ?_;refine mvQ ?_;refine s_blt rfl (len_m SP.dc rfl rfl) rfl ?_;refine faQ ?_;refine ldQ ?_;refine s_blt rfl (len_m RW.dc rfl rfl) rfl ?_;refine s_bin rfl (e_eqI (by rw [hml])) rfl ?_;refine piQ ?_;refine asQ ?_;refine s_end (hK _ ?_); clear hK K;refine AWP_ret ?_
      repeat (with_reducible refine tq_ret ?_)
      exact post_ret (fin_mk (by rfl) (by rfl) (by rfl))
  · have e1 : ∃ e : Int, minV g = ([], e) ∧ (e != 0) = true := by
      unfold minV
      by_cases hv : validB g = true
      · rw [if_pos hv, if_neg fun h => hm ⟨hv, h⟩]; exact ⟨_, rfl, rfl⟩
      · rw [if_neg hv]; exact ⟨_, rfl, rfl⟩
    obtain ⟨e, e1, e2⟩ := e1
    rw [e1] at cM;refine AWP_reg_seq tok fun K hK => ?_;refine ldQ ?_;refine s_call rfl rfl (cM) rfl rfl rfl rfl ?_;refine mvQ ?_;refine s_extract rfl rfl rfl ?_;refine s_extract rfl rfl rfl ?_;refine asQ ?_;refine asQ ?_;refine s_end (hK _ ?_); clear hK K;refine AWP_seq ?_;refine AWP_reg_seq tok fun K hK => ?_;refine mvQ ?_;refine s_bin rfl (e_neK e2) rfl ?_;refine mvQ ?_;refine s_skip rfl ?_;refine s_skip rfl ?_;refine s_skip rfl ?_;refine s_skip rfl ?_;refine s_skip rfl ?_;refine piQ ?_;refine s_end (hK _ ?_); clear hK K;refine a_cond rfl (fun _ => ?_) (fun h => by cases h);refine AWP_reg_seq tok fun K hK => ?_;refine mvQ ?_;refine s_bin rfl (e_neK e2) rfl ?_;refine mvQ ?_;refine s_skip rfl ?_;refine s_skip rfl ?_;refine s_skip rfl ?_;refine s_skip rfl ?_;refine s_skip rfl ?_;refine s_skip rfl ?_;refine piQ ?_;refine asQ ?_;refine s_end (hK _ ?_); clear hK K;refine AWP_ret ?_
    repeat (with_reducible refine tq_ret ?_)
    exact post_ret (fin_mk (by rfl) (by rfl) (by rfl))
end Go.Proofs.YtlnbkmkkiemcaaaGreatDoor

/- Quarter turns: what turns exactly. No condition. -/
namespace Go.Proofs.YtlnbkmkkiemcaaaGreatDoor
attribute [local irreducible] lexA
open Go.RowKit

/-! ### Plainly -/
def qP (t : Nat) : Int := match t % 4 with | 0 => 0 | 1 => 1 | 2 => 1 | _ => -1
def qQ (t : Nat) : Int := match t % 4 with | 0 => 1 | 1 => 1 | 2 => 0 | _ => 1
def qRW (t : Nat) : RW := pzW (qP t) (qQ t)
def rt4 : Nat → Int × Int → Int × Int
  | 0, p => p
  | k + 1, p => ((rt4 k p).2, -(rt4 k p).1)
theorem m4 (t : Nat) : t % 4 = 0 ∨ t % 4 = 1 ∨ t % 4 = 2 ∨ t % 4 = 3 := by omega
theorem qPQ (t : Nat) : (t % 4 = 0 ∧ qP t = 0 ∧ qQ t = 1) ∨ (t % 4 = 1 ∧ qP t = 1 ∧ qQ t = 1) ∨ (t % 4 = 2 ∧ qP t = 1 ∧ qQ t = 0) ∨ (t % 4 = 3 ∧ qP t = -1 ∧ qQ t = 1) := by
  unfold qP qQ
  rcases m4 t with h | h | h | h <;> rw [h]
  · exact Or.inl ⟨rfl, rfl, rfl⟩
  · exact Or.inr (Or.inl ⟨rfl, rfl, rfl⟩)
  · exact Or.inr (Or.inr (Or.inl ⟨rfl, rfl, rfl⟩))
  · exact Or.inr (Or.inr (Or.inr ⟨rfl, rfl, rfl⟩))
theorem qRW_ok (t : Nat) : (qRW t).OK 1 := by
  unfold qRW
  rcases qPQ t with ⟨_, h1, h2⟩ | ⟨_, h1, h2⟩ | ⟨_, h1, h2⟩ | ⟨_, h1, h2⟩ <;> rw [h1, h2] <;> exact pzW_ok (by decide) (by decide)
theorem al_qrt {t : Nat} {l : LK} {x y : Int} (hx : l.x = (rt4 (t % 4) (x, y)).1) (hy : l.y = (rt4 (t % 4) (x, y)).2) : alX (qRW t) l = (x : Rat) ∧ alY (qRW t) l = (y : Rat) := by
  unfold alX alY qRW
  rw [pzW_p, pzW_q, hx, hy]
  have a1 : cosR 0 1 = 1 ∧ sinR 0 1 = 0 := by decide +kernel
  have a2 : cosR 1 1 = 0 ∧ sinR 1 1 = 1 := by decide +kernel
  have a3 : cosR 1 0 = -1 ∧ sinR 1 0 = 0 := by decide +kernel
  have a4 : cosR (-1) 1 = 0 ∧ sinR (-1) 1 = -1 := by decide +kernel
  rcases qPQ t with ⟨h, h1, h2⟩ | ⟨h, h1, h2⟩ | ⟨h, h1, h2⟩ | ⟨h, h1, h2⟩ <;> rw [h, h1, h2]
  · rw [a1.1, a1.2]; simp only [rt4]; constructor <;> grind
  · rw [a2.1, a2.2]; simp only [rt4]; push_cast; constructor <;> grind
  · rw [a3.1, a3.2]; simp only [rt4]; push_cast; constructor <;> grind
  · rw [a4.1, a4.2]; simp only [rt4]; push_cast; constructor <;> grind
theorem rt4_bd {B x y : Int} (hx : -B ≤ x ∧ x ≤ B) (hy : -B ≤ y ∧ y ≤ B) : ∀ k, (-B ≤ (rt4 k (x, y)).1 ∧ (rt4 k (x, y)).1 ≤ B) ∧ (-B ≤ (rt4 k (x, y)).2 ∧ (rt4 k (x, y)).2 ≤ B)
  | 0 => ⟨hx, hy⟩
  | k + 1 => by
    have ih := rt4_bd hx hy k
    simp only [rt4]; omega

/-! ### Walks -/
theorem mm_maxI {T : Tab} {S : Objs} (a b : Int) {ts : List TypeId} : effCall T ⟨[], S, []⟩ (.builtin .max) [dI a, dI b] ts = .set (dI (if b > a then b else a)) := by
  simp only [effCall, effMM, intOfS, if_true, Bool.false_eq_true, if_false, setLit]
theorem mm_minJ {T : Tab} {S : Objs} (a b : Int) {ts : List TypeId} : effCall T ⟨[], S, []⟩ (.builtin .min) [dI a, dI b] ts = .set (dI (if b < a then b else a)) := by
  simp only [effCall, effMM, intOfS, if_true, Bool.false_eq_true, if_false, setLit]
def clp (n lo hi : Int) : Int := if (if hi < n then hi else n) > lo then (if hi < n then hi else n) else lo
theorem clip_c (n lo hi : Int) : Con Tryz.prog 23 [dI n, dI lo, dI hi] { v := dI (clp n lo hi) } := by
  refine con_intro (fn := Tryz.f23) tok Tryz.func23 (by kernel_rfl) rfl ?_
  intro w0 X
  rw [entry_mkE _ _ [(0, dI n), (1, dI lo), (2, dI hi)] rfl rfl];refine AWP_reg_seq tok fun K hK => ?_;refine asQ ?_;refine s_end (hK _ ?_); clear hK K;refine AWP_reg_seq tok fun K hK => ?_;refine mvQ ?_;refine mvQ ?_;refine mvQ ?_;refine s_blt rfl (mm_minJ _ _) rfl ?_;refine s_blt rfl (mm_maxI _ _) rfl ?_;refine asQ ?_;refine s_end (hK _ ?_); clear hK K;refine AWP_ret ?_
  repeat (with_reducible refine tq_ret ?_)
  exact post_ret (fin_mk (by rfl) (by rfl) (by rfl))
theorem clp_bd {n lo hi : Int} (h : lo ≤ hi) : lo ≤ clp n lo hi ∧ clp n lo hi ≤ hi := by
  unfold clp; (repeat' split) <;> omega
abbrev u8D (n : Nat) : SV := V1 (.lit (.int .u8 n))
theorem e_remU8 {T : Tab} {t : TypeId} {n m : Nat} (h : n < 256) (hm : n % 4 = m) : effBin T .rem t (u8D n) (V1 (.lit (.int .u8 4))) = .set (u8D m) := by
  subst hm
  have h1 : (n : Int).tmod 4 = ((n % 4 : Nat) : Int) := by
    rw [Int.tmod_eq_emod_of_nonneg (by omega)]; omega
  have hb : binA .rem (.int .u8 (n : Int)) (.int .u8 4) = some (.int .u8 ((n % 4 : Nat) : Int)) := by
    simp only [binA, if_true];rw [if_neg (by decide), h1]
  simp only [effBin, litOf, hb]; rfl
theorem e_addU8 {T : Tab} {t : TypeId} {n : Nat} (h : n < 4) : effBin T .add t (u8D n) (V1 (.lit (.int .u8 1))) = .set (u8D (n + 1)) := by
  have : ∀ k : Nat, k < 4 → IntKind.u8.wrap ((k : Int) + 1) = ((k + 1 : Nat) : Int) := by decide
  show setLit (.int .u8 (IntKind.u8.wrap ((n : Int) + 1))) = _
  rw [this n h]; rfl
theorem e_lssU8 {T : Tab} {t : TypeId} {n m : Nat} : effBin T .lss t (u8D n) (u8D m) = .set (dB (decide (n < m))) := by
  show setLit (.bool (decide ((n : Int) < (m : Int)))) = _
  have : decide ((n : Int) < (m : Int)) = decide (n < m) := by rw [Bool.eq_iff_iff, decide_eq_true_eq, decide_eq_true_eq]; omega
  rw [this]; rfl
theorem whole_c (n : Int) (h : n = 0 ∨ n = 1 ∨ n = -1) : Con Tryz.prog 80 [dI n] { v := AG (ZC n) } := by
  have c := clip_c 1 0 9
  rw [show clp 1 0 9 = 1 by decide] at c
  rcases h with rfl | rfl | rfl
  · refine con_intro (fn := Tryz.f80) tokT Tryz.func80 (by kernel_rfl) rfl ?_
    intro w0 X
    rw [entry_mkE _ _ [(0, dI 0)] rfl rfl];refine AWP_reg_seq tokT fun K hK => ?_;refine s_alloc rfl rfl rfl rfl rfl rfl ?_;refine s_end (hK _ ?_); clear hK K;refine AWP_seq ?_;refine AWP_reg_seq tokT fun K hK => ?_;refine mvQ ?_;refine biQ ?_;refine s_end (hK _ ?_); clear hK K;refine a_cond rfl (fun _ => ?_) (fun h => by cases h);refine AWP_reg_seq tokT fun K hK => ?_;refine s_build rfl rfl rfl ?_;refine s_store rfl rfl rfl rfl rfl ?_;refine s_end (hK _ ?_); clear hK K;refine AWP_ret ?_
    repeat (with_reducible refine tq_ret ?_)
    exact post_ret (fin_mk (by rfl) (by rfl) (by rfl))
  · refine con_intro (fn := Tryz.f80) tokT Tryz.func80 (by kernel_rfl) rfl ?_
    intro w0 X
    rw [entry_mkE _ _ [(0, dI 1)] rfl rfl];refine AWP_reg_seq tokT fun K hK => ?_;refine s_alloc rfl rfl rfl rfl rfl rfl ?_;refine s_end (hK _ ?_); clear hK K;refine AWP_seq ?_;refine AWP_reg_seq tokT fun K hK => ?_;refine mvQ ?_;refine biQ ?_;refine s_end (hK _ ?_); clear hK K;refine a_cond rfl (fun h => by cases h) (fun _ => ?_);refine AWP_skip ?_;show AWP _ _ _ _ _ _;refine AWP_reg_seq tokT fun K hK => ?_;refine mvQ ?_;refine biQ ?_;refine mvQ ?_;refine mvQ ?_;refine s_un rfl rfl rfl ?_;refine s_blt rfl (mm_maxI _ _) rfl ?_;refine s_call rfl rfl (c) rfl rfl rfl rfl ?_;refine s_conv rfl rfl rfl ?_;refine s_buildSliceD rfl rfl rfl rfl ?_;refine s_build rfl rfl rfl ?_;refine s_store rfl rfl rfl rfl rfl ?_;refine s_end (hK _ ?_); clear hK K;refine AWP_ret ?_
    repeat (with_reducible refine tq_ret ?_)
    exact post_ret (fin_mk (by rfl) (by rfl) (by rfl))
  · refine con_intro (fn := Tryz.f80) tokT Tryz.func80 (by kernel_rfl) rfl ?_
    intro w0 X
    rw [entry_mkE _ _ [(0, dI (-1))] rfl rfl];refine AWP_reg_seq tokT fun K hK => ?_;refine s_alloc rfl rfl rfl rfl rfl rfl ?_;refine s_end (hK _ ?_); clear hK K;refine AWP_seq ?_;refine AWP_reg_seq tokT fun K hK => ?_;refine mvQ ?_;refine biQ ?_;refine s_end (hK _ ?_); clear hK K;refine a_cond rfl (fun h => by cases h) (fun _ => ?_);refine AWP_skip ?_;show AWP _ _ _ _ _ _;refine AWP_reg_seq tokT fun K hK => ?_;refine mvQ ?_;refine biQ ?_;refine mvQ ?_;refine mvQ ?_;refine s_un rfl rfl rfl ?_;refine s_blt rfl (mm_maxI _ _) rfl ?_;refine s_call rfl rfl (c) rfl rfl rfl rfl ?_;refine s_conv rfl rfl rfl ?_;refine s_buildSliceD rfl rfl rfl rfl ?_;refine s_build rfl rfl rfl ?_;refine s_store rfl rfl rfl rfl rfl ?_;refine s_end (hK _ ?_); clear hK K;refine AWP_ret ?_
    repeat (with_reducible refine tq_ret ?_)
    exact post_ret (fin_mk (by rfl) (by rfl) (by rfl))
theorem seen_c (t : Nat) (a b : PT) (ht : t < 256) (hx : -4000 ≤ b.x - a.x ∧ b.x - a.x ≤ 4000) (hy : -4000 ≤ b.y - a.y ∧ b.y - a.y ≤ 4000) : Con Tryz.prog 33 [u8D t, AG [.d (lI a.x), .d (lI a.y)], AG [.d (lI b.x), .d (lI b.y)]] { v := .tup [.one (.d (lI (rt4 (t % 4) (b.x - a.x, b.y - a.y)).1)), .one (.d (lI (rt4 (t % 4) (b.x - a.x, b.y - a.y)).2))] } := by
  have bd := rt4_bd (B := 4000) (x := b.x - a.x) (y := b.y - a.y) hx hy
  obtain ⟨f, hf⟩ : ∃ f : Nat → Int × Int, f = fun k => rt4 k (b.x - a.x, b.y - a.y) := ⟨_, rfl⟩
  have fs : ∀ k, f (k + 1) = ((f k).2, -(f k).1) := fun k => by rw [hf]; rfl
  have f0 : f 0 = (b.x - a.x, b.y - a.y) := by rw [hf]; rfl
  have fe : rt4 (t % 4) (b.x - a.x, b.y - a.y) = f (t % 4) := by rw [hf]
  have bd : ∀ k, (-4000 ≤ (f k).1 ∧ (f k).1 ≤ 4000) ∧ (-4000 ≤ (f k).2 ∧ (f k).2 ≤ 4000) := fun k => by rw [hf]; exact bd k
  rw [fe];clear hf fe;refine con_intro (fn := Tryz.f33) tok Tryz.func33 (by kernel_rfl) rfl ?_
  intro w0 X
  rw [entry_mkE _ _ [(0, u8D t), (1, AG [.d (lI a.x), .d (lI a.y)]), (2, AG [.d (lI b.x), .d (lI b.y)])] rfl rfl];refine AWP_reg_seq tok fun K hK => ?_;refine s_box rfl rfl rfl rfl rfl rfl ?_;refine s_box rfl rfl rfl rfl rfl rfl ?_;refine asQ ?_;refine asQ ?_;refine s_end (hK _ ?_); clear hK K;refine a_draw tok mixed (A := [[], [], [], [], [0, 2], [], [], [], [], [5, 7], [], []]) (an := [{}, {}, {}, {}, {}, {}, {}, {}, {}, {}, {}, {}]) rfl (by kernel_rfl) rfl fun K hK => ?_;refine faQ ?_;refine ldQ ?_;refine faQ ?_;refine ldQ ?_;refine s_bin rfl (e_sub (c := b.x - a.x) rfl (by omega)) rfl ?_;refine faQ ?_;refine ldQ ?_;refine faQ ?_;refine ldQ ?_;refine s_bin rfl (e_sub (c := b.y - a.y) rfl (by omega)) rfl ?_;refine asQ ?_;refine asQ ?_;refine s_end (hK _ ?_); clear hK K;refine AWP_seq ?_;refine AWP_reg_seq tok fun K hK => ?_;refine asQ ?_;refine s_end (hK _ ?_); clear hK K;refine AWP_block (a_loop (α := Nat) (fun k => mk 32 [(0, u8D t), (8, dI (f k).1), (9, dI (f k).2), (10, u8D k)] [] []) (fun k => k ≤ t % 4) (fun k => t % 4 - k) 0 ?_ (Nat.zero_le _) ?_)
  · simp only [f0];exact Wk.mk' ⟨rfl, rfl, rfl, rfl, trivial⟩ trivial
  intro k hk
  have h4 : t % 4 < 4 := Nat.mod_lt _ (by decide)
  have bk := bd k
  have fk := fs k
  refine AWP_seq ?_;refine AWP_reg_seq tok fun K hK => ?_;refine mvQ ?_;refine mvQ ?_;refine s_bin rfl (e_remU8 ht rfl) rfl ?_;refine s_bin rfl e_lssU8 rfl ?_;refine s_end (hK _ ?_); clear hK K;refine a_cond rfl (fun hg => ?_) (fun hg => ?_)
  · have hg := of_decide_eq_true hg
    refine AWP_skip ?_;show AWP _ _ _ _ _ _;refine AWP_seq ?_;refine AWP_block ?_;refine AWP_reg tok fun K hK => ?_;refine mvQ ?_;refine mvQ ?_;refine s_un rfl (neg_I (by omega)) rfl ?_;refine asQ ?_;refine asQ ?_;refine s_end (hK _ ?_); clear hK K;show AWP _ _ _ _ _ _;refine AWP_reg tok fun K hK => ?_;refine mvQ ?_;refine s_bin rfl (e_addU8 (by omega)) rfl ?_;refine asQ ?_;refine s_end (hK _ ?_); clear hK K;refine ⟨k + 1, by omega, hg, ?_⟩;rw [fk];exact Wk.mk' ⟨rfl, rfl, rfl, rfl, trivial⟩ trivial
  have hg := of_decide_eq_false hg
  have hg : k = t % 4 := by omega
  subst hg
  refine AWP_exit ?_;show AWP _ _ _ _ _ _;refine AWP_reg_seq tok fun K hK => ?_;refine mvQ ?_;refine mvQ ?_;refine asQ ?_;refine asQ ?_;refine s_end (hK _ ?_); clear hK K;refine AWP_ret ?_
  repeat (with_reducible refine tq_ret ?_)
  exact post_ret (fin_mk (by rfl) (by rfl) (by rfl))
theorem lk4 {c : Nat} {p : Int} (h : [(0 : Int), 1, 1, -1][c]? = some p) : ([[lI 0], [lI 1], [lI 1], [lI (-1)]] : List (List DC))[c]? = some [lI p] := by
  have := congrArg (Option.map fun z : Int => [lI z]) h
  rw [← List.getElem?_map] at this;exact this
theorem lk5 {c : Nat} {p : Int} (h : [(1 : Int), 1, 0, 1][c]? = some p) : ([[lI 1], [lI 1], [lI 0], [lI 1]] : List (List DC))[c]? = some [lI p] := by
  have := congrArg (Option.map fun z : Int => [lI z]) h
  rw [← List.getElem?_map] at this;exact this
set_option maxHeartbeats 1000000 in
theorem quarter_c (ts : List Nat) (hts : ∀ t ∈ ts, t < 256) (hl : ts.length ≤ 1048576) : Con Tryz.prog 32 [V1 (dB8 ts)] { v := V1 (dRs (ts.map qRW)) } := by
  refine con_intro (fn := Tryz.f32) tok Tryz.func32 (by kernel_rfl) rfl ?_
  intro w0 X
  rw [entry_mkE _ _ [(0, V1 (dB8 ts))] rfl rfl];refine AWP_reg_seq tok fun K hK => ?_;refine asQ ?_;refine s_end (hK _ ?_); clear hK K;refine AWP_reg_seq tok fun K hK => ?_;refine asQ ?_;refine s_end (hK _ ?_); clear hK K;refine AWP_seq ?_;refine AWP_reg_seq tok fun K hK => ?_;refine asQ ?_;refine s_end (hK _ ?_); clear hK K;refine AWP_block (a_loop (α := Nat) (fun i => mk 38 [(0, V1 (dB8 ts)), (3, ownN 200 4 i), (4, dI i)] [(200, arrN 4 (((ts.take i).map qRW).map RW.dc) i)] []) (fun i => i ≤ ts.length) (fun i => ts.length - i) 0 ?_ (Nat.zero_le _) ?_)
  · exact Wk.mk' ⟨rfl, rfl, rfl, trivial⟩ ⟨rfl, trivial⟩
  intro i hi
  refine AWP_seq ?_;refine AWP_reg_seq tok fun K hK => ?_;refine mvQ ?_;refine mvQ ?_;refine s_blt rfl (len_m b8 rfl rfl) rfl ?_;refine biQ ?_;refine s_end (hK _ ?_); clear hK K;refine a_cond rfl (fun hg => ?_) (fun hg => ?_)
  · have hg : i < ts.length := by simp at hg; omega
    have hb := hts _ (List.getElem_mem hg)
    have n1 : ((ts.take i).map qRW).map RW.dc ++ [(qRW ts[i]).dc] = ((ts.take (i + 1)).map qRW).map RW.dc := by
      rw [List.take_succ_eq_append_getElem hg, List.map_append, List.map_append]; rfl
    have z1 : (((ts.take i).map qRW).map RW.dc).length = i := by simp; omega
    have hpq := qPQ ts[i]
    have cP := whole_c (qP ts[i]) (by omega)
    have cQ := whole_c (qQ ts[i]) (by omega)
    have eq : (qRW ts[i]).dc = [.lit (.bool (decide (qP ts[i] < 0))), dW (wof (qP ts[i]).natAbs), .lit (.bool (decide (qQ ts[i] < 0))), dW (wof (qQ ts[i]).natAbs)] := rfl
    generalize ((ts.take i).map qRW).map RW.dc = es at n1 z1 ⊢;refine AWP_skip ?_;show AWP _ _ _ _ _ _;refine AWP_seq ?_;refine AWP_block ?_
    obtain ⟨c, hc, hlt, x1, x2⟩ : ∃ c : Nat, ts[i] % 4 = c ∧ c < 4 ∧ [(0 : Int), 1, 1, -1][c]? = some (qP ts[i]) ∧ [(1 : Int), 1, 0, 1][c]? = some (qQ ts[i]) := by
      rcases hpq with ⟨h, h1, h2⟩ | ⟨h, h1, h2⟩ | ⟨h, h1, h2⟩ | ⟨h, h1, h2⟩
      · exact ⟨0, h, by decide, by rw [h1]; rfl, by rw [h2]; rfl⟩
      · exact ⟨1, h, by decide, by rw [h1]; rfl, by rw [h2]; rfl⟩
      · exact ⟨2, h, by decide, by rw [h1]; rfl, by rw [h2]; rfl⟩
      · exact ⟨3, h, by decide, by rw [h1]; rfl, by rw [h2]; rfl⟩
    generalize qP ts[i] = p at cP x1 eq;generalize qQ ts[i] = q at cQ x2 eq;rw [eq] at n1
    rcases i with _ | i
    · refine AWP_reg_seq tok fun K hK => ?_;refine s_buildSlice rfl rfl rfl rfl ?_;refine mvQ ?_;refine mvQ ?_;refine s_indexAddr rfl (x_m b8 rfl rfl rfl rfl hg rfl) rfl ?_;refine ldQ ?_;refine s_bin rfl (e_remU8 hb hc) rfl ?_;refine s_indexAddr rfl (x_o (i := c) (j := c) rfl rfl rfl rfl rfl hlt (Nat.zero_add _)) rfl ?_;refine s_load rfl (l_o rfl rfl (lk4 x1) rfl rfl) rfl ?_;refine asQ ?_;refine s_end (hK _ ?_); clear hK K;refine AWP_reg_seq tok fun K hK => ?_;refine s_buildSlice rfl rfl rfl rfl ?_;refine mvQ ?_;refine mvQ ?_;refine s_indexAddr rfl (x_m b8 rfl rfl rfl rfl hg rfl) rfl ?_;refine ldQ ?_;refine s_bin rfl (e_remU8 hb hc) rfl ?_;refine s_indexAddr rfl (x_o (i := c) (j := c) rfl rfl rfl rfl rfl hlt (Nat.zero_add _)) rfl ?_;refine s_load rfl (l_o rfl rfl (lk5 x2) rfl rfl) rfl ?_;refine asQ ?_;refine s_end (hK _ ?_); clear hK K;refine AWP_reg tok fun K hK => ?_;refine mvQ ?_;refine mvQ ?_;refine s_call rfl rfl (cP) rfl rfl rfl rfl ?_;refine mvQ ?_;refine s_call rfl rfl (cQ) rfl rfl rfl rfl ?_;refine s_build rfl rfl rfl ?_;refine s_buildSlice rfl rfl rfl rfl ?_;refine s_append rfl (ap_nil rfl rfl rfl rfl rfl (by decide) (Nat.le_of_ble_eq_true rfl) rfl (by simp) rfl (by simp) (by simp)) rfl rfl rfl ?_;refine asQ ?_;refine s_end (hK _ ?_); clear hK K;show AWP _ _ _ _ _ _;refine AWP_reg tok fun K hK => ?_;refine mvQ ?_;refine s_bin rfl (e_add (c := ((0 + 1 : Nat) : Int)) (by omega) (by omega)) rfl ?_;refine asQ ?_;refine s_end (hK _ ?_); clear hK K;refine ⟨0 + 1, by omega, hg, Wk.rn [0, 3, 4] [36] 36 200 rfl rfl rfl ⟨rfl, ?_, rfl, trivial⟩ ⟨?_, trivial⟩⟩
      · first
          | rfl
          | (show SV.val (.one (.own 200 4 0 _)) = _
             rw [List.length_append, z1]; rfl)
      · first
          | (rw [← n1, List.length_eq_zero_iff.1 z1]; rfl)
          | (rw [← n1]; rfl)
    · refine AWP_reg_seq tok fun K hK => ?_;refine s_buildSlice rfl rfl rfl rfl ?_;refine mvQ ?_;refine mvQ ?_;refine s_indexAddr rfl (x_m b8 rfl rfl rfl rfl hg rfl) rfl ?_;refine ldQ ?_;refine s_bin rfl (e_remU8 hb hc) rfl ?_;refine s_indexAddr rfl (x_o (i := c) (j := c) rfl rfl rfl rfl rfl hlt (Nat.zero_add _)) rfl ?_;refine s_load rfl (l_o rfl rfl (lk4 x1) rfl rfl) rfl ?_;refine asQ ?_;refine s_end (hK _ ?_); clear hK K;refine AWP_reg_seq tok fun K hK => ?_;refine s_buildSlice rfl rfl rfl rfl ?_;refine mvQ ?_;refine mvQ ?_;refine s_indexAddr rfl (x_m b8 rfl rfl rfl rfl hg rfl) rfl ?_;refine ldQ ?_;refine s_bin rfl (e_remU8 hb hc) rfl ?_;refine s_indexAddr rfl (x_o (i := c) (j := c) rfl rfl rfl rfl rfl hlt (Nat.zero_add _)) rfl ?_;refine s_load rfl (l_o rfl rfl (lk5 x2) rfl rfl) rfl ?_;refine asQ ?_;refine s_end (hK _ ?_); clear hK K;refine AWP_reg tok fun K hK => ?_;refine mvQ ?_;refine mvQ ?_;refine s_call rfl rfl (cP) rfl rfl rfl rfl ?_;refine mvQ ?_;refine s_call rfl rfl (cQ) rfl rfl rfl rfl ?_;refine s_build rfl rfl rfl ?_;refine s_buildSlice rfl rfl rfl rfl ?_;refine s_append rfl (ap_o rfl rfl rfl rfl rfl rfl (by decide) (Nat.le_of_ble_eq_true rfl) rfl (by simp) rfl rfl z1.symm (by simp <;> omega)) rfl rfl rfl ?_;refine asQ ?_;refine s_end (hK _ ?_); clear hK K;show AWP _ _ _ _ _ _;refine AWP_reg tok fun K hK => ?_;refine mvQ ?_;refine s_bin rfl (e_add (c := ((i + 1 + 1 : Nat) : Int)) (by omega) (by omega)) rfl ?_;refine asQ ?_;refine s_end (hK _ ?_); clear hK K;refine ⟨i + 1 + 1, by omega, hg, Wk.rn [0, 3, 4] [36] 36 200 rfl rfl rfl ⟨rfl, ?_, rfl, trivial⟩ ⟨?_, trivial⟩⟩
      · first
          | rfl
          | (show SV.val (.one (.own 200 4 0 _)) = _
             rw [List.length_append, z1]; rfl)
      · first
          | (rw [← n1, List.length_eq_zero_iff.1 z1]; rfl)
          | (rw [← n1]; rfl)
  have hg : i = ts.length := by simp at hg; omega
  subst hg
  rw [List.take_length]
  have zL : (ts.map qRW).length = ts.length := List.length_map _
  generalize (ts.map qRW) = LL at zL ⊢;rw [← zL];refine AWP_exit ?_;show AWP _ _ _ _ _ _
  rcases LL with _ | ⟨l, LL⟩
  · refine AWP_reg_seq tok fun K hK => ?_;refine mvQ ?_;refine asQ ?_;refine s_end (hK _ ?_); clear hK K;refine AWP_ret ?_
    repeat (with_reducible refine tq_ret ?_)
    exact post_ret (fin_mk (by rfl) (by rfl) (by rfl))
  · refine a_fz [3] [200] 200 [(3, V1 (dRs (l :: LL)))] [] rfl ?_ trivial ?_
    · exact ⟨frz_own rfl (by simp), trivial⟩
    refine AWP_reg_seq tok fun K hK => ?_;refine mvQ ?_;refine asQ ?_;refine s_end (hK _ ?_); clear hK K;refine AWP_ret ?_
    repeat (with_reducible refine tq_ret ?_)
    exact post_ret (fin_mk (by rfl) (by rfl) (by rfl))
end Go.Proofs.YtlnbkmkkiemcaaaGreatDoor

/- law31: Truth. No condition. -/
namespace Go.Proofs.YtlnbkmkkiemcaaaGreatDoor
attribute [local irreducible] lexA
open Go.RowKit

/-! ### Plainly -/
def p00 : PT := ⟨0, 0⟩
def exK (P : Nat → PT) (ts : List Nat) (a b : Nat) (w : Int) : LK :=
  ⟨a, b, (rt4 (ts.getD a 0 % 4) ((P b).x - (P a).x, (P b).y - (P a).y)).1, (rt4 (ts.getD a 0 % 4) ((P b).x - (P a).x, (P b).y - (P a).y)).2, w⟩
def chK (P : Nat → PT) (ts : List Nat) (k : Nat) : List LK := (List.range k).map fun j => exK P ts j (j + 1) (1 + (j : Int))
def prK1 (P : Nat → PT) (ts : List Nat) (n : Nat) (p : PT) : List LK := if (p.x % (n : Int)).toNat = (p.y % (n : Int)).toNat then [] else [exK P ts (p.x % (n : Int)).toNat (p.y % (n : Int)).toNat 5]
def prKs (P : Nat → PT) (ts : List Nat) (n : Nat) (l : List PT) : List LK := l.flatMap (prK1 P ts n)
theorem prKs_len (P : Nat → PT) (ts : List Nat) (n : Nat) : ∀ l : List PT, (prKs P ts n l).length ≤ l.length
  | [] => Nat.le_refl _
  | p :: l => by
    have ih := prKs_len P ts n l
    have e : prKs P ts n (p :: l) = prK1 P ts n p ++ prKs P ts n l := rfl
    rw [e, List.length_append, List.length_cons]
    have : (prK1 P ts n p).length ≤ 1 := by unfold prK1; split <;> simp
    omega
theorem prKs_snoc (P : Nat → PT) (ts : List Nat) (n : Nat) {l : List PT} {i : Nat} (h : i < l.length) : prKs P ts n (l.take (i + 1)) = prKs P ts n (l.take i) ++ prK1 P ts n l[i] := by
  unfold prKs
  rw [List.take_succ_eq_append_getElem h, List.flatMap_append]; simp
def tuG (P : Nat → PT) (ts : List Nat) (n : Nat) (pr : List PT) : GR := ⟨(ts.take n).map qRW, chK P ts (n - 1) ++ prKs P ts n pr⟩
section
variable {P : Nat → PT} {ts : List Nat} {n : Nat} {pr : List PT}
theorem tuG_mem (h1 : 1 ≤ n) {l : LK} (h : l ∈ (tuG P ts n pr).links) : ∃ a b w, l = exK P ts a b w ∧ a < n ∧ b < n ∧ a ≠ b ∧ 1 ≤ w ∧ w ≤ (n : Int) + 5 := by
  rcases List.mem_append.1 h with h | h
  · obtain ⟨j, hj, rfl⟩ := List.mem_map.1 h
    have := List.mem_range.1 hj
    exact ⟨j, j + 1, _, rfl, by omega, by omega, by omega, by omega, by omega⟩
  · obtain ⟨p, _, hp⟩ := List.mem_flatMap.1 h
    unfold prK1 at hp
    split at hp
    · cases hp
    · rename_i hne
      have e := List.mem_singleton.1 hp
      have a0 := Int.emod_nonneg p.x (b := (n : Int)) (by omega)
      have a1 := Int.emod_lt_of_pos p.x (b := (n : Int)) (by omega)
      have b0 := Int.emod_nonneg p.y (b := (n : Int)) (by omega)
      have b1 := Int.emod_lt_of_pos p.y (b := (n : Int)) (by omega)
      exact ⟨_, _, 5, e, by omega, by omega, hne, by omega, by omega⟩
variable (h1 : 1 ≤ n) (h5 : n ≤ 5) (hn : n ≤ ts.length) (hp : pr.length ≤ 5) (hP : ∀ i, (-1000 ≤ (P i).x ∧ (P i).x ≤ 1000) ∧ (-1000 ≤ (P i).y ∧ (P i).y ≤ 1000))
include h1 h5 hn hp hP
theorem tuG_len : (tuG P ts n pr).nodes.length = n := by simp [tuG]; omega
theorem tuG_GV : GV (tuG P ts n pr) := by
  have hl := tuG_len h1 h5 hn hp hP
  refine ⟨by rw [hl]; omega, by rw [hl]; omega, ?_, fun l hm => ?_⟩
  · have := prKs_len P ts n pr
    show (chK P ts (n - 1) ++ prKs P ts n pr).length ≤ 48
    simp [chK]; omega
  · obtain ⟨a, b, w, rfl, ha, hb, hne, hw1, hw2⟩ := tuG_mem h1 hm
    have pa := hP a
    have pb := hP b
    have r := rt4_bd (B := 2000) (x := (P b).x - (P a).x) (y := (P b).y - (P a).y) (by omega) (by omega) (ts.getD a 0 % 4)
    rw [hl];refine linkB_iff.2 ⟨?_, ?_, ?_, ?_, ?_, ?_⟩
    · show 0 ≤ (a : Int) ∧ (a : Int) < n; omega
    · show 0 ≤ (b : Int) ∧ (b : Int) < n; omega
    · show ¬ (a : Int) = b; omega
    · exact ⟨Int.le_trans (by decide) r.1.1, Int.le_trans r.1.2 (by decide)⟩
    · exact ⟨Int.le_trans (by decide) r.2.1, Int.le_trans r.2.2 (by decide)⟩
    · show 1 ≤ w ∧ w ≤ 1048576; omega
theorem tuG_SM : SM (tuG P ts n pr) := by
  have hl := tuG_len h1 h5 hn hp hP
  refine ⟨by rw [hl]; omega, ?_, fun r hr => ?_⟩
  · have := prKs_len P ts n pr
    show (chK P ts (n - 1) ++ prKs P ts n pr).length ≤ 16
    simp [chK]; omega
  · obtain ⟨t, _, rfl⟩ := List.mem_map.1 hr
    exact (qRW_ok t).mono rfl
theorem tuG_d {l : LK} (hm : l ∈ (tuG P ts n pr).links) : dX (tuG P ts n pr) l = (((P l.t.toNat).x - (P l.f.toNat).x : Int) : Rat) ∧ dY (tuG P ts n pr) l = (((P l.t.toNat).y - (P l.f.toNat).y : Int) : Rat) := by
  obtain ⟨a, b, w, rfl, ha, hb, hne, _⟩ := tuG_mem h1 hm
  have ef : frN (tuG P ts n pr) (exK P ts a b w) = qRW (ts.getD a 0) := by
    show ((ts.take n).map qRW).getD ((a : Int).toNat) _ = _
    rw [Int.toNat_natCast, List.getD_eq_getElem?_getD, List.getElem?_map, List.getElem?_take_of_lt ha, List.getElem?_eq_getElem (by omega), List.getD_eq_getElem?_getD, List.getElem?_eq_getElem (by omega)]; rfl
  unfold dX dY
  rw [ef]
  have ea : (exK P ts a b w).f.toNat = a := Int.toNat_natCast a
  have eb : (exK P ts a b w).t.toNat = b := Int.toNat_natCast b
  rw [ea, eb];exact al_qrt rfl rfl
theorem tuG_cn : cnB (tuG P ts n pr) = true := by
  have gv := tuG_GV h1 h5 hn hp hP
  have hl := tuG_len h1 h5 hn hp hP
  refine decide_eq_true fun v hv => ?_;rw [lab_cnn gv hv (by omega)]
  have key : ∀ v, v < n → Cnn (prs (tuG P ts n pr).links) v 0 := by
    intro v
    induction v with
    | zero => intro _; exact .refl _
    | succ v ih =>
      intro hv
      refine Cnn.trans (.one (Or.inr ?_)) (ih (by omega));refine List.mem_map.2 ⟨exK P ts v (v + 1) (1 + (v : Int)), List.mem_append_left _ (List.mem_map.2 ⟨v, List.mem_range.2 (by omega), rfl⟩), ?_⟩
      show ((v : Int).toNat, ((v + 1 : Nat) : Int).toNat) = _
      rw [Int.toNat_natCast, Int.toNat_natCast]
  exact key v (by omega)
theorem tuG_min : (∀ v, v < n → mnX (tuG P ts n pr) v = (((P v).x - (P 0).x : Int) : Rat) ∧ mnY (tuG P ts n pr) v = (((P v).y - (P 0).y : Int) : Rat)) ∧ lsQ (tuG P ts n pr) = 0 := by
  have gv := tuG_GV h1 h5 hn hp hP
  have hl := tuG_len h1 h5 hn hp hP
  have hc := tuG_cn h1 h5 hn hp hP
  obtain ⟨m1, m2⟩ := mn_gd gv hc
  have eX := qe_exact (d := dX (tuG P ts n pr)) (s := fun v => (((P v).x - (P 0).x : Int) : Rat)) (ls := (tuG P ts n pr).links) fun l hm => by
    rw [(tuG_d h1 h5 hn hp hP hm).1]; push_cast; grind
  have eY := qe_exact (d := dY (tuG P ts n pr)) (s := fun v => (((P v).y - (P 0).y : Int) : Rat)) (ls := (tuG P ts n pr).links) fun l hm => by
    rw [(tuG_d h1 h5 hn hp hP hm).2]; push_cast; grind
  have ux := mn_uniq gv hc (s := mnX (tuG P ts n pr)) (fun v _ => eX.2 v) m1 (by rw [(mn_zero _).1]; simp)
  have uy := mn_uniq gv hc (s := mnY (tuG P ts n pr)) (fun v _ => eY.2 v) m2 (by rw [(mn_zero _).2]; simp)
  refine ⟨fun v hv => ⟨ux v (by omega), uy v (by omega)⟩, ?_⟩
  unfold lsQ
  rw [qe_congr (m := fun v => (((P v).x - (P 0).x : Int) : Rat)) fun l hm => ⟨ux _ (lt_GV gv l hm).1, ux _ (lt_GV gv l hm).2⟩, qe_congr (m := fun v => (((P v).y - (P 0).y : Int) : Rat)) fun l hm => ⟨uy _ (lt_GV gv l hm).1, uy _ (lt_GV gv l hm).2⟩, eX.1, eY.1]; grind
end
end Go.Proofs.YtlnbkmkkiemcaaaGreatDoor

/- law31: Truth, the walk. No condition. -/
namespace Go.Proofs.YtlnbkmkkiemcaaaGreatDoor
attribute [local irreducible] lexA
open Go.RowKit

theorem st_P {T : Tab} {t : TypeId} {ti : TI} {S : Objs} {rb : List Nat} {id i : Nat} {es : List (List DC)} {p : PT} (h1 : T t = some ti) (h4 : ti.size = 2) (hS : S id = some (.arr 2 es)) (hi : i < es.length) (hel : ∀ el ∈ es, el.length = 2) :
    effStore T ⟨[], S, rb⟩ t (.pe id 2 i 0) (AG [.d (lI p.x), .d (lI p.y)]) = .upd (updO S id (.arr 2 (es.set i p.dc))) rb :=
  st_o (ds := p.dc) h1 hS hi (fun el h => by rw [h4]; exact hel el (List.mem_of_getElem? h)) rfl (by rw [h4]; rfl) (by rw [h4]; rfl)
theorem sl_t {T : Tab} {t e : TypeId} {ti ei : TI} {α : Type} (f : α → List DC) {l : List α} {n : Nat} (h1 : T t = some ti) (h2 : ti.und = .slice e) (h3 : T e = some ei) (hl : n ≤ l.length) (hel : ∀ x, (f x).length = ei.size) :
    effSliceN T t (V1 (.sl (l.map f))) 0 n = .set (V1 (.sl ((l.take n).map f))) := by
  refine (sl_d (l := (0 : Int)) (lo := 0) (hi := n) h1 h2 h3 rfl rfl (Nat.zero_le _) (by simpa using hl) (fun e he => by obtain ⟨x, _, rfl⟩ := List.mem_map.1 he; exact hel x)).trans ?_;rw [List.drop_zero, List.map_take]
def ptF (pa : List PT) (j : Nat) : PT := ⟨clp (pa.getD j p00).x (-1000) 1000, clp (pa.getD j p00).y (-1000) 1000⟩
theorem ptF_bd (pa : List PT) (i : Nat) : (-1000 ≤ (ptF pa i).x ∧ (ptF pa i).x ≤ 1000) ∧ (-1000 ≤ (ptF pa i).y ∧ (ptF pa i).y ≤ 1000) := ⟨clp_bd (by decide), clp_bd (by decide)⟩
theorem chK_snoc (P : Nat → PT) (ts : List Nat) (k : Nat) : (chK P ts k).map LK.dc ++ [(exK P ts k (k + 1) (1 + (k : Int))).dc] = (chK P ts (k + 1)).map LK.dc := by
  unfold chK; rw [List.range_succ, List.map_append, List.map_append]; rfl
set_option maxHeartbeats 2000000 in
theorem lTruth_c (pa : List PT) (ts : List Nat) (pr : List PT) (hts : ∀ t ∈ ts, t < 256) (hpr : ∀ p ∈ pr, p.I) : Con Tryz.prog 7 [V1 (dPs pa), V1 (dB8 ts), V1 (dPs pr)] { v := dB true } := by
  obtain ⟨n, hn⟩ : ∃ n, n = min pa.length ts.length := ⟨_, rfl⟩
  refine con_intro (fn := Tryz.f7) tok Tryz.func7 (by kernel_rfl) rfl ?_
  intro w0 X
  rw [entry_mkE _ _ [(0, V1 (dPs pa)), (1, V1 (dB8 ts)), (2, V1 (dPs pr))] rfl rfl];refine AWP_reg_seq tok fun K hK => ?_;refine asQ ?_;refine s_end (hK _ ?_); clear hK K;refine AWP_reg_seq tok fun K hK => ?_;refine mvQ ?_;refine s_blt rfl (len_m PT.dc rfl rfl) rfl ?_;refine mvQ ?_;refine s_blt rfl (len_m b8 rfl rfl) rfl ?_;refine s_blt rfl (mm_min _ _) rfl ?_;refine asQ ?_;refine s_end (hK _ ?_); clear hK K;rw [← hn];refine AWP_seq ?_;refine a_join (α := Bool) (fun c => mk 228 [(0, V1 (dPs pa)), (1, V1 (dB8 ts)), (2, V1 (dPs pr)), (7, dI n), (43, dB c)] [] []) (fun c => c = !decide (1 ≤ n ∧ n ≤ 5 ∧ pr.length ≤ 5)) ?_ ?_
  · refine AWP_regW fun K hK => ?_;refine w_step tok rfl ?_;refine s_call rfl rfl (awake31_c) rfl rfl rfl rfl ?_;refine s_end ?_;refine w_step tok rfl ?_;refine s_un rfl rfl rfl ?_;refine s_end ?_;refine w_step tok rfl ?_;refine mvQ ?_;refine s_end ?_;refine w_split (fun h0 => ?_) (fun h0 => ?_)
    · refine w_skip rfl rfl ?_;refine w_skip rfl rfl ?_;refine w_step tok rfl ?_;refine piQ ?_;refine s_end ?_;refine w_step tok rfl ?_;refine mvQ ?_;refine s_end ?_;refine w_skip rfl rfl ?_;refine w_skip rfl rfl ?_;refine w_step tok rfl ?_;refine piQ ?_;refine s_end ?_;refine w_step tok rfl ?_;refine mvQ ?_;refine s_end ?_;refine w_skip rfl rfl ?_;refine w_skip rfl rfl ?_;refine w_skip rfl rfl ?_;refine w_step tok rfl ?_;refine piQ ?_;refine s_end ?_;refine w_end rfl (hK _ ?_); clear hK K
      first|(exact absurd h0 (by decide))|exact ⟨_, (by simp only [decide_eq_true_eq, decide_eq_false_iff_not] at h0; rw [Bool.eq_iff_iff]; simp only [decide_eq_true_eq, Bool.not_eq_true', decide_eq_false_iff_not, reduceCtorEq, false_iff, true_iff]; omega), Wk.mk' ⟨rfl, rfl, rfl, rfl, rfl, trivial⟩ trivial⟩
    · refine w_step tok rfl ?_;refine mvQ ?_;refine s_end ?_;refine w_step tok rfl ?_;refine s_bin rfl (e_ltJ (c := decide (n < 1)) (by rw [Bool.eq_iff_iff, decide_eq_true_eq, decide_eq_true_eq]; omega)) rfl ?_;refine s_end ?_;refine w_step tok rfl ?_;refine piQ ?_;refine s_end ?_;refine w_step tok rfl ?_;refine mvQ ?_;refine s_end ?_;refine w_split (fun h1 => ?_) (fun h1 => ?_)
      · refine w_skip rfl rfl ?_;refine w_skip rfl rfl ?_;refine w_step tok rfl ?_;refine piQ ?_;refine s_end ?_;refine w_step tok rfl ?_;refine mvQ ?_;refine s_end ?_;refine w_skip rfl rfl ?_;refine w_skip rfl rfl ?_;refine w_skip rfl rfl ?_;refine w_step tok rfl ?_;refine piQ ?_;refine s_end ?_;refine w_end rfl (hK _ ?_); clear hK K
        first|(exact absurd h0 (by decide))|exact ⟨_, (by simp only [decide_eq_true_eq, decide_eq_false_iff_not] at h0 h1; rw [Bool.eq_iff_iff]; simp only [decide_eq_true_eq, Bool.not_eq_true', decide_eq_false_iff_not, reduceCtorEq, false_iff, true_iff]; omega), Wk.mk' ⟨rfl, rfl, rfl, rfl, rfl, trivial⟩ trivial⟩
      · refine w_step tok rfl ?_;refine mvQ ?_;refine s_end ?_;refine w_step tok rfl ?_;refine s_bin rfl (e_gtV _ 5) rfl ?_;refine s_end ?_;refine w_step tok rfl ?_;refine piQ ?_;refine s_end ?_;refine w_step tok rfl ?_;refine mvQ ?_;refine s_end ?_;refine w_split (fun h2 => ?_) (fun h2 => ?_)
        · refine w_skip rfl rfl ?_;refine w_skip rfl rfl ?_;refine w_skip rfl rfl ?_;refine w_step tok rfl ?_;refine piQ ?_;refine s_end ?_;refine w_end rfl (hK _ ?_); clear hK K
          first|(exact absurd h0 (by decide))|exact ⟨_, (by simp only [decide_eq_true_eq, decide_eq_false_iff_not] at h0 h1 h2; rw [Bool.eq_iff_iff]; simp only [decide_eq_true_eq, Bool.not_eq_true', decide_eq_false_iff_not, reduceCtorEq, false_iff, true_iff]; omega), Wk.mk' ⟨rfl, rfl, rfl, rfl, rfl, trivial⟩ trivial⟩
        · refine w_step tok rfl ?_;refine mvQ ?_;refine s_end ?_;refine w_step tok rfl ?_;refine s_blt rfl (len_m PT.dc rfl rfl) rfl ?_;refine s_end ?_;refine w_step tok rfl ?_;refine s_bin rfl (e_gtV _ 5) rfl ?_;refine s_end ?_;refine w_step tok rfl ?_;refine piQ ?_;refine s_end ?_;refine w_end rfl (hK _ ?_); clear hK K
          first|(exact absurd h0 (by decide))|exact ⟨_, (by simp only [decide_eq_true_eq, decide_eq_false_iff_not] at h0 h1 h2; rw [Bool.eq_iff_iff]; simp only [decide_eq_true_eq, Bool.not_eq_true', decide_eq_false_iff_not, reduceCtorEq, false_iff, true_iff]; omega), Wk.mk' ⟨rfl, rfl, rfl, rfl, rfl, trivial⟩ trivial⟩
  rintro c rfl
  refine a_cond rfl (fun hd => ?_) (fun hd => ?_)
  · refine AWP_reg_seq tok fun K hK => ?_;refine s_call rfl rfl (awake31_c) rfl rfl rfl rfl ?_;refine asQ ?_;refine s_end (hK _ ?_); clear hK K;refine AWP_ret ?_
    repeat (with_reducible refine tq_ret ?_)
    exact post_ret (fin_mk (by rfl) (by rfl) (by rfl))
  rw [Bool.not_eq_false'] at hd
  obtain ⟨h1, h5, hp5⟩ := of_decide_eq_true hd
  have hna : n ≤ pa.length := by omega
  have hnt : n ≤ ts.length := by omega
  clear hn
  have cQ := quarter_c (ts.take n) (fun t ht => hts t (List.mem_of_mem_take ht)) (by simp; omega)
  refine AWP_skip ?_;show AWP _ _ _ _ _ _;refine AWP_reg_seq tok fun K hK => ?_;refine mvQ ?_;refine s_makeSlice (sz := _) (es := _) (f := _) (v := _) rfl (mk_a (l := n) rfl rfl rfl rfl rfl (Nat.le_of_ble_eq_true rfl) (by decide) rfl rfl (by omega)) rfl rfl ?_;refine asQ ?_;refine s_end (hK _ ?_); clear hK K;refine AWP_seq ?_;refine AWP_reg_seq tok fun K hK => ?_;refine asQ ?_;refine s_end (hK _ ?_); clear hK K;refine AWP_block (a_loop (α := Nat) (fun i => mk 228 [(0, V1 (dPs pa)), (1, V1 (dB8 ts)), (2, V1 (dPs pr)), (7, dI n), (8, .val (.one (.own 46 2 0 n))), (9, dI i)] [(46, some (.arr 2 ((List.range i).map (fun j => (ptF pa j).dc) ++ List.replicate (n - i) p00.dc)))] []) (fun i => i ≤ n) (fun i => n - i) 0 ?_ (Nat.zero_le _) ?_)
  · exact Wk.mk' ⟨rfl, rfl, rfl, rfl, rfl, rfl, trivial⟩ ⟨rfl, trivial⟩
  intro i hi
  refine AWP_seq ?_;refine AWP_reg_seq tok fun K hK => ?_;refine mvQ ?_;refine mvQ ?_;refine biQ ?_;refine s_end (hK _ ?_); clear hK K;refine a_cond rfl (fun hg => ?_) (fun hg => ?_)
  · have hg : i < n := by simp at hg; omega
    have hga : i < pa.length := by omega
    have hel : ∀ el ∈ (List.range i).map (fun j => (ptF pa j).dc) ++ List.replicate (n - i) p00.dc, el.length = 2 := by
      intro el h
      rcases List.mem_append.1 h with h | h
      · obtain ⟨_, _, rfl⟩ := List.mem_map.1 h; rfl
      · rw [List.eq_of_mem_replicate h]; rfl
    have hlen : i < ((List.range i).map (fun j => (ptF pa j).dc) ++ List.replicate (n - i) p00.dc).length := by simp; omega
    have hset : ((List.range i).map (fun j => (ptF pa j).dc) ++ List.replicate (n - i) p00.dc).set i (ptF pa i).dc = (List.range (i + 1)).map (fun j => (ptF pa j).dc) ++ List.replicate (n - (i + 1)) p00.dc := by
      obtain ⟨k, hk⟩ : ∃ k, n - i = k + 1 := ⟨n - i - 1, by omega⟩
      rw [hk, List.replicate_succ, set_mid (by simp), show n - (i + 1) = k by omega, List.range_succ, List.map_append, List.append_assoc]; rfl
    have ep : ptF pa i = ⟨clp pa[i].x (-1000) 1000, clp pa[i].y (-1000) 1000⟩ := by
      unfold ptF; rw [List.getD_eq_getElem?_getD, List.getElem?_eq_getElem hga]; rfl
    rw [ep] at hset
    have c1 := clip_c pa[i].x (-1000) 1000
    have c2 := clip_c pa[i].y (-1000) 1000
    generalize (List.range i).map (fun j => (ptF pa j).dc) ++ List.replicate (n - i) p00.dc = es at hel hlen hset ⊢;refine AWP_skip ?_;show AWP _ _ _ _ _ _;refine AWP_seq ?_;refine AWP_block ?_;refine a_draw1 tok mixed (A := [[], [], [], [], [], [2, 3], [2, 3, 4], [2, 3, 4, 5], [], [], [], [8, 9], [8, 9, 10], [2, 3, 4, 5, 6, 8, 9, 10, 11], [2, 3, 4, 5, 6, 8, 9, 10, 11, 12], [], []]) (an := [{}, {}, {}, {}, {}, {}, {}, {}, { c := [59] }, { c := [59] }, { c := [59] }, { c := [59] }, { c := [59] }, {}, {}, {}, {}]) rfl (by kernel_rfl) rfl fun K hK => ?_;refine mvQ ?_;refine mvQ ?_;refine mvQ ?_;refine mvQ ?_;refine s_indexAddr rfl (x_m PT.dc rfl rfl rfl rfl hga rfl) rfl ?_;refine faQ ?_;refine ldQ ?_;refine s_call rfl rfl (c1) rfl rfl rfl rfl ?_;refine mvQ ?_;refine mvQ ?_;refine s_indexAddr rfl (x_m PT.dc rfl rfl rfl rfl hga rfl) rfl ?_;refine faQ ?_;refine ldQ ?_;refine s_call rfl rfl (c2) rfl rfl rfl rfl ?_;refine s_build rfl rfl rfl ?_;refine s_indexAddr rfl (x_o (i := i) (j := i) rfl rfl rfl rfl rfl hg (Nat.zero_add _)) rfl ?_;refine s_store rfl (st_P (p := ⟨clp pa[i].x (-1000) 1000, clp pa[i].y (-1000) 1000⟩) rfl rfl rfl hlen hel) rfl rfl rfl ?_;refine s_end (hK _ ?_); clear hK K;rw [hset];show AWP _ _ _ _ _ _;refine AWP_reg tok fun K hK => ?_;refine mvQ ?_;refine s_bin rfl (e_add (c := ((i + 1 : Nat) : Int)) (by omega) (by omega)) rfl ?_;refine asQ ?_;refine s_end (hK _ ?_); clear hK K;exact ⟨i + 1, by omega, hg, Wk.mk' ⟨rfl, rfl, rfl, rfl, rfl, rfl, trivial⟩ ⟨rfl, trivial⟩⟩
  have hg : n = i := by simp at hg; omega
  subst hg
  rw [Nat.sub_self, List.replicate_zero, List.append_nil];refine AWP_exit ?_;show AWP _ _ _ _ _ _
  obtain ⟨P, hP⟩ : ∃ P : Nat → PT, P = ptF pa := ⟨_, rfl⟩
  have bP : ∀ i, (-1000 ≤ (P i).x ∧ (P i).x ≤ 1000) ∧ (-1000 ≤ (P i).y ∧ (P i).y ≤ 1000) := fun i => by rw [hP]; exact ptF_bd pa i
  rw [← hP];clear hP;refine a_fz [1, 2, 7, 8] [46] 46 [(1, V1 (dB8 ts)), (2, V1 (dPs pr)), (7, dI n), (8, V1 (dPs ((List.range n).map P)))] [] rfl ?_ trivial ?_
  · exact ⟨rfl, rfl, rfl, frz_own (by rw [List.map_map]; rfl) (by simp), trivial⟩
  have hPL : ∀ i (h : i < ((List.range n).map P).length), ((List.range n).map P)[i]'h = P i := fun i h => by simp
  have hlP : ((List.range n).map P).length = n := by simp
  have gv := tuG_GV h1 h5 hnt hp5 bP
  have gS := tuG_SM h1 h5 hnt hp5 bP
  have gc := tuG_cn h1 h5 hnt hp5 bP
  have gl := tuG_len h1 h5 hnt hp5 bP
  obtain ⟨gm, gz⟩ := tuG_min h1 h5 hnt hp5 bP
  have cM := gMin_c (tuG P ts n pr) (fun r hr => (gS.ok r hr).mono rfl) (fun _ => gS)
  have cL := gLst_c (tuG P ts n pr) (fun r hr => (gS.ok r hr).mono rfl) (fun _ => gS)
  rw [minV, if_pos (validB_iff.2 gv), if_pos gc] at cM;rw [lstV, if_pos (validB_iff.2 gv), if_pos gc, gz] at cL
  have hml : (mnL (tuG P ts n pr)).length = n := by rw [mnL_length]; exact gl
  have hma : ∀ i (h : i < (mnL (tuG P ts n pr)).length), (mnL (tuG P ts n pr))[i]'h = szW (((P i).x - (P 0).x : Int) : Rat) (((P i).y - (P 0).y : Int) : Rat) := fun i h => by
    have := mn_at (g := tuG P ts n pr) (v := i) (by omega)
    rw [(gm i (by omega)).1, (gm i (by omega)).2, List.getD_eq_getElem?_getD, List.getElem?_eq_getElem h] at this;exact this
  have eG : tuG P ts n pr = ⟨(ts.take n).map qRW, chK P ts (n - 1) ++ prKs P ts n pr⟩ := rfl
  rw [eG] at cM cL;rw [← eG] at cM cL;generalize mnL (tuG P ts n pr) = ml at cM hml hma;rw [eG] at cM cL;generalize (ts.take n).map qRW = nodes at cQ cM cL;generalize hPL0 : (List.range n).map P = PL at hPL hlP ⊢;refine AWP_reg_seq tok fun K hK => ?_;refine mvQ ?_;refine mvQ ?_;refine s_slice rfl rfl rfl (sl_t b8 rfl rfl rfl hnt (fun _ => rfl)) rfl ?_;refine s_call rfl rfl (cQ) rfl rfl rfl rfl ?_;refine s_build rfl rfl rfl ?_;refine s_alloc rfl rfl rfl rfl rfl rfl ?_;refine s_store rfl rfl rfl rfl rfl ?_;refine s_end (hK _ ?_); clear hK K;refine AWP_seq ?_;refine AWP_reg_seq tok fun K hK => ?_;refine asQ ?_;refine s_end (hK _ ?_); clear hK K;refine AWP_block (a_loop (α := Nat) (fun i => mk 228 [(1, V1 (dB8 ts)), (2, V1 (dPs pr)), (7, dI n), (8, V1 (dPs PL)), (10, .ptr 10 0), (11, dI i)] [(10, some (.box [.d (dRs nodes), ownC 200 5 i])), (200, arrN 5 ((chK P ts i).map LK.dc) i)] [10]) (fun i => i + 1 ≤ n) (fun i => n - i) 0 ?_ (by omega) ?_)
  · exact Wk.trans (Wk.rbE rfl) (Wk.mk' ⟨rfl, rfl, rfl, rfl, rfl, rfl, trivial⟩ ⟨rfl, rfl, trivial⟩)
  intro i hi
  refine AWP_seq ?_;refine AWP_reg_seq tok fun K hK => ?_;refine mvQ ?_;refine s_bin rfl (e_add (c := ((i + 1 : Nat) : Int)) (by omega) (by omega)) rfl ?_;refine mvQ ?_;refine biQ ?_;refine s_end (hK _ ?_); clear hK K;refine a_cond rfl (fun hg => ?_) (fun hg => ?_)
  · have hg : i + 1 < n := by simp at hg; omega
    have t1 : i < ts.length := by omega
    have g1 : i < PL.length := by omega
    have g2 : i + 1 < PL.length := by omega
    have b1 := bP i
    have b2 := bP (i + 1)
    have e1 := hPL i g1
    have e2 := hPL (i + 1) g2
    have cS := seen_c ts[i] PL[i] PL[i + 1] (hts _ (List.getElem_mem t1)) (by rw [e1, e2]; omega) (by rw [e1, e2]; omega)
    have ek : exK P ts i (i + 1) (1 + (i : Int)) = ⟨i, ((i + 1 : Nat) : Int), (rt4 (ts[i] % 4) (PL[i + 1].x - PL[i].x, PL[i + 1].y - PL[i].y)).1, (rt4 (ts[i] % 4) (PL[i + 1].x - PL[i].x, PL[i + 1].y - PL[i].y)).2, 1 + (i : Int)⟩ := by
      unfold exK; rw [e1, e2, List.getD_eq_getElem?_getD, List.getElem?_eq_getElem t1]; rfl
    have n1 := chK_snoc P ts i
    rw [ek] at n1
    have z1 : ((chK P ts i).map LK.dc).length = i := by simp [chK]
    generalize (rt4 (ts[i] % 4) (PL[i + 1].x - PL[i].x, PL[i + 1].y - PL[i].y)).1 = sx at cS n1;generalize (rt4 (ts[i] % 4) (PL[i + 1].x - PL[i].x, PL[i + 1].y - PL[i].y)).2 = sy at cS n1;generalize (chK P ts i).map LK.dc = es at n1 z1 ⊢;clear ek;refine AWP_skip ?_;show AWP _ _ _ _ _ _;refine AWP_seq ?_;refine AWP_block ?_
    rcases i with _ | i
    · refine a_draw tok mixed (A := [[], [], [], [0, 1], [], [], [], [4, 5], [], [], [], [9], [8, 9, 10], [0, 1, 2, 4, 5, 6, 8, 9, 10, 11], [0, 1, 2, 3, 4, 5, 6, 7, 8, 9, 10, 11, 12], [0, 1, 2, 3, 4, 5, 6, 7, 8, 9, 10, 11, 12, 13], [0, 1, 2, 3, 4, 5, 6, 7, 8, 9, 10, 11, 12, 13], [], []]) (an := [{}, {}, {}, {}, {}, {}, {}, {}, {}, {}, {}, {}, {}, {}, {}, {}, {}, {}, {}]) rfl (by kernel_rfl) rfl fun K hK => ?_;refine mvQ ?_;refine mvQ ?_;refine s_indexAddr rfl (x_m b8 rfl rfl rfl rfl t1 rfl) rfl ?_;refine ldQ ?_;refine mvQ ?_;refine mvQ ?_;refine s_indexAddr rfl (x_m PT.dc rfl rfl rfl rfl g1 rfl) rfl ?_;refine ldQ ?_;refine mvQ ?_;refine mvQ ?_;refine s_bin rfl (e_add (c := ((0 + 1 : Nat) : Int)) (by omega) (by omega)) rfl ?_;refine s_indexAddr rfl (x_m PT.dc rfl rfl rfl rfl g2 rfl) rfl ?_;refine ldQ ?_;refine s_call rfl rfl (cS) rfl rfl rfl rfl ?_;refine mvQ ?_;refine s_extract rfl rfl rfl ?_;refine s_extract rfl rfl rfl ?_;refine asQ ?_;refine asQ ?_;refine s_end (hK _ ?_); clear hK K;refine AWP_reg tok fun K hK => ?_;refine faQ ?_;refine ldQ ?_;refine mvQ ?_;refine mvQ ?_;refine s_bin rfl (e_add (c := ((0 + 1 : Nat) : Int)) (by omega) (by omega)) rfl ?_;refine mvQ ?_;refine mvQ ?_;refine mvQ ?_;refine s_bin rfl (e_add (c := 1 + ((0 : Nat) : Int)) (by omega) (by omega)) rfl ?_;refine s_build rfl rfl rfl ?_;refine s_buildSlice rfl rfl rfl rfl ?_;refine s_append rfl (ap_nil rfl rfl rfl rfl rfl (by decide) (Nat.le_of_ble_eq_true rfl) rfl (by simp) rfl (by simp) (by simp)) rfl rfl rfl ?_;refine faQ ?_;refine s_storeB rfl rfl rfl rfl rfl ?_;refine s_end (hK _ ?_); clear hK K;show AWP _ _ _ _ _ _;refine AWP_reg tok fun K hK => ?_;refine mvQ ?_;refine s_bin rfl (e_add (c := ((0 + 1 : Nat) : Int)) (by omega) (by omega)) rfl ?_;refine asQ ?_;refine s_end (hK _ ?_); clear hK K;refine ⟨0 + 1, by omega, hg, Wk.rnB [1, 2, 7, 8, 10, 11] [10, 107] 107 200 rfl rfl rfl ⟨rfl, rfl, rfl, rfl, rfl, rfl, trivial⟩ ⟨?_, ?_, trivial⟩ rfl⟩
      · first
          | rfl
          | (show some (OO.box [_, .own 200 5 0 _]) = _
             rw [List.length_append, z1]; rfl)
      · first
          | (rw [← n1, List.length_eq_zero_iff.1 z1]; rfl)
          | (rw [← n1]; rfl)
    · refine a_draw tok mixed (A := [[], [], [], [0, 1], [], [], [], [4, 5], [], [], [], [9], [8, 9, 10], [0, 1, 2, 4, 5, 6, 8, 9, 10, 11], [0, 1, 2, 3, 4, 5, 6, 7, 8, 9, 10, 11, 12], [0, 1, 2, 3, 4, 5, 6, 7, 8, 9, 10, 11, 12, 13], [0, 1, 2, 3, 4, 5, 6, 7, 8, 9, 10, 11, 12, 13], [], []]) (an := [{}, {}, {}, {}, {}, {}, {}, {}, {}, {}, {}, {}, {}, {}, {}, {}, {}, {}, {}]) rfl (by kernel_rfl) rfl fun K hK => ?_;refine mvQ ?_;refine mvQ ?_;refine s_indexAddr rfl (x_m b8 rfl rfl rfl rfl t1 rfl) rfl ?_;refine ldQ ?_;refine mvQ ?_;refine mvQ ?_;refine s_indexAddr rfl (x_m PT.dc rfl rfl rfl rfl g1 rfl) rfl ?_;refine ldQ ?_;refine mvQ ?_;refine mvQ ?_;refine s_bin rfl (e_add (c := ((i + 1 + 1 : Nat) : Int)) (by omega) (by omega)) rfl ?_;refine s_indexAddr rfl (x_m PT.dc rfl rfl rfl rfl g2 rfl) rfl ?_;refine ldQ ?_;refine s_call rfl rfl (cS) rfl rfl rfl rfl ?_;refine mvQ ?_;refine s_extract rfl rfl rfl ?_;refine s_extract rfl rfl rfl ?_;refine asQ ?_;refine asQ ?_;refine s_end (hK _ ?_); clear hK K;refine AWP_reg tok fun K hK => ?_;refine faQ ?_;refine ldQ ?_;refine mvQ ?_;refine mvQ ?_;refine s_bin rfl (e_add (c := ((i + 1 + 1 : Nat) : Int)) (by omega) (by omega)) rfl ?_;refine mvQ ?_;refine mvQ ?_;refine mvQ ?_;refine s_bin rfl (e_add (c := 1 + ((i + 1 : Nat) : Int)) (by omega) (by omega)) rfl ?_;refine s_build rfl rfl rfl ?_;refine s_buildSlice rfl rfl rfl rfl ?_;refine s_append rfl (ap_o rfl rfl rfl rfl rfl rfl (by decide) (Nat.le_of_ble_eq_true rfl) rfl (by simp) rfl rfl z1.symm (by simp <;> omega)) rfl rfl rfl ?_;refine faQ ?_;refine s_storeB rfl rfl rfl rfl rfl ?_;refine s_end (hK _ ?_); clear hK K;show AWP _ _ _ _ _ _;refine AWP_reg tok fun K hK => ?_;refine mvQ ?_;refine s_bin rfl (e_add (c := ((i + 1 + 1 : Nat) : Int)) (by omega) (by omega)) rfl ?_;refine asQ ?_;refine s_end (hK _ ?_); clear hK K;refine ⟨i + 1 + 1, by omega, hg, Wk.rnB [1, 2, 7, 8, 10, 11] [10, 107] 107 200 rfl rfl rfl ⟨rfl, rfl, rfl, rfl, rfl, rfl, trivial⟩ ⟨?_, ?_, trivial⟩ rfl⟩
      · first
          | rfl
          | (show some (OO.box [_, .own 200 5 0 _]) = _
             rw [List.length_append, z1]; rfl)
      · first
          | (rw [← n1, List.length_eq_zero_iff.1 z1]; rfl)
          | (rw [← n1]; rfl)
  have hg : i = n - 1 := by simp at hg; omega
  subst hg
  have zc : (chK P ts (n - 1)).length = n - 1 := by simp [chK]
  refine AWP_exit ?_;show AWP _ _ _ _ _ _;refine AWP_seq ?_;refine AWP_reg_seq tok fun K hK => ?_;refine asQ ?_;refine s_end (hK _ ?_); clear hK K;refine AWP_block (a_loop (α := Nat) (fun k => mk 228 [(1, V1 (dB8 ts)), (2, V1 (dPs pr)), (7, dI n), (8, V1 (dPs PL)), (10, .ptr 10 0), (14, dI k)] [(10, some (.box [.d (dRs nodes), ownC 200 5 (chK P ts (n - 1) ++ prKs P ts n (pr.take k)).length])), (200, arrN 5 ((chK P ts (n - 1) ++ prKs P ts n (pr.take k)).map LK.dc) (chK P ts (n - 1) ++ prKs P ts n (pr.take k)).length)] [10]) (fun k => k ≤ pr.length) (fun k => pr.length - k) 0 ?_ (Nat.zero_le _) ?_)
  · have e0 : chK P ts (n - 1) ++ prKs P ts n (pr.take 0) = chK P ts (n - 1) := List.append_nil _
    simp only [e0, zc];exact Wk.mk' ⟨rfl, rfl, rfl, rfl, rfl, rfl, trivial⟩ ⟨rfl, rfl, trivial⟩
  intro k hk
  refine AWP_seq ?_;refine AWP_reg_seq tok fun K hK => ?_;refine mvQ ?_;refine mvQ ?_;refine s_blt rfl (len_m PT.dc rfl rfl) rfl ?_;refine biQ ?_;refine s_end (hK _ ?_); clear hK K;refine a_cond rfl (fun hg => ?_) (fun hg => ?_)
  · have hg : k < pr.length := by simp at hg; omega
    have hI := hpr _ (List.getElem_mem hg)
    have a0 := Int.emod_nonneg pr[k].x (b := (n : Int)) (by omega)
    have a1 := Int.emod_lt_of_pos pr[k].x (b := (n : Int)) (by omega)
    have b0 := Int.emod_nonneg pr[k].y (b := (n : Int)) (by omega)
    have b1 := Int.emod_lt_of_pos pr[k].y (b := (n : Int)) (by omega)
    have m1 := bMod_c pr[k].x n hI.1 (by omega) (by omega)
    have m2 := bMod_c pr[k].y n hI.2 (by omega) (by omega)
    have sn := prKs_snoc P ts n hg
    have lk : (chK P ts (n - 1) ++ prKs P ts n (pr.take k)).length ≤ 20 := by
      have := prKs_len P ts n (pr.take k)
      rw [List.length_append, zc]
      have : (pr.take k).length ≤ 5 := by simp; omega
      omega
    obtain ⟨a, ha⟩ : ∃ a : Nat, pr[k].x % (n : Int) = a := ⟨(pr[k].x % (n : Int)).toNat, by omega⟩
    obtain ⟨b, hb⟩ : ∃ b : Nat, pr[k].y % (n : Int) = b := ⟨(pr[k].y % (n : Int)).toNat, by omega⟩
    rw [ha] at m1 a1;rw [hb] at m2 b1
    unfold prK1 at sn
    rw [ha, hb, Int.toNat_natCast, Int.toNat_natCast] at sn
    have ta : a < ts.length := by omega
    have g1 : a < PL.length := by omega
    have g2 : b < PL.length := by omega
    have q1 := bP a
    have q2 := bP b
    have e1 := hPL a g1
    have e2 := hPL b g2
    have cS := seen_c ts[a] PL[a] PL[b] (hts _ (List.getElem_mem ta)) (by rw [e1, e2]; omega) (by rw [e1, e2]; omega)
    have ek : exK P ts a b 5 = ⟨a, b, (rt4 (ts[a] % 4) (PL[b].x - PL[a].x, PL[b].y - PL[a].y)).1, (rt4 (ts[a] % 4) (PL[b].x - PL[a].x, PL[b].y - PL[a].y)).2, 5⟩ := by
      unfold exK; rw [e1, e2, List.getD_eq_getElem?_getD, List.getElem?_eq_getElem ta]; rfl
    rw [ek] at sn;generalize (rt4 (ts[a] % 4) (PL[b].x - PL[a].x, PL[b].y - PL[a].y)).1 = sx at cS sn;generalize (rt4 (ts[a] % 4) (PL[b].x - PL[a].x, PL[b].y - PL[a].y)).2 = sy at cS sn
    have sn2 : chK P ts (n - 1) ++ prKs P ts n (pr.take (k + 1)) = (chK P ts (n - 1) ++ prKs P ts n (pr.take k)) ++ (if a = b then [] else [LK.mk a b sx sy 5]) := by rw [sn, List.append_assoc]
    clear ek sn;generalize chK P ts (n - 1) ++ prKs P ts n (pr.take k) = L at lk sn2 ⊢;refine AWP_skip ?_;show AWP _ _ _ _ _ _;refine AWP_seq ?_;refine AWP_block ?_;refine a_draw tok mixed (A := [[], [], [], [0, 1], [0, 1, 2], [], [0, 1, 2, 3], [], [], [], [7, 8], [7, 8, 9], [], [0, 1, 2, 3, 4, 5, 7, 8, 9, 10], [7, 8, 9, 10, 11, 12], []]) (an := [{}, {}, {}, {}, {}, {}, {}, { c := [121] }, { c := [121] }, { c := [121] }, { c := [121] }, { c := [121] }, { c := [121] }, {}, {}, {}]) rfl (by kernel_rfl) rfl fun K hK => ?_;refine mvQ ?_;refine mvQ ?_;refine s_indexAddr rfl (x_m PT.dc rfl rfl rfl rfl hg rfl) rfl ?_;refine faQ ?_;refine ldQ ?_;refine mvQ ?_;refine s_call rfl rfl (m1) rfl rfl rfl rfl ?_;refine mvQ ?_;refine mvQ ?_;refine s_indexAddr rfl (x_m PT.dc rfl rfl rfl rfl hg rfl) rfl ?_;refine faQ ?_;refine ldQ ?_;refine mvQ ?_;refine s_call rfl rfl (m2) rfl rfl rfl rfl ?_;refine asQ ?_;refine asQ ?_;refine s_end (hK _ ?_); clear hK K;refine AWP_seq ?_;refine AWP_reg_seq tok fun K hK => ?_;refine mvQ ?_;refine mvQ ?_;refine s_bin rfl (e_eqV _ _) rfl ?_;refine s_end (hK _ ?_); clear hK K;refine a_cond rfl (fun hab => ?_) (fun hab => ?_)
    · have hab := of_decide_eq_true hab
      rw [if_pos hab, List.append_nil] at sn2;refine AWP_exit ?_;show AWP _ _ _ _ _ _;refine AWP_reg tok fun K hK => ?_;refine mvQ ?_;refine s_bin rfl (e_add (c := ((k + 1 : Nat) : Int)) (by omega) (by omega)) rfl ?_;refine asQ ?_;refine s_end (hK _ ?_); clear hK K;refine ⟨k + 1, by omega, hg, ?_⟩;rw [sn2];exact Wk.mk' ⟨rfl, rfl, rfl, rfl, rfl, rfl, trivial⟩ ⟨rfl, rfl, trivial⟩
    have hab := of_decide_eq_false hab
    rw [if_neg hab] at sn2
    have n1 : L.map LK.dc ++ [(LK.mk a b sx sy 5).dc] = (L ++ [LK.mk a b sx sy 5]).map LK.dc := by rw [List.map_append]; rfl
    have z1 : (L.map LK.dc).length = L.length := List.length_map _
    have k2 : (L ++ [LK.mk a b sx sy 5]).length = L.length + 1 := by simp
    obtain ⟨es, hes⟩ : ∃ es, es = L.map LK.dc := ⟨_, rfl⟩
    obtain ⟨w, hw⟩ : ∃ w, w = L.length := ⟨_, rfl⟩
    rw [← hes] at z1 n1 ⊢;rw [← hw] at z1 k2 lk ⊢;refine AWP_skip ?_;show AWP _ _ _ _ _ _
    rcases w with _ | w
    · refine a_draw tok mixed (A := [[], [], [], [0, 1], [], [], [], [4, 5], [], [], [], [8, 9], [0, 1, 2, 4, 5, 6, 8, 9, 10], [0, 1, 2, 3, 4, 5, 6, 7, 8, 9, 10, 11], [0, 1, 2, 3, 4, 5, 6, 7, 8, 9, 10, 11, 12], [0, 1, 2, 3, 4, 5, 6, 7, 8, 9, 10, 11, 12], [], []]) (an := [{}, {}, {}, {}, {}, {}, {}, {}, {}, {}, {}, {}, {}, {}, {}, {}, {}, {}]) rfl (by kernel_rfl) rfl fun K hK => ?_;refine mvQ ?_;refine mvQ ?_;refine s_indexAddr rfl (x_m b8 rfl rfl rfl rfl ta rfl) rfl ?_;refine ldQ ?_;refine mvQ ?_;refine mvQ ?_;refine s_indexAddr rfl (x_m PT.dc rfl rfl rfl rfl g1 rfl) rfl ?_;refine ldQ ?_;refine mvQ ?_;refine mvQ ?_;refine s_indexAddr rfl (x_m PT.dc rfl rfl rfl rfl g2 rfl) rfl ?_;refine ldQ ?_;refine s_call rfl rfl (cS) rfl rfl rfl rfl ?_;refine mvQ ?_;refine s_extract rfl rfl rfl ?_;refine s_extract rfl rfl rfl ?_;refine asQ ?_;refine asQ ?_;refine s_end (hK _ ?_); clear hK K;refine AWP_reg tok fun K hK => ?_;refine faQ ?_;refine ldQ ?_;refine mvQ ?_;refine mvQ ?_;refine mvQ ?_;refine mvQ ?_;refine s_build rfl rfl rfl ?_;refine s_buildSlice rfl rfl rfl rfl ?_;refine s_append rfl (ap_nil rfl rfl rfl rfl rfl (by decide) (Nat.le_of_ble_eq_true rfl) rfl (by simp) rfl (by simp) (by simp)) rfl rfl rfl ?_;refine faQ ?_;refine s_storeB rfl rfl rfl rfl rfl ?_;refine s_end (hK _ ?_); clear hK K;show AWP _ _ _ _ _ _;refine AWP_reg tok fun K hK => ?_;refine mvQ ?_;refine s_bin rfl (e_add (c := ((k + 1 : Nat) : Int)) (by omega) (by omega)) rfl ?_;refine asQ ?_;refine s_end (hK _ ?_); clear hK K;refine ⟨k + 1, by omega, hg, ?_⟩;rw [sn2, k2, ← n1];refine Wk.rnB [1, 2, 7, 8, 10, 14] [10, 156] 156 200 rfl rfl rfl ⟨rfl, rfl, rfl, rfl, rfl, rfl, trivial⟩ ⟨?_, ?_, trivial⟩ rfl
      · first
          | rfl
          | (show some (OO.box [_, .own 200 5 0 _]) = _
             rw [List.length_append, z1]; rfl)
      · first
          | (rw [List.length_eq_zero_iff.1 z1]; rfl)
          | rfl
    · refine a_draw tok mixed (A := [[], [], [], [0, 1], [], [], [], [4, 5], [], [], [], [8, 9], [0, 1, 2, 4, 5, 6, 8, 9, 10], [0, 1, 2, 3, 4, 5, 6, 7, 8, 9, 10, 11], [0, 1, 2, 3, 4, 5, 6, 7, 8, 9, 10, 11, 12], [0, 1, 2, 3, 4, 5, 6, 7, 8, 9, 10, 11, 12], [], []]) (an := [{}, {}, {}, {}, {}, {}, {}, {}, {}, {}, {}, {}, {}, {}, {}, {}, {}, {}]) rfl (by kernel_rfl) rfl fun K hK => ?_;refine mvQ ?_;refine mvQ ?_;refine s_indexAddr rfl (x_m b8 rfl rfl rfl rfl ta rfl) rfl ?_;refine ldQ ?_;refine mvQ ?_;refine mvQ ?_;refine s_indexAddr rfl (x_m PT.dc rfl rfl rfl rfl g1 rfl) rfl ?_;refine ldQ ?_;refine mvQ ?_;refine mvQ ?_;refine s_indexAddr rfl (x_m PT.dc rfl rfl rfl rfl g2 rfl) rfl ?_;refine ldQ ?_;refine s_call rfl rfl (cS) rfl rfl rfl rfl ?_;refine mvQ ?_;refine s_extract rfl rfl rfl ?_;refine s_extract rfl rfl rfl ?_;refine asQ ?_;refine asQ ?_;refine s_end (hK _ ?_); clear hK K;refine AWP_reg tok fun K hK => ?_;refine faQ ?_;refine ldQ ?_;refine mvQ ?_;refine mvQ ?_;refine mvQ ?_;refine mvQ ?_;refine s_build rfl rfl rfl ?_;refine s_buildSlice rfl rfl rfl rfl ?_;refine s_append rfl (ap_o rfl rfl rfl rfl rfl rfl (by decide) (Nat.le_of_ble_eq_true rfl) rfl (by simp) rfl rfl z1.symm (by simp <;> omega)) rfl rfl rfl ?_;refine faQ ?_;refine s_storeB rfl rfl rfl rfl rfl ?_;refine s_end (hK _ ?_); clear hK K;show AWP _ _ _ _ _ _;refine AWP_reg tok fun K hK => ?_;refine mvQ ?_;refine s_bin rfl (e_add (c := ((k + 1 : Nat) : Int)) (by omega) (by omega)) rfl ?_;refine asQ ?_;refine s_end (hK _ ?_); clear hK K;refine ⟨k + 1, by omega, hg, ?_⟩;rw [sn2, k2, ← n1];refine Wk.rnB [1, 2, 7, 8, 10, 14] [10, 156] 156 200 rfl rfl rfl ⟨rfl, rfl, rfl, rfl, rfl, rfl, trivial⟩ ⟨?_, ?_, trivial⟩ rfl
      · first
          | rfl
          | (show some (OO.box [_, .own 200 5 0 _]) = _
             rw [List.length_append, z1]; rfl)
      · first
          | (rw [List.length_eq_zero_iff.1 z1]; rfl)
          | rfl
  have hg : k = pr.length := by simp at hg; omega
  subst hg
  rw [List.take_length];generalize chK P ts (n - 1) ++ prKs P ts n pr = L at cM cL ⊢
  have hc0 : ∀ i (h : i < ml.length) (h' : i < PL.length), Con Tryz.prog 20 [AG (ml[i]'h).x.cs, AG (qzW ((((PL[i]'h').x - (P 0).x : Int)) : Rat)).cs] { v := dI 0 } ∧ Con Tryz.prog 20 [AG (ml[i]'h).y.cs, AG (qzW ((((PL[i]'h').y - (P 0).y : Int)) : Rat)).cs] { v := dI 0 } := fun i h h' => by
    have b1 := bP i
    have b0 := bP 0
    have x1 : (ml[i]'h).x = qzW ((((P i).x - (P 0).x : Int)) : Rat) := by rw [hma i h]; rfl
    have y1 : (ml[i]'h).y = qzW ((((P i).y - (P 0).y : Int)) : Rat) := by rw [hma i h]; rfl
    have oX := qzW_ok (ql_i64 (n := (P i).x - (P 0).x) ⟨by omega, by omega⟩)
    have oY := qzW_ok (ql_i64 (n := (P i).y - (P 0).y) ⟨by omega, by omega⟩)
    have k1 := qCmp_t _ _ (oX.mono rfl) (oX.mono rfl)
    have k2 := qCmp_t _ _ (oY.mono rfl) (oY.mono rfl)
    rw [qzW_v, (qcmp_z _ _).2 rfl] at k1 k2;rw [hPL i h', x1, y1];exact ⟨k1, k2⟩
  refine AWP_exit ?_;show AWP _ _ _ _ _ _
  rcases L with _ | ⟨l, L⟩
  · refine a_keep [(7, dI n), (8, V1 (dPs PL)), (10, .ptr 10 0)] [(10, some (.box [.d (dRs nodes), .nil]))] ⟨rfl, rfl, rfl, trivial⟩ ⟨rfl, trivial⟩ ?_;refine AWP_reg_seq tok fun K hK => ?_;refine ldQ ?_;refine s_call rfl rfl (cM) rfl rfl rfl rfl ?_;refine mvQ ?_;refine s_extract rfl rfl rfl ?_;refine s_extract rfl rfl rfl ?_;refine asQ ?_;refine asQ ?_;refine s_end (hK _ ?_); clear hK K;refine AWP_reg_seq tok fun K hK => ?_;refine ldQ ?_;refine s_call rfl rfl (cL) rfl rfl rfl rfl ?_;refine mvQ ?_;refine s_extract rfl rfl rfl ?_;refine s_extract rfl rfl rfl ?_;refine s_alloc rfl rfl rfl rfl rfl rfl ?_;refine s_store rfl rfl rfl rfl rfl ?_;refine asQ ?_;refine s_end (hK _ ?_); clear hK K;refine AWP_seq ?_;refine AWP_reg_seq tok fun K hK => ?_;refine mvQ ?_;refine biQ ?_;refine mvQ ?_;refine mvQ ?_;refine biQ ?_;refine piQ ?_;refine mvQ ?_;refine mvQ ?_;refine s_blt rfl (len_m SP.dc rfl rfl) rfl ?_;refine mvQ ?_;refine s_bin rfl (e_neK (c := false) (by rw [hml]; simp)) rfl ?_;refine piQ ?_;refine mvQ ?_;refine ldQ ?_;refine s_call rfl rfl (sign0_c) rfl rfl rfl rfl ?_;refine biQ ?_;refine piQ ?_;refine s_end (hK _ ?_); clear hK K;refine a_cond rfl (fun h => by cases h) (fun _ => ?_);refine AWP_skip ?_;show AWP _ _ _ _ _ _;refine AWP_seq ?_;refine AWP_reg_seq tok fun K hK => ?_;refine asQ ?_;refine s_end (hK _ ?_); clear hK K;refine AWP_block (a_loop (α := Nat) (fun i => mk 228 [(7, dI n), (8, V1 (dPs PL)), (19, V1 (dSs ml)), (23, dI i)] [] [10]) (fun i => i ≤ n) (fun i => n - i) 0 ?_ (Nat.zero_le _) ?_)
    · exact Wk.mk' ⟨rfl, rfl, rfl, rfl, trivial⟩ trivial
    intro i hi
    refine AWP_seq ?_;refine AWP_reg_seq tok fun K hK => ?_;refine mvQ ?_;refine mvQ ?_;refine biQ ?_;refine s_end (hK _ ?_); clear hK K;refine a_cond rfl (fun hg => ?_) (fun hg => ?_)
    · have hg : i < n := by simp at hg; omega
      have g1 : i < ml.length := by omega
      have g2 : i < PL.length := by omega
      have g0 : 0 < PL.length := by omega
      obtain ⟨k1, k2⟩ := hc0 i g1 g2
      have e0 := hPL 0 g0
      have ei := hPL i g2
      have b1 := bP i
      have b0 := bP 0
      rw [← e0] at k1 k2
      have o1 := qOfI_c (PL[i].x - PL[0].x) (by rw [ei, e0]; exact ⟨by omega, by omega⟩)
      have o2 := qOfI_c (PL[i].y - PL[0].y) (by rw [ei, e0]; exact ⟨by omega, by omega⟩)
      have r1 : -4000 ≤ PL[i].x - PL[0].x ∧ PL[i].x - PL[0].x ≤ 4000 := by rw [ei, e0]; omega
      have r2 : -4000 ≤ PL[i].y - PL[0].y ∧ PL[i].y - PL[0].y ≤ 4000 := by rw [ei, e0]; omega
      refine AWP_skip ?_;show AWP _ _ _ _ _ _;refine AWP_seq ?_;refine AWP_block ?_;refine a_draw tok mixed (A := [[], [], [], [0, 1], [0, 1, 2], [], [], [], [5, 6], [5, 6, 7], [], [], [10], [10, 11], [5, 6, 7, 8, 10, 11, 12], [5, 6, 7, 8, 9, 10, 11, 12, 13], [0, 1, 2, 3, 5, 6, 7, 8, 9, 10, 11, 12, 13, 14], [0, 1, 2, 3, 4, 5, 6, 7, 8, 9, 10, 11, 12, 13, 14, 15], [0, 1, 2, 3, 4, 5, 6, 7, 8, 9, 10, 11, 12, 13, 14, 15], [0, 1, 2, 3, 4, 5, 6, 7, 8, 9, 10, 11, 12, 13, 14, 15, 16, 17], [0, 1, 2, 3, 4, 5, 6, 7, 8, 9, 10, 11, 12, 13, 14, 15, 16, 17], [0, 1, 2, 3, 4, 5, 6, 7, 8, 9, 10, 11, 12, 13, 14, 15, 16, 17], [0, 1, 2, 3, 4, 5, 6, 7, 8, 9, 10, 11, 12, 13, 14, 15, 16, 17, 19, 20], [0, 1, 2, 3, 4, 5, 6, 7, 8, 9, 10, 11, 12, 13, 14, 15, 16, 17, 19, 20, 21], [0, 1, 2, 3, 4, 5, 6, 7, 8, 9, 10, 11, 12, 13, 14, 15, 16, 17], [0, 1, 2, 3, 4, 5, 6, 7, 8, 9, 10, 11, 12, 13, 14, 15, 16, 17], [0, 1, 2, 3, 4, 5, 6, 7, 8, 9, 10, 11, 12, 13, 14, 15, 16, 17], [0, 1, 2, 3, 4, 5, 6, 7, 8, 9, 10, 11, 12, 13, 14, 15, 16, 17, 24, 25], [0, 1, 2, 3, 4, 5, 6, 7, 8, 9, 10, 11, 12, 13, 14, 15, 16, 17, 24, 25, 26], [0, 1, 2, 3, 4, 5, 6, 7, 8, 9, 10, 11, 12, 13, 14, 15, 16, 17], [0, 1, 2, 3, 4, 5, 6, 7, 8, 9, 10, 11, 12, 13, 14, 15, 16, 17], [0, 1, 2, 3, 4, 5, 6, 7, 8, 9, 10, 11, 12, 13, 14, 15, 16, 17, 29], [0, 1, 2, 3, 4, 5, 6, 7, 8, 9, 10, 11, 12, 13, 14, 15, 16, 17, 29, 30], [0, 1, 2, 3, 4, 5, 6, 7, 8, 9, 10, 11, 12, 13, 14, 15, 16, 17, 24, 25, 26, 27, 29, 30, 31], [0, 1, 2, 3, 4, 5, 6, 7, 8, 9, 10, 11, 12, 13, 14, 15, 16, 17, 24, 25, 26, 27, 28, 29, 30, 31, 32], [0, 1, 2, 3, 4, 5, 6, 7, 8, 9, 10, 11, 12, 13, 14, 15, 16, 17, 19, 20, 21, 22, 24, 25, 26, 27, 28, 29, 30, 31, 32, 33], [0, 1, 2, 3, 4, 5, 6, 7, 8, 9, 10, 11, 12, 13, 14, 15, 16, 17, 19, 20, 21, 22, 23, 24, 25, 26, 27, 28, 29, 30, 31, 32, 33, 34], [0, 1, 2, 3, 4, 5, 6, 7, 8, 9, 10, 11, 12, 13, 14, 15, 16, 17, 19, 20, 21, 22, 23, 24, 25, 26, 27, 28, 29, 30, 31, 32, 33, 34, 35]]) (an := [{}, {}, {}, {}, {}, {}, {}, {}, {}, {}, {}, {}, {}, {}, {}, {}, {}, {}, {}, {}, {}, {}, {}, {}, {}, {}, {}, {}, {}, {}, {}, {}, {}, {}, {}, {}, {}, {}]) rfl (by kernel_rfl) rfl fun K hK => ?_;refine mvQ ?_;refine mvQ ?_;refine s_indexAddr rfl (x_m SP.dc rfl rfl rfl rfl g1 rfl) rfl ?_;refine faQ ?_;refine ldQ ?_;refine mvQ ?_;refine mvQ ?_;refine s_indexAddr rfl (x_m PT.dc rfl rfl rfl rfl g2 rfl) rfl ?_;refine faQ ?_;refine ldQ ?_;refine mvQ ?_;refine s_indexAddr rfl (x_m PT.dc (i := 0) rfl rfl rfl rfl g0 rfl) rfl ?_;refine faQ ?_;refine ldQ ?_;refine s_bin rfl (e_sub (c := PL[i].x - PL[0].x) rfl (by omega)) rfl ?_;refine s_call rfl rfl (o1) rfl rfl rfl rfl ?_;refine s_call rfl rfl (k1) rfl rfl rfl rfl ?_;refine biQ ?_;refine mvQ ?_;refine mvQ ?_;refine mvQ ?_;refine s_indexAddr rfl (x_m SP.dc rfl rfl rfl rfl g1 rfl) rfl ?_;refine faQ ?_;refine ldQ ?_;refine mvQ ?_;refine mvQ ?_;refine s_indexAddr rfl (x_m PT.dc rfl rfl rfl rfl g2 rfl) rfl ?_;refine faQ ?_;refine ldQ ?_;refine mvQ ?_;refine s_indexAddr rfl (x_m PT.dc (i := 0) rfl rfl rfl rfl g0 rfl) rfl ?_;refine faQ ?_;refine ldQ ?_;refine s_bin rfl (e_sub (c := PL[i].y - PL[0].y) rfl (by omega)) rfl ?_;refine s_call rfl rfl (o2) rfl rfl rfl rfl ?_;refine s_call rfl rfl (k2) rfl rfl rfl rfl ?_;refine biQ ?_;refine piQ ?_;refine s_end (hK _ ?_); clear hK K;refine a_cond rfl (fun h => by cases h) (fun _ => ?_);refine AWP_skip ?_;show AWP _ _ _ _ _ _;refine AWP_reg tok fun K hK => ?_;refine mvQ ?_;refine s_bin rfl (e_add (c := ((i + 1 : Nat) : Int)) (by omega) (by omega)) rfl ?_;refine asQ ?_;refine s_end (hK _ ?_); clear hK K;exact ⟨i + 1, by omega, hg, Wk.mk' ⟨rfl, rfl, rfl, rfl, trivial⟩ trivial⟩
    refine AWP_exit ?_;show AWP _ _ _ _ _ _;refine AWP_reg_seq tok fun K hK => ?_;refine asQ ?_;refine s_end (hK _ ?_); clear hK K;refine AWP_ret ?_
    repeat (with_reducible refine tq_ret ?_)
    exact post_ret (fin_mk (by rfl) (by rfl) (by rfl))
  · refine a_fz [7, 8, 10] [10, 200] 200 [(7, dI n), (8, V1 (dPs PL)), (10, .ptr 10 0)] [(10, some (.box (GR.mk nodes (l :: L)).cs))] rfl ⟨rfl, rfl, rfl, trivial⟩ ⟨(by show some (OO.box [.d (dRs nodes), frzC 200 5 _ (.own 200 5 0 _)]) = _; rw [frzC_own rfl (by simp)]; rfl), trivial⟩ ?_;refine AWP_reg_seq tok fun K hK => ?_;refine ldQ ?_;refine s_call rfl rfl (cM) rfl rfl rfl rfl ?_;refine mvQ ?_;refine s_extract rfl rfl rfl ?_;refine s_extract rfl rfl rfl ?_;refine asQ ?_;refine asQ ?_;refine s_end (hK _ ?_); clear hK K;refine AWP_reg_seq tok fun K hK => ?_;refine ldQ ?_;refine s_call rfl rfl (cL) rfl rfl rfl rfl ?_;refine mvQ ?_;refine s_extract rfl rfl rfl ?_;refine s_extract rfl rfl rfl ?_;refine s_alloc rfl rfl rfl rfl rfl rfl ?_;refine s_store rfl rfl rfl rfl rfl ?_;refine asQ ?_;refine s_end (hK _ ?_); clear hK K;refine AWP_seq ?_;refine AWP_reg_seq tok fun K hK => ?_;refine mvQ ?_;refine biQ ?_;refine mvQ ?_;refine mvQ ?_;refine biQ ?_;refine piQ ?_;refine mvQ ?_;refine mvQ ?_;refine s_blt rfl (len_m SP.dc rfl rfl) rfl ?_;refine mvQ ?_;refine s_bin rfl (e_neK (c := false) (by rw [hml]; simp)) rfl ?_;refine piQ ?_;refine mvQ ?_;refine ldQ ?_;refine s_call rfl rfl (sign0_c) rfl rfl rfl rfl ?_;refine biQ ?_;refine piQ ?_;refine s_end (hK _ ?_); clear hK K;refine a_cond rfl (fun h => by cases h) (fun _ => ?_);refine AWP_skip ?_;show AWP _ _ _ _ _ _;refine AWP_seq ?_;refine AWP_reg_seq tok fun K hK => ?_;refine asQ ?_;refine s_end (hK _ ?_); clear hK K;refine AWP_block (a_loop (α := Nat) (fun i => mk 228 [(7, dI n), (8, V1 (dPs PL)), (19, V1 (dSs ml)), (23, dI i)] [] [10]) (fun i => i ≤ n) (fun i => n - i) 0 ?_ (Nat.zero_le _) ?_)
    · exact Wk.mk' ⟨rfl, rfl, rfl, rfl, trivial⟩ trivial
    intro i hi
    refine AWP_seq ?_;refine AWP_reg_seq tok fun K hK => ?_;refine mvQ ?_;refine mvQ ?_;refine biQ ?_;refine s_end (hK _ ?_); clear hK K;refine a_cond rfl (fun hg => ?_) (fun hg => ?_)
    · have hg : i < n := by simp at hg; omega
      have g1 : i < ml.length := by omega
      have g2 : i < PL.length := by omega
      have g0 : 0 < PL.length := by omega
      obtain ⟨k1, k2⟩ := hc0 i g1 g2
      have e0 := hPL 0 g0
      have ei := hPL i g2
      have b1 := bP i
      have b0 := bP 0
      rw [← e0] at k1 k2
      have o1 := qOfI_c (PL[i].x - PL[0].x) (by rw [ei, e0]; exact ⟨by omega, by omega⟩)
      have o2 := qOfI_c (PL[i].y - PL[0].y) (by rw [ei, e0]; exact ⟨by omega, by omega⟩)
      have r1 : -4000 ≤ PL[i].x - PL[0].x ∧ PL[i].x - PL[0].x ≤ 4000 := by rw [ei, e0]; omega
      have r2 : -4000 ≤ PL[i].y - PL[0].y ∧ PL[i].y - PL[0].y ≤ 4000 := by rw [ei, e0]; omega
      refine AWP_skip ?_;show AWP _ _ _ _ _ _;refine AWP_seq ?_;refine AWP_block ?_;refine a_draw tok mixed (A := [[], [], [], [0, 1], [0, 1, 2], [], [], [], [5, 6], [5, 6, 7], [], [], [10], [10, 11], [5, 6, 7, 8, 10, 11, 12], [5, 6, 7, 8, 9, 10, 11, 12, 13], [0, 1, 2, 3, 5, 6, 7, 8, 9, 10, 11, 12, 13, 14], [0, 1, 2, 3, 4, 5, 6, 7, 8, 9, 10, 11, 12, 13, 14, 15], [0, 1, 2, 3, 4, 5, 6, 7, 8, 9, 10, 11, 12, 13, 14, 15], [0, 1, 2, 3, 4, 5, 6, 7, 8, 9, 10, 11, 12, 13, 14, 15, 16, 17], [0, 1, 2, 3, 4, 5, 6, 7, 8, 9, 10, 11, 12, 13, 14, 15, 16, 17], [0, 1, 2, 3, 4, 5, 6, 7, 8, 9, 10, 11, 12, 13, 14, 15, 16, 17], [0, 1, 2, 3, 4, 5, 6, 7, 8, 9, 10, 11, 12, 13, 14, 15, 16, 17, 19, 20], [0, 1, 2, 3, 4, 5, 6, 7, 8, 9, 10, 11, 12, 13, 14, 15, 16, 17, 19, 20, 21], [0, 1, 2, 3, 4, 5, 6, 7, 8, 9, 10, 11, 12, 13, 14, 15, 16, 17], [0, 1, 2, 3, 4, 5, 6, 7, 8, 9, 10, 11, 12, 13, 14, 15, 16, 17], [0, 1, 2, 3, 4, 5, 6, 7, 8, 9, 10, 11, 12, 13, 14, 15, 16, 17], [0, 1, 2, 3, 4, 5, 6, 7, 8, 9, 10, 11, 12, 13, 14, 15, 16, 17, 24, 25], [0, 1, 2, 3, 4, 5, 6, 7, 8, 9, 10, 11, 12, 13, 14, 15, 16, 17, 24, 25, 26], [0, 1, 2, 3, 4, 5, 6, 7, 8, 9, 10, 11, 12, 13, 14, 15, 16, 17], [0, 1, 2, 3, 4, 5, 6, 7, 8, 9, 10, 11, 12, 13, 14, 15, 16, 17], [0, 1, 2, 3, 4, 5, 6, 7, 8, 9, 10, 11, 12, 13, 14, 15, 16, 17, 29], [0, 1, 2, 3, 4, 5, 6, 7, 8, 9, 10, 11, 12, 13, 14, 15, 16, 17, 29, 30], [0, 1, 2, 3, 4, 5, 6, 7, 8, 9, 10, 11, 12, 13, 14, 15, 16, 17, 24, 25, 26, 27, 29, 30, 31], [0, 1, 2, 3, 4, 5, 6, 7, 8, 9, 10, 11, 12, 13, 14, 15, 16, 17, 24, 25, 26, 27, 28, 29, 30, 31, 32], [0, 1, 2, 3, 4, 5, 6, 7, 8, 9, 10, 11, 12, 13, 14, 15, 16, 17, 19, 20, 21, 22, 24, 25, 26, 27, 28, 29, 30, 31, 32, 33], [0, 1, 2, 3, 4, 5, 6, 7, 8, 9, 10, 11, 12, 13, 14, 15, 16, 17, 19, 20, 21, 22, 23, 24, 25, 26, 27, 28, 29, 30, 31, 32, 33, 34], [0, 1, 2, 3, 4, 5, 6, 7, 8, 9, 10, 11, 12, 13, 14, 15, 16, 17, 19, 20, 21, 22, 23, 24, 25, 26, 27, 28, 29, 30, 31, 32, 33, 34, 35]]) (an := [{}, {}, {}, {}, {}, {}, {}, {}, {}, {}, {}, {}, {}, {}, {}, {}, {}, {}, {}, {}, {}, {}, {}, {}, {}, {}, {}, {}, {}, {}, {}, {}, {}, {}, {}, {}, {}, {}]) rfl (by kernel_rfl) rfl fun K hK => ?_;refine mvQ ?_;refine mvQ ?_;refine s_indexAddr rfl (x_m SP.dc rfl rfl rfl rfl g1 rfl) rfl ?_;refine faQ ?_;refine ldQ ?_;refine mvQ ?_;refine mvQ ?_;refine s_indexAddr rfl (x_m PT.dc rfl rfl rfl rfl g2 rfl) rfl ?_;refine faQ ?_;refine ldQ ?_;refine mvQ ?_;refine s_indexAddr rfl (x_m PT.dc (i := 0) rfl rfl rfl rfl g0 rfl) rfl ?_;refine faQ ?_;refine ldQ ?_;refine s_bin rfl (e_sub (c := PL[i].x - PL[0].x) rfl (by omega)) rfl ?_;refine s_call rfl rfl (o1) rfl rfl rfl rfl ?_;refine s_call rfl rfl (k1) rfl rfl rfl rfl ?_;refine biQ ?_;refine mvQ ?_;refine mvQ ?_;refine mvQ ?_;refine s_indexAddr rfl (x_m SP.dc rfl rfl rfl rfl g1 rfl) rfl ?_;refine faQ ?_;refine ldQ ?_;refine mvQ ?_;refine mvQ ?_;refine s_indexAddr rfl (x_m PT.dc rfl rfl rfl rfl g2 rfl) rfl ?_;refine faQ ?_;refine ldQ ?_;refine mvQ ?_;refine s_indexAddr rfl (x_m PT.dc (i := 0) rfl rfl rfl rfl g0 rfl) rfl ?_;refine faQ ?_;refine ldQ ?_;refine s_bin rfl (e_sub (c := PL[i].y - PL[0].y) rfl (by omega)) rfl ?_;refine s_call rfl rfl (o2) rfl rfl rfl rfl ?_;refine s_call rfl rfl (k2) rfl rfl rfl rfl ?_;refine biQ ?_;refine piQ ?_;refine s_end (hK _ ?_); clear hK K;refine a_cond rfl (fun h => by cases h) (fun _ => ?_);refine AWP_skip ?_;show AWP _ _ _ _ _ _;refine AWP_reg tok fun K hK => ?_;refine mvQ ?_;refine s_bin rfl (e_add (c := ((i + 1 : Nat) : Int)) (by omega) (by omega)) rfl ?_;refine asQ ?_;refine s_end (hK _ ?_); clear hK K;exact ⟨i + 1, by omega, hg, Wk.mk' ⟨rfl, rfl, rfl, rfl, trivial⟩ trivial⟩
    refine AWP_exit ?_;show AWP _ _ _ _ _ _;refine AWP_reg_seq tok fun K hK => ?_;refine asQ ?_;refine s_end (hK _ ?_); clear hK K;refine AWP_ret ?_
    repeat (with_reducible refine tq_ret ?_)
    exact post_ret (fin_mk (by rfl) (by rfl) (by rfl))
end Go.Proofs.YtlnbkmkkiemcaaaGreatDoor
