/- Part of a proof that a Go function answers true for every input. No condition. -/
import Derived.Test.YtlnbkmkkiemcaaaGreatDoorC4
set_option linter.unusedVariables false
set_option linter.unusedSimpArgs false
set_option linter.unusedSectionVars false
/- adjust: Worst, Graph; awake. No condition. -/
namespace Go.Proofs.YtlnbkmkkiemcaaaGreatDoor
attribute [local irreducible] lexA
open Go.RowKit

theorem sCloneL_c (ls : List LK) (hn : ls.length ≤ 1048576) : Con Tryz.prog 99 [V1 (dLs ls)] { v := V1 (dLs ls) } := by
  refine con_intro (fn := Tryz.f99) tok Tryz.func99 (by kernel_rfl) rfl ?_
  intro w0 X
  rw [entry_mkE _ _ [(0, V1 (dLs ls))] rfl rfl];refine AWP_reg_seq tok fun K hK => ?_;refine asQ ?_;refine s_end (hK _ ?_); clear hK K;refine AWP_seq ?_;refine AWP_isNil (es := ls.map LK.dc) tok rfl rfl rfl rfl rfl rfl rfl rfl rfl rfl fun b hb => ?_;rw [put_mk, put_mk];refine a_cond rfl (fun hc => ?_) (fun hc => ?_)
  · have : ls = [] := by have := hb hc; simpa using this
    subst this
    refine AWP_reg_seq tok fun K hK => ?_;refine asQ ?_;refine s_end (hK _ ?_); clear hK K;refine AWP_ret ?_
    repeat (with_reducible refine tq_ret ?_)
    exact post_ret (fin_mk (by rfl) (by rfl) (by rfl))
  · refine AWP_skip ?_;show AWP _ _ _ _ _ _;refine AWP_reg_seq tok fun K hK => ?_;refine s_buildSlice rfl rfl rfl rfl ?_;refine mvQ ?_;refine s_append rfl (ap_o (es := []) rfl rfl rfl rfl rfl rfl (by decide) (Nat.le_of_ble_eq_true rfl) rfl (fun e he => by obtain ⟨x, _, rfl⟩ := List.mem_map.1 he; rfl) rfl rfl rfl (by simp; omega)) rfl rfl rfl ?_;refine asQ ?_;refine s_end (hK _ ?_); clear hK K;refine a_fz [2] [7] 7 [(2, V1 (dLs ls))] [] rfl ?_ trivial ?_
    · exact ⟨frz_own (List.nil_append _) (by simp), trivial⟩
    refine AWP_ret ?_
    repeat (with_reducible refine tq_ret ?_)
    exact post_ret (fin_mk (by rfl) (by rfl) (by rfl))
set_option maxHeartbeats 1000000 in
theorem aGraph_c (ns : List RW) (ls : List LK) (ok : ∀ r ∈ ns, r.OK 268435456) (hn : ns.length ≤ 1048576) (hl : ls.length ≤ 1048576) : Con Tryz.prog 48 [.pd [dRs ns, dLs ls]] { v := AG (GR.mk (ns.map fun r => pz2 r.cn) ls).cs } := by
  have cC := sCloneL_c ls hl
  refine con_intro (fn := Tryz.f48) tok Tryz.func48 (by kernel_rfl) rfl ?_
  intro w0 X
  rw [entry_mkE _ _ [(0, .pd [dRs ns, dLs ls])] rfl rfl];refine AWP_reg_seq tok fun K hK => ?_;refine s_alloc rfl rfl rfl rfl rfl rfl ?_;refine s_end (hK _ ?_); clear hK K;refine AWP_seq ?_;refine AWP_regW_seq fun K hK => ?_;refine w_step tok rfl ?_;refine mvQ ?_;refine s_end ?_;refine w_peq (e := 133) rfl rfl rfl (by kernel_rfl) ?_;refine w_end rfl (hK _ ?_); clear hK K;refine a_cond rfl (fun h => by cases h) (fun _ => ?_);refine AWP_skip ?_;show AWP _ _ _ _ _ _;refine AWP_regW_seq fun K hK => ?_;refine w_step tok rfl ?_;refine mvQ ?_;refine s_end ?_;refine w_nil rfl rfl rfl ?_;refine w_step tok rfl ?_;refine faQ ?_;refine s_end ?_;refine w_step tok rfl ?_;refine faQ ?_;refine s_end ?_;refine w_step tok rfl ?_;refine ldQ ?_;refine s_end ?_;refine w_step tok rfl ?_;refine s_call rfl rfl (cC) rfl rfl rfl rfl ?_;refine s_end ?_;refine w_step tok rfl ?_;refine s_build rfl rfl rfl ?_;refine s_end ?_;refine w_step tok rfl ?_;refine s_alloc rfl rfl rfl rfl rfl rfl ?_;refine s_end ?_;refine w_step tok rfl ?_;refine s_store rfl rfl rfl rfl rfl ?_;refine s_end ?_;refine w_end rfl (hK _ ?_); clear hK K;refine AWP_seq ?_;refine AWP_regW_seq fun K hK => ?_;refine w_step tok rfl ?_;refine mvQ ?_;refine s_end ?_;refine w_nil rfl rfl rfl ?_;refine w_step tok rfl ?_;refine faQ ?_;refine s_end ?_;refine w_step tok rfl ?_;refine faQ ?_;refine s_end ?_;refine w_step tok rfl ?_;refine ldQ ?_;refine s_end ?_;refine w_step tok rfl ?_;refine s_blt rfl (len_m RW.dc rfl rfl) rfl ?_;refine s_end ?_;refine w_step tok rfl ?_;refine mvQ ?_;refine s_end ?_;refine w_end rfl (hK _ ?_); clear hK K;refine AWP_block (a_loop (α := Nat) (fun i => mk 35 [(2, .ptr 2 0), (3, .ptr 3 0), (20, V1 (dRs ns)), (21, dI ns.length), (22, dI i)] [(2, some (.box [.nil, .nil])), (3, some (.box [ownC 200 4 i, .d (dLs ls)])), (200, arrN 4 (((ns.take i).map fun r => pz2 r.cn).map RW.dc) i)] [3]) (fun i => i ≤ ns.length) (fun i => ns.length - i) 0 ?_ (Nat.zero_le _) ?_)
  · exact Wk.trans (Wk.rbE rfl) (Wk.mk' ⟨rfl, rfl, rfl, rfl, rfl, trivial⟩ ⟨rfl, rfl, rfl, trivial⟩)
  intro i hi
  refine AWP_reg_seq tok fun K hK => ?_;refine biQ ?_;refine s_end (hK _ ?_); clear hK K;refine AWP_seq ?_;refine a_cond rfl (fun hg => ?_) (fun hg => ?_)
  · have hg : i < ns.length := by simp at hg; omega
    have cN := tNorm_t ns[i] (ok _ (List.getElem_mem hg))
    have n1 : ((ns.take i).map fun r => pz2 r.cn).map RW.dc ++ [(pz2 (ns[i]).cn).dc] = ((ns.take (i + 1)).map fun r => pz2 r.cn).map RW.dc := by
      rw [List.take_succ_eq_append_getElem hg, List.map_append, List.map_append]; rfl
    have z1 : (((ns.take i).map fun r => pz2 r.cn).map RW.dc).length = i := by simp; omega
    generalize pz2 (ns[i]).cn = q at cN n1;generalize ((ns.take i).map fun r => pz2 r.cn).map RW.dc = es at n1 z1 ⊢;refine AWP_skip ?_;show AWP _ _ _ _ _ _;refine AWP_seq ?_;refine AWP_block ?_
    rcases i with _ | i
    · refine AWP_reg_seq tok fun K hK => ?_;refine s_indexAddr rfl (x_m RW.dc rfl rfl rfl rfl hg rfl) rfl ?_;refine ldQ ?_;refine s_alloc rfl rfl rfl rfl rfl rfl ?_;refine s_store rfl rfl rfl rfl rfl ?_;refine s_end (hK _ ?_); clear hK K;refine a_draw1 tok mixed (A := [[], [], [], [], [2], [0, 2], [], []]) (an := [{}, {}, {}, {}, {}, {}, {}, {}]) rfl (by kernel_rfl) rfl fun K hK => ?_;refine faQ ?_;refine ldQ ?_;refine ldQ ?_;refine s_call rfl rfl (cN) rfl rfl rfl rfl ?_;refine s_buildSlice rfl rfl rfl rfl ?_;refine s_append rfl (ap_nil rfl rfl rfl rfl rfl (by decide) (Nat.le_of_ble_eq_true rfl) rfl (by simp) rfl (by simp) (by simp)) rfl rfl rfl ?_;refine faQ ?_;refine s_storeB rfl rfl rfl rfl rfl ?_;refine s_end (hK _ ?_); clear hK K;show AWP _ _ _ _ _ _;refine AWP_reg tok fun K hK => ?_;refine s_bin rfl (e_add (c := ((0 + 1 : Nat) : Int)) (by omega) (by omega)) rfl ?_;refine mvQ ?_;refine s_end (hK _ ?_); clear hK K;refine ⟨0 + 1, by omega, hg, Wk.rnB [2, 3, 20, 21, 22] [2, 3, 31] 31 200 rfl rfl rfl ⟨rfl, rfl, rfl, rfl, rfl, trivial⟩ ⟨rfl, ?_, ?_, trivial⟩ rfl⟩
      · first
          | rfl
          | (show some (OO.box [.own 200 4 0 _, _]) = _
             rw [List.length_append, z1]; rfl)
      · first
          | (rw [← n1, List.length_eq_zero_iff.1 z1]; rfl)
          | (rw [← n1]; rfl)
    · refine AWP_reg_seq tok fun K hK => ?_;refine s_indexAddr rfl (x_m RW.dc rfl rfl rfl rfl hg rfl) rfl ?_;refine ldQ ?_;refine s_alloc rfl rfl rfl rfl rfl rfl ?_;refine s_store rfl rfl rfl rfl rfl ?_;refine s_end (hK _ ?_); clear hK K;refine a_draw1 tok mixed (A := [[], [], [], [], [2], [0, 2], [], []]) (an := [{}, {}, {}, {}, {}, {}, {}, {}]) rfl (by kernel_rfl) rfl fun K hK => ?_;refine faQ ?_;refine ldQ ?_;refine ldQ ?_;refine s_call rfl rfl (cN) rfl rfl rfl rfl ?_;refine s_buildSlice rfl rfl rfl rfl ?_;refine s_append rfl (ap_o rfl rfl rfl rfl rfl rfl (by decide) (Nat.le_of_ble_eq_true rfl) rfl (by simp) rfl rfl z1.symm (by simp <;> omega)) rfl rfl rfl ?_;refine faQ ?_;refine s_storeB rfl rfl rfl rfl rfl ?_;refine s_end (hK _ ?_); clear hK K;show AWP _ _ _ _ _ _;refine AWP_reg tok fun K hK => ?_;refine s_bin rfl (e_add (c := ((i + 1 + 1 : Nat) : Int)) (by omega) (by omega)) rfl ?_;refine mvQ ?_;refine s_end (hK _ ?_); clear hK K;refine ⟨i + 1 + 1, by omega, hg, Wk.rnB [2, 3, 20, 21, 22] [2, 3, 31] 31 200 rfl rfl rfl ⟨rfl, rfl, rfl, rfl, rfl, trivial⟩ ⟨rfl, ?_, ?_, trivial⟩ rfl⟩
      · first
          | rfl
          | (show some (OO.box [.own 200 4 0 _, _]) = _
             rw [List.length_append, z1]; rfl)
      · first
          | (rw [← n1, List.length_eq_zero_iff.1 z1]; rfl)
          | (rw [← n1]; rfl)
  have hg : i = ns.length := by simp at hg; omega
  subst hg
  rw [List.take_length]
  have zL : (ns.map fun r => pz2 r.cn).length = ns.length := List.length_map _
  rw [← zL];generalize (ns.map fun r => pz2 r.cn) = LL;refine AWP_exit ?_;show AWP _ _ _ _ _ _
  rcases LL with _ | ⟨l, LL⟩
  · refine AWP_reg_seq tok fun K hK => ?_;refine ldQ ?_;refine s_store rfl rfl rfl rfl rfl ?_;refine s_end (hK _ ?_); clear hK K;refine AWP_ret ?_
    repeat (with_reducible refine tq_ret ?_)
    exact post_ret (fin_mk (by rfl) (by rfl) (by rfl))
  · refine a_fz [2, 3] [2, 3, 200] 200 [(2, .ptr 2 0), (3, .ptr 3 0)] [(2, some (.box [.nil, .nil])), (3, some (.box (GR.mk (l :: LL) ls).cs))] rfl ⟨rfl, rfl, trivial⟩ ⟨rfl, ?_, trivial⟩ ?_
    · show some (OO.box [frzC 200 4 _ (.own 200 4 0 _), _]) = _
      rw [frzC_own rfl (by simp)]; rfl
    refine AWP_reg_seq tok fun K hK => ?_;refine ldQ ?_;refine s_store rfl rfl rfl rfl rfl ?_;refine s_end (hK _ ?_); clear hK K;refine AWP_ret ?_
    repeat (with_reducible refine tq_ret ?_)
    exact post_ret (fin_mk (by rfl) (by rfl) (by rfl))

/-! ### Worst -/
def wrN (q : Nat → Rat) : Nat → Nat
  | 0 => 0
  | k + 1 => if q (wrN q k) < q k then k else wrN q k
theorem wrN_lt (q : Nat → Rat) : ∀ {k n : Nat}, k ≤ n → 0 < n → wrN q k < n
  | 0, _, _, h => h
  | k + 1, n, h, hn => by
    rw [wrN]; split
    · omega
    · exact wrN_lt q (by omega) hn
def csN (g : GR) (s : List SP) (i : Nat) : Rat := csT g s (g.links.getD i ⟨0, 0, 0, 0, 0⟩)
def wrsV (g : GR) (s : List SP) : Int × RW × Int :=
  if costB g s = true then (if g.links.length = 0 then (0, rw00, 7) else ((wrN (csN g s) g.links.length : Nat), qzW (csN g s (wrN (csN g s) g.links.length)), 0)) else (0, rw00, 1)
theorem qcmp_le2 (x y : Rat) : qcmp x y ≤ 0 ↔ x ≤ y := by
  have z : ∀ x y : Int, zcmp x y ≤ 0 ↔ x ≤ y := fun x y => by unfold zcmp; (repeat' split) <;> omega
  unfold qcmp
  rw [z, Rat.le_iff]
theorem qcmp_gt2 (x y : Rat) : decide (qcmp x y > 0) = decide (y < x) := by
  rw [Bool.eq_iff_iff, decide_eq_true_eq, decide_eq_true_eq]
  have := qcmp_le2 x y
  constructor
  · intro h
    exact Rat.not_le.1 fun h' => by have := this.2 h'; omega
  · intro h
    have h' := Rat.not_le.2 h
    have : ¬ qcmp x y ≤ 0 := fun h2 => h' (this.1 h2)
    omega
theorem qcmp_z (x y : Rat) : qcmp x y = 0 ↔ x = y := by
  have a := qcmp_le2 x y
  have b := qcmp_le2 y x
  have e : qcmp y x = - qcmp x y := by
    unfold qcmp zcmp; (repeat' split) <;> omega
  rw [e] at b
  constructor
  · intro h
    exact Rat.le_antisymm (a.1 (by omega)) (b.1 (by omega))
  · intro h
    have h1 := a.2 (by rw [h]; exact Rat.le_refl)
    have h2 := b.2 (by rw [h]; exact Rat.le_refl)
    omega
def bestI (q : Nat → Rat) (i : Nat) : Int := if i = 0 then -1 else (wrN q i : Nat)
def zcs : List SC := [.d (.lit (.bool false)), .nil, .d (.lit (.bool false)), .nil]
def mostR (q : Nat → Rat) (i : Nat) : List SC := if i = 0 then zcs else (qzW (q (wrN q i))).cs
set_option maxHeartbeats 1000000 in
theorem gWst_c (g : GR) (s : List SP) (ok : ∀ r ∈ g.nodes, r.OK 4096) (os : ∀ p ∈ s, p.OK 4096) : Con Tryz.prog 38 [AG g.cs, V1 (dSs s)] { v := .tup [.one (.d (lI (wrsV g s).1)), .agg (wrsV g s).2.1.cs, .one (.d (lI (wrsV g s).2.2))] } := by
  have cR := aRight_c g s
  refine con_intro (fn := Tryz.f38) tok Tryz.func38 (by kernel_rfl) rfl ?_
  intro w0 X
  rw [entry_mkE _ _ [(0, AG g.cs), (1, V1 (dSs s))] rfl rfl];refine AWP_reg_seq tok fun K hK => ?_;refine s_box rfl rfl rfl rfl rfl rfl ?_;refine asQ ?_;refine s_alloc rfl rfl rfl rfl rfl rfl ?_;refine asQ ?_;refine s_end (hK _ ?_); clear hK K;refine AWP_seq ?_;refine AWP_block ?_;refine AWP_reg_seq tok fun K hK => ?_;refine ldQ ?_;refine mvQ ?_;refine s_call rfl rfl (cR) rfl rfl rfl rfl ?_;refine s_un rfl rfl rfl ?_;refine asQ ?_;refine s_end (hK _ ?_); clear hK K;refine a_cond rfl (fun hc => ?_) (fun hc => ?_)
  · rw [Bool.not_eq_true'] at hc
    have e : wrsV g s = (0, rw00, 1) := by rw [wrsV, if_neg (by rw [hc]; simp)]
    rw [e];refine AWP_reg_seq tok fun K hK => ?_;refine s_build rfl rfl rfl ?_;refine asQ ?_;refine s_store rfl rfl rfl rfl rfl ?_;refine asQ ?_;refine s_end (hK _ ?_); clear hK K;refine AWP_ret ?_
    repeat (with_reducible refine tq_ret ?_)
    exact post_ret (fin_mk (by rfl) (by rfl) (by rfl))
  rw [Bool.not_eq_false'] at hc
  have h := costB_iff.1 hc
  have gv := h.gv
  have l48 := gv.l
  rw [wrsV, if_pos hc];refine AWP_reg_seq tok fun K hK => ?_;refine faQ ?_;refine ldQ ?_;refine s_blt rfl (len_m LK.dc rfl rfl) rfl ?_;refine s_bin rfl (e_eqV _ 0) rfl ?_;refine asQ ?_;refine s_end (hK _ ?_); clear hK K;refine a_cond rfl (fun hd => ?_) (fun hd => ?_)
  · rw [if_pos (of_decide_eq_true hd)];refine AWP_reg_seq tok fun K hK => ?_;refine s_build rfl rfl rfl ?_;refine asQ ?_;refine s_store rfl rfl rfl rfl rfl ?_;refine asQ ?_;refine s_end (hK _ ?_); clear hK K;refine AWP_ret ?_
    repeat (with_reducible refine tq_ret ?_)
    exact post_ret (fin_mk (by rfl) (by rfl) (by rfl))
  have hd := of_decide_eq_false hd
  rw [if_neg hd];refine AWP_skip ?_;show AWP _ _ _ _ _ _;refine AWP_reg_seq tok fun K hK => ?_;refine s_build rfl rfl rfl ?_;refine s_alloc rfl rfl rfl rfl rfl rfl ?_;refine asQ ?_;refine s_store rfl rfl rfl rfl rfl ?_;refine s_end (hK _ ?_); clear hK K;refine AWP_seq ?_;refine AWP_reg_seq tok fun K hK => ?_;refine faQ ?_;refine ldQ ?_;refine s_blt rfl (len_m LK.dc rfl rfl) rfl ?_;refine mvQ ?_;refine s_end (hK _ ?_); clear hK K;refine AWP_block (a_loop (α := Nat) (fun i => mk 71 [(1, V1 (dSs s)), (2, .ptr 2 0), (5, .ptr 5 0), (7, dI (bestI (csN g s) i)), (8, .ptr 8 0), (28, V1 (dLs g.links)), (29, dI g.links.length), (30, dI i)] [(2, some (.box g.cs)), (5, some (.box zcs)), (8, some (.box (mostR (csN g s) i)))] []) (fun i => i ≤ g.links.length) (fun i => g.links.length - i) 0 ?_ (Nat.zero_le _) ?_)
  · have b0 : bestI (csN g s) 0 = -1 := if_pos rfl
    have b1 : mostR (csN g s) 0 = zcs := if_pos rfl
    simp only [b0, b1];exact Wk.mk' ⟨rfl, rfl, rfl, rfl, rfl, rfl, rfl, rfl, trivial⟩ ⟨rfl, rfl, rfl, trivial⟩
  intro i hi
  refine AWP_reg_seq tok fun K hK => ?_;refine biQ ?_;refine s_end (hK _ ?_); clear hK K;refine AWP_seq ?_;refine a_cond rfl (fun hg => ?_) (fun hg => ?_)
  · have hg : i < g.links.length := by simp at hg; omega
    obtain ⟨l, hl⟩ : ∃ l, l = g.links[i] := ⟨_, rfl⟩
    have hm : l ∈ g.links := hl ▸ List.getElem_mem hg
    have lv := gLV gv l hm
    have o := rsG_ok h hm ok os
    have cR := gResidual_c g s (i : Int) (fun r hr => (ok r hr).mono rfl) (fun p hp => (os p hp).mono rfl)
    have eR : resV g s (i : Int) = (rsG g s l, 0) := by
      rw [resV, if_pos hc, dif_pos ⟨by omega, by simpa using hg⟩];simp only [Int.toNat_natCast, ← hl]
    rw [eR] at cR
    have eq1 : csN g s i = ((rsG g s l).vx * (rsG g s l).vx + (rsG g s l).vy * (rsG g s l).vy) * ((l.w : Int) : Rat) := by
      unfold csN; rw [List.getD_eq_getElem?_getD, List.getElem?_eq_getElem hg, ← hl]; rfl
    have hql : ∀ k, k < g.links.length → ql (csN g s k) ≤ 98400 := fun k hk => by
      unfold csN; rw [List.getD_eq_getElem?_getD, List.getElem?_eq_getElem hk]
      exact csT_le h (List.getElem_mem hk) ok os
    have hwr := wrN_lt (csN g s) hi (by omega)
    have qi := hql i hg
    have qw := hql _ hwr
    have ws : wrN (csN g s) (i + 1) = if csN g s (wrN (csN g s) i) < csN g s i then i else wrN (csN g s) i := rfl
    generalize rsG g s l = r at cR o eq1
    have x1 := o.qx rfl
    have x2 := o.qy rfl
    have m1 := ql_mul_le x1 x1
    have m2 := ql_mul_le x2 x2
    have m3 := ql_add_le m1 m2
    have c1 := qMul_t r.x r.x (r.vx * r.vx) (o.x.mono rfl) (o.x.mono rfl) rfl
    have c2 := qMul_t r.y r.y (r.vy * r.vy) (o.y.mono rfl) (o.y.mono rfl) rfl
    have c3 := qAdd_t (qzW (r.vx * r.vx)) (qzW (r.vy * r.vy)) (r.vx * r.vx + r.vy * r.vy) ((qzW_ok m1).mono rfl) ((qzW_ok m2).mono rfl) (by rw [qzW_v, qzW_v])
    have c4 := qOfI_c l.w lv.iw
    have c5 := qMul_t (qzW (r.vx * r.vx + r.vy * r.vy)) (qzW ((l.w : Int) : Rat)) (csN g s i) ((qzW_ok m3).mono rfl) ((qzW_ok (ql_i64 lv.iw)).mono rfl) (by rw [qzW_v, qzW_v, eq1])
    have c6 := qCmp_t (qzW (csN g s i)) (qzW (csN g s (wrN (csN g s) i))) ((qzW_ok qi).mono rfl) ((qzW_ok qw).mono rfl)
    rw [qzW_v, qzW_v] at c6
    have hgt := qcmp_gt2 (csN g s i) (csN g s (wrN (csN g s) i))
    have b1 : ∀ k, bestI (csN g s) (k + 1) = (wrN (csN g s) (k + 1) : Nat) := fun k => if_neg (by omega)
    have b2 : ∀ k, mostR (csN g s) (k + 1) = (qzW (csN g s (wrN (csN g s) (k + 1)))).cs := fun k => if_neg (by omega)
    refine AWP_skip ?_;show AWP _ _ _ _ _ _;refine AWP_seq ?_;refine AWP_block ?_;refine AWP_reg_seq tok fun K hK => ?_;refine mvQ ?_;refine s_indexAddr rfl (x_m LK.dc rfl rfl rfl rfl hg rfl) rfl ?_;refine ldQ ?_;refine s_alloc rfl rfl rfl rfl rfl rfl ?_;refine asQ ?_;refine s_store rfl rfl rfl rfl rfl ?_;refine s_end (hK _ ?_); clear hK K;rw [← hl];refine AWP_reg_seq tok fun K hK => ?_;refine ldQ ?_;refine mvQ ?_;refine mvQ ?_;refine s_call rfl rfl (cR) rfl rfl rfl rfl ?_;refine mvQ ?_;refine s_extract rfl rfl rfl ?_;refine s_extract rfl rfl rfl ?_;refine s_alloc rfl rfl rfl rfl rfl rfl ?_;refine s_store rfl rfl rfl rfl rfl ?_;refine asQ ?_;refine s_end (hK _ ?_); clear hK K;refine a_draw tok mixed (A := [[], [], [], [], [0, 2], [], [], [], [], [0, 1, 2, 3, 5, 7], [0, 1, 2, 3, 5, 6, 7, 8], [], []]) (an := [{}, {}, {}, {}, {}, { c := [46] }, { c := [46] }, { c := [46] }, { c := [46] }, {}, {}, { c := [46, 51, 52] }, {}]) rfl (by kernel_rfl) rfl fun K hK => ?_;refine faQ ?_;refine ldQ ?_;refine faQ ?_;refine ldQ ?_;refine s_call rfl rfl (c1) rfl rfl rfl rfl ?_;refine faQ ?_;refine ldQ ?_;refine faQ ?_;refine ldQ ?_;refine s_call rfl rfl (c2) rfl rfl rfl rfl ?_;refine s_call rfl rfl (c3) rfl rfl rfl rfl ?_;refine s_alloc rfl rfl rfl rfl rfl rfl ?_;refine s_store rfl rfl rfl rfl rfl ?_;refine s_end (hK _ ?_); clear hK K;refine a_draw tok mixed (A := [[], [], [], [1], [1, 2], []]) (an := [{}, {}, {}, {}, {}, {}]) rfl (by kernel_rfl) rfl fun K hK => ?_;refine ldQ ?_;refine faQ ?_;refine ldQ ?_;refine s_call rfl rfl (c4) rfl rfl rfl rfl ?_;refine s_call rfl rfl (c5) rfl rfl rfl rfl ?_;refine s_store rfl rfl rfl rfl rfl ?_;refine s_end (hK _ ?_); clear hK K
    rcases i with _ | i
    · have w1 : wrN (csN g s) (0 + 1) = 0 := by rw [ws]; split <;> rfl
      have b0 : bestI (csN g s) 0 = -1 := if_pos rfl
      have b3 : mostR (csN g s) 0 = zcs := if_pos rfl
      rw [b0, b3];refine AWP_reg_seq tok fun K hK => ?_;refine mvQ ?_;refine biQ ?_;refine mvQ ?_;refine s_skip rfl ?_;refine s_skip rfl ?_;refine s_skip rfl ?_;refine s_skip rfl ?_;refine piQ ?_;refine s_end (hK _ ?_); clear hK K;refine a_cond rfl (fun _ => ?_) (fun h => by cases h);refine a_draw1 tok mixed (A := [[], [], [], []]) (an := [{}, {}, {}, {}]) rfl (by kernel_rfl) rfl fun K hK => ?_;refine mvQ ?_;refine ldQ ?_;refine asQ ?_;refine s_store rfl rfl rfl rfl rfl ?_;refine s_end (hK _ ?_); clear hK K;show AWP _ _ _ _ _ _;refine AWP_reg tok fun K hK => ?_;refine s_bin rfl (e_add (c := ((0 + 1 : Nat) : Int)) (by omega) (by omega)) rfl ?_;refine mvQ ?_;refine s_end (hK _ ?_); clear hK K;refine ⟨0 + 1, by omega, hg, ?_⟩
      have a1 : bestI (csN g s) (0 + 1) = ((0 : Nat) : Int) := by rw [bestI, if_neg (by omega), w1]
      have a2 : mostR (csN g s) (0 + 1) = (qzW (csN g s 0)).cs := by rw [mostR, if_neg (by omega), w1]
      rw [a1, a2];exact Wk.mk' ⟨rfl, rfl, rfl, rfl, rfl, rfl, rfl, rfl, trivial⟩ ⟨rfl, rfl, rfl, trivial⟩
    · rw [b1, b2];generalize hw0 : wrN (csN g s) (i + 1) = w0' at *;generalize qcmp (csN g s (i + 1)) (csN g s w0') = kk at c6 hgt;refine AWP_reg_seq tok fun K hK => ?_;refine mvQ ?_;refine s_bin rfl (e_ltJ (c := false) (decide_eq_false (by omega))) rfl ?_;refine mvQ ?_;refine ldQ ?_;refine ldQ ?_;refine s_call rfl rfl (c6) rfl rfl rfl rfl ?_;refine s_bin rfl (e_gtJ hgt) rfl ?_;refine piQ ?_;refine s_end (hK _ ?_); clear hK K;refine a_cond rfl (fun he => ?_) (fun he => ?_)
      · rw [if_pos (of_decide_eq_true he)] at ws;refine a_draw1 tok mixed (A := [[], [], [], []]) (an := [{}, {}, {}, {}]) rfl (by kernel_rfl) rfl fun K hK => ?_;refine mvQ ?_;refine ldQ ?_;refine asQ ?_;refine s_store rfl rfl rfl rfl rfl ?_;refine s_end (hK _ ?_); clear hK K;show AWP _ _ _ _ _ _;refine AWP_reg tok fun K hK => ?_;refine s_bin rfl (e_add (c := ((i + 1 + 1 : Nat) : Int)) (by omega) (by omega)) rfl ?_;refine mvQ ?_;refine s_end (hK _ ?_); clear hK K;refine ⟨i + 1 + 1, by omega, hg, ?_⟩;rw [b1, b2, ws];exact Wk.mk' ⟨rfl, rfl, rfl, rfl, rfl, rfl, rfl, rfl, trivial⟩ ⟨rfl, rfl, rfl, trivial⟩
      · rw [if_neg (of_decide_eq_false he)] at ws;refine AWP_skip ?_;show AWP _ _ _ _ _ _;refine AWP_reg tok fun K hK => ?_;refine s_bin rfl (e_add (c := ((i + 1 + 1 : Nat) : Int)) (by omega) (by omega)) rfl ?_;refine mvQ ?_;refine s_end (hK _ ?_); clear hK K;refine ⟨i + 1 + 1, by omega, hg, ?_⟩;rw [b1, b2, ws];exact Wk.mk' ⟨rfl, rfl, rfl, rfl, rfl, rfl, rfl, rfl, trivial⟩ ⟨rfl, rfl, rfl, trivial⟩
  have hg : i = g.links.length := by simp at hg; omega
  subst hg
  have a1 : bestI (csN g s) g.links.length = (wrN (csN g s) g.links.length : Nat) := if_neg hd
  have a2 : mostR (csN g s) g.links.length = (qzW (csN g s (wrN (csN g s) g.links.length))).cs := if_neg hd
  rw [a1, a2];refine AWP_exit ?_;show AWP _ _ _ _ _ _;refine a_draw tok mixed (A := [[], [], [], [], []]) (an := [{}, {}, {}, {}, {}]) rfl (by kernel_rfl) rfl fun K hK => ?_;refine mvQ ?_;refine ldQ ?_;refine asQ ?_;refine s_store rfl rfl rfl rfl rfl ?_;refine asQ ?_;refine s_end (hK _ ?_); clear hK K;refine AWP_ret ?_
  repeat (with_reducible refine tq_ret ?_)
  exact post_ret (fin_mk (by rfl) (by rfl) (by rfl))
end Go.Proofs.YtlnbkmkkiemcaaaGreatDoor

/- law31: awake; alike; Least. No condition. -/
namespace Go.Proofs.YtlnbkmkkiemcaaaGreatDoor
attribute [local irreducible] lexA
open Go.RowKit

theorem e_eqSt {T : Tab} {t : TypeId} (a : ByteArray) : effBin T .eql t (V1 (.lit (.string a))) (V1 (.lit (.string a))) = .set (dB true) := by
  show Eff.set (dB (a.toList == a.toList)) = _
  rw [beq_self_eq_true]
theorem e_geK {T : Tab} {t : TypeId} {a b : Int} {c : Bool} (h : decide (a ≥ b) = c) : effBin T .geq t (dI a) (dI b) = .set (dB c) := by subst h; rfl
def gW : GR := ⟨[rw00, rw00], [⟨0, 1, 10, 0, 1⟩, ⟨0, 1, 13, 0, 2⟩]⟩
def sW : List SP := [szW 0 0, szW 12 0]
theorem tW1 : minV gW = (sW, 0) := by decide +kernel
theorem tW2 : lstV gW = (qzW 6, 0) := by decide +kernel
theorem tW3 : wrsV gW sW = (0, qzW 4, 0) := by decide +kernel
theorem gW_ok : ∀ r ∈ gW.nodes, r.OK 2 := by
  intro r hr
  have : r = rw00 := by
    simp only [gW, List.mem_cons, List.not_mem_nil, or_false, or_self] at hr; exact hr
  rw [this];exact ⟨fun x hx => (List.not_mem_nil hx).elim, fun x hx => (List.not_mem_nil hx).elim, Nat.zero_le _, Nat.zero_le _⟩
theorem gW_sm : validB gW = true → SM gW := fun _ => ⟨by decide, by decide, gW_ok⟩
theorem sW_ok : ∀ p ∈ sW, p.OK 4096 := by
  intro p hp
  simp only [sW, List.mem_cons, List.not_mem_nil, or_false] at hp
  rcases hp with rfl | rfl
  · exact szW_ok (by decide +kernel) (by decide +kernel)
  · exact szW_ok (by decide +kernel) (by decide +kernel)
set_option maxHeartbeats 1000000 in
theorem awake31_c : Con Tryz.prog 26 [] { v := dB true } := by
  have cM := gMin_c gW (fun r hr => (gW_ok r hr).mono rfl) gW_sm
  have cL := gLst_c gW (fun r hr => (gW_ok r hr).mono rfl) gW_sm
  have cW := gWst_c gW sW (fun r hr => (gW_ok r hr).mono rfl) sW_ok
  rw [tW1] at cM;rw [tW2] at cL;rw [tW3] at cW
  have cN := aNew_c rw00 ⟨fun x hx => (List.not_mem_nil hx).elim, fun x hx => (List.not_mem_nil hx).elim, Nat.zero_le _, Nat.zero_le _⟩
  have o1 : (pz2 rw00.cn).OK 268435456 := pz2_ok (by decide +kernel)
  generalize pz2 rw00.cn = q at cN o1
  have cG := aGraph_c [q] [] (fun r hr => by rw [List.mem_singleton.1 hr]; exact o1) (by simp) (by simp)
  have t1 := qText_t (qzW 12) (qzW_ok (by decide +kernel)) (by rw [qzW_v]; decide +kernel) (by rw [qzW_v]; decide +kernel)
  have t2 := qText_t (qzW 6) (qzW_ok (by decide +kernel)) (by rw [qzW_v]; decide +kernel) (by rw [qzW_v]; decide +kernel)
  have t3 := qText_t (qzW 4) (qzW_ok (by decide +kernel)) (by rw [qzW_v]; decide +kernel) (by rw [qzW_v]; decide +kernel)
  rw [qzW_v, show qtx (12 : Rat) = [49, 50] by decide +kernel] at t1;rw [qzW_v, show qtx (6 : Rat) = [54] by decide +kernel] at t2;rw [qzW_v, show qtx (4 : Rat) = [52] by decide +kernel] at t3
  have eS : sW = [⟨qzW 0, qzW 0⟩, ⟨qzW 12, qzW 0⟩] := rfl
  rw [eS] at cM cW;generalize qzW (12 : Rat) = A at *;generalize qzW (6 : Rat) = B at *;generalize qzW (4 : Rat) = C at *;generalize qzW (0 : Rat) = Z at *;refine con_intro (fn := Tryz.f26) tok Tryz.func26 (by kernel_rfl) rfl ?_
  intro w0 X
  rw [entry_mkE _ _ [] rfl rfl];refine AWP_reg_seq tok fun K hK => ?_;refine asQ ?_;refine s_end (hK _ ?_); clear hK K;refine AWP_reg_seq tok fun K hK => ?_;refine s_makeSlice (sz := _) (es := _) (f := _) (v := _) rfl (mk_a (l := 2) rfl rfl rfl rfl rfl (Nat.le_of_ble_eq_true rfl) (by decide) rfl rfl (by omega)) rfl rfl ?_;refine s_build rfl rfl rfl ?_;refine s_build rfl rfl rfl ?_;refine s_buildSlice rfl rfl rfl rfl ?_;refine s_build rfl rfl rfl ?_;refine s_alloc rfl rfl rfl rfl rfl rfl ?_;refine s_storeB rfl rfl rfl rfl rfl ?_;refine s_end (hK _ ?_); clear hK K;refine a_fz [1] [1, 10, 13] 10 [(1, .ptr 1 0)] [(1, some (.box [.d (dRs [rw00, rw00]), .own 13 5 0 2])), (13, some (.arr 5 [(LK.mk 0 1 10 0 1).dc, (LK.mk 0 1 13 0 2).dc]))] rfl ⟨rfl, trivial⟩ ⟨rfl, rfl, trivial⟩ ?_;refine a_fz [1] [1, 13] 13 [(1, .ptr 1 0)] [(1, some (.box gW.cs))] rfl ⟨rfl, trivial⟩ ⟨rfl, trivial⟩ ?_;refine AWP_reg_seq tok fun K hK => ?_;refine ldQ ?_;refine s_call rfl rfl (cM) rfl rfl rfl rfl ?_;refine mvQ ?_;refine s_extract rfl rfl rfl ?_;refine s_extract rfl rfl rfl ?_;refine asQ ?_;refine asQ ?_;refine s_end (hK _ ?_); clear hK K;refine AWP_reg_seq tok fun K hK => ?_;refine ldQ ?_;refine s_call rfl rfl (cL) rfl rfl rfl rfl ?_;refine mvQ ?_;refine s_extract rfl rfl rfl ?_;refine s_extract rfl rfl rfl ?_;refine s_alloc rfl rfl rfl rfl rfl rfl ?_;refine s_store rfl rfl rfl rfl rfl ?_;refine asQ ?_;refine s_end (hK _ ?_); clear hK K;refine AWP_seq ?_;refine AWP_reg_seq tok fun K hK => ?_;refine mvQ ?_;refine biQ ?_;refine mvQ ?_;refine mvQ ?_;refine biQ ?_;refine piQ ?_;refine mvQ ?_;refine mvQ ?_;refine s_blt rfl (len_m SP.dc rfl rfl) rfl ?_;refine s_bin rfl (e_neK (c := false) rfl) rfl ?_;refine piQ ?_;refine s_end (hK _ ?_); clear hK K;refine a_cond rfl (fun h => by cases h) (fun _ => ?_);refine AWP_skip ?_;show AWP _ _ _ _ _ _;refine AWP_reg_seq tok fun K hK => ?_;refine ldQ ?_;refine mvQ ?_;refine s_call rfl rfl (cW) rfl rfl rfl rfl ?_;refine mvQ ?_;refine s_extract rfl rfl rfl ?_;refine s_extract rfl rfl rfl ?_;refine s_extract rfl rfl rfl ?_;refine s_alloc rfl rfl rfl rfl rfl rfl ?_;refine asQ ?_;refine s_store rfl rfl rfl rfl rfl ?_;refine asQ ?_;refine s_end (hK _ ?_); clear hK K;refine AWP_reg_seq tok fun K hK => ?_;refine s_build rfl rfl rfl ?_;refine s_call rfl rfl (cN) rfl rfl rfl rfl ?_;refine asQ ?_;refine s_end (hK _ ?_); clear hK K;refine AWP_regW_seq fun K hK => ?_;refine w_step tok rfl ?_;refine mvQ ?_;refine s_end ?_;refine w_step tok rfl ?_;refine s_indexAddr rfl (x_m SP.dc (i := 1) rfl rfl rfl rfl (by simp) rfl) rfl ?_;refine s_end ?_;refine w_step tok rfl ?_;refine faQ ?_;refine s_end ?_;refine w_step tok rfl ?_;refine ldQ ?_;refine s_end ?_;refine w_step tok rfl ?_;refine s_call rfl rfl (t1) rfl rfl rfl rfl ?_;refine s_end ?_;refine w_step tok rfl ?_;refine s_bin rfl (e_eqSt _) rfl ?_;refine s_end ?_;refine w_step tok rfl ?_;refine mvQ ?_;refine s_end ?_;refine w_step tok rfl ?_;refine ldQ ?_;refine s_end ?_;refine w_step tok rfl ?_;refine s_call rfl rfl (t2) rfl rfl rfl rfl ?_;refine s_end ?_;refine w_step tok rfl ?_;refine s_bin rfl (e_eqSt _) rfl ?_;refine s_end ?_;refine w_step tok rfl ?_;refine piQ ?_;refine s_end ?_;refine w_step tok rfl ?_;refine mvQ ?_;refine s_end ?_;refine w_step tok rfl ?_;refine mvQ ?_;refine s_end ?_;refine w_step tok rfl ?_;refine biQ ?_;refine s_end ?_;refine w_step tok rfl ?_;refine piQ ?_;refine s_end ?_;refine w_step tok rfl ?_;refine mvQ ?_;refine s_end ?_;refine w_step tok rfl ?_;refine ldQ ?_;refine s_end ?_;refine w_step tok rfl ?_;refine s_call rfl rfl (t3) rfl rfl rfl rfl ?_;refine s_end ?_;refine w_step tok rfl ?_;refine s_bin rfl (e_eqSt _) rfl ?_;refine s_end ?_;refine w_step tok rfl ?_;refine piQ ?_;refine s_end ?_;refine w_step tok rfl ?_;refine mvQ ?_;refine s_end ?_;refine w_step tok rfl ?_;refine mvQ ?_;refine s_end ?_;refine w_step tok rfl ?_;refine biQ ?_;refine s_end ?_;refine w_step tok rfl ?_;refine piQ ?_;refine s_end ?_;refine w_step tok rfl ?_;refine mvQ ?_;refine s_end ?_;refine w_step tok rfl ?_;refine mvQ ?_;refine s_end ?_;refine w_pne (e := 133) rfl rfl rfl (by kernel_rfl) ?_;refine w_step tok rfl ?_;refine piQ ?_;refine s_end ?_;refine w_step tok rfl ?_;refine mvQ ?_;refine s_end ?_;refine w_step tok rfl ?_;refine mvQ ?_;refine s_end ?_;refine w_step tok rfl ?_;refine s_call rfl rfl (cG) rfl rfl rfl rfl ?_;refine s_end ?_;refine w_step tok rfl ?_;refine s_field rfl rfl rfl ?_;refine s_end ?_;refine w_step tok rfl ?_;refine s_blt rfl (len_m RW.dc rfl rfl) rfl ?_;refine s_end ?_;refine w_step tok rfl ?_;refine s_bin rfl (e_eqI rfl) rfl ?_;refine s_end ?_;refine w_step tok rfl ?_;refine piQ ?_;refine s_end ?_;refine w_step tok rfl ?_;refine asQ ?_;refine s_end ?_;refine w_end rfl (hK _ ?_); clear hK K;refine AWP_ret ?_
  repeat (with_reducible refine tq_ret ?_)
  exact post_ret (fin_mk (by rfl) (by rfl) (by rfl))

/-! ### alike -/
def alkB (s t : List SP) : Bool := decide (s.length = t.length ∧ s.length ≠ 0 ∧ ∀ i, i < s.length → xs s i - xs t i = xs s 0 - xs t 0 ∧ ys s i - ys t i = ys s 0 - ys t 0)
theorem xs_at {s : List SP} {i : Nat} (h : i < s.length) : s[i].vx = xs s i ∧ s[i].vy = ys s i := by
  unfold xs ys; rw [List.getD_eq_getElem?_getD, List.getElem?_eq_getElem h]; exact ⟨rfl, rfl⟩
set_option maxHeartbeats 1000000 in
theorem alike_c (s t : List SP) (os : ∀ p ∈ s, p.OK 4096) (ot : ∀ p ∈ t, p.OK 4096) (hl : s.length ≤ 1048576) : Con Tryz.prog 29 [V1 (dSs s), V1 (dSs t)] { v := dB (alkB s t) } := by
  have hsub : ∀ i (h1 : i < s.length) (h2 : i < t.length), Con Tryz.prog 41 [AG (s[i]'h1).x.cs, AG (t[i]'h2).x.cs] { v := AG (qzW (xs s i - xs t i)).cs } ∧ Con Tryz.prog 41 [AG (s[i]'h1).y.cs, AG (t[i]'h2).y.cs] { v := AG (qzW (ys s i - ys t i)).cs } ∧ ql (xs s i - xs t i) ≤ 8193 ∧ ql (ys s i - ys t i) ≤ 8193 := fun i h1 h2 => by
    have o1 := os _ (List.getElem_mem h1)
    have o2 := ot _ (List.getElem_mem h2)
    have a1 := xs_at h1
    have a2 := xs_at h2
    rw [← a1.1, ← a1.2, ← a2.1, ← a2.2];exact ⟨qSub_t _ _ _ (o1.x.mono rfl) (o2.x.mono rfl) rfl, qSub_t _ _ _ (o1.y.mono rfl) (o2.y.mono rfl) rfl, ql_sub_le (o1.qx rfl) (o2.qx rfl), ql_sub_le (o1.qy rfl) (o2.qy rfl)⟩
  refine con_intro (fn := Tryz.f29) tok Tryz.func29 (by kernel_rfl) rfl ?_
  intro w0 X
  rw [entry_mkE _ _ [(0, V1 (dSs s)), (1, V1 (dSs t))] rfl rfl];refine AWP_reg_seq tok fun K hK => ?_;refine asQ ?_;refine s_end (hK _ ?_); clear hK K;refine AWP_seq ?_;refine a_join (α := Bool) (fun c => mk 72 [(0, V1 (dSs s)), (1, V1 (dSs t)), (17, dB c)] [] []) (fun c => c = !decide (s.length = t.length ∧ s.length ≠ 0)) ?_ ?_
  · refine AWP_regW fun K hK => ?_;refine w_step tok rfl ?_;refine mvQ ?_;refine s_end ?_;refine w_step tok rfl ?_;refine s_blt rfl (len_m SP.dc rfl rfl) rfl ?_;refine s_end ?_;refine w_step tok rfl ?_;refine mvQ ?_;refine s_end ?_;refine w_step tok rfl ?_;refine s_blt rfl (len_m SP.dc rfl rfl) rfl ?_;refine s_end ?_;refine w_step tok rfl ?_;refine s_bin rfl (e_neV _ _) rfl ?_;refine s_end ?_;refine w_step tok rfl ?_;refine mvQ ?_;refine s_end ?_;refine w_split (fun h0 => ?_) (fun h0 => ?_)
    · refine w_skip rfl rfl ?_;refine w_skip rfl rfl ?_;refine w_skip rfl rfl ?_;refine w_step tok rfl ?_;refine piQ ?_;refine s_end ?_;refine w_end rfl (hK _ ?_); clear hK K;exact ⟨_, (by simp only [decide_eq_true_eq, decide_eq_false_iff_not] at h0; rw [Bool.eq_iff_iff]; simp only [decide_eq_true_eq, Bool.not_eq_true', decide_eq_false_iff_not, reduceCtorEq, false_iff, true_iff]; omega), Wk.mk' ⟨rfl, rfl, rfl, trivial⟩ trivial⟩
    · refine w_step tok rfl ?_;refine mvQ ?_;refine s_end ?_;refine w_step tok rfl ?_;refine s_blt rfl (len_m SP.dc rfl rfl) rfl ?_;refine s_end ?_;refine w_step tok rfl ?_;refine s_bin rfl (e_eqV _ 0) rfl ?_;refine s_end ?_;refine w_step tok rfl ?_;refine piQ ?_;refine s_end ?_;refine w_end rfl (hK _ ?_); clear hK K;exact ⟨_, (by simp only [decide_eq_true_eq, decide_eq_false_iff_not] at h0; rw [Bool.eq_iff_iff]; simp only [decide_eq_true_eq, Bool.not_eq_true', decide_eq_false_iff_not, reduceCtorEq, false_iff, true_iff]; omega), Wk.mk' ⟨rfl, rfl, rfl, trivial⟩ trivial⟩
  rintro c rfl
  refine a_cond rfl (fun hd => ?_) (fun hd => ?_)
  · rw [Bool.not_eq_true'] at hd
    have e : alkB s t = false := decide_eq_false fun h => of_decide_eq_false hd ⟨h.1, h.2.1⟩
    rw [e];refine AWP_reg_seq tok fun K hK => ?_;refine asQ ?_;refine s_end (hK _ ?_); clear hK K;refine AWP_ret ?_
    repeat (with_reducible refine tq_ret ?_)
    exact post_ret (fin_mk (by rfl) (by rfl) (by rfl))
  rw [Bool.not_eq_false'] at hd
  obtain ⟨hlen, hne⟩ := of_decide_eq_true hd
  obtain ⟨c1, c2, q1, q2⟩ := hsub 0 (by omega) (by omega)
  have z1 : 0 < s.length := by omega
  have z2 : 0 < t.length := by omega
  have ea : alkB s t = decide (∀ i, i < s.length → xs s i - xs t i = xs s 0 - xs t 0 ∧ ys s i - ys t i = ys s 0 - ys t 0) := by
    unfold alkB; rw [Bool.eq_iff_iff, decide_eq_true_eq, decide_eq_true_eq]
    exact ⟨fun h => h.2.2, fun h => ⟨hlen, hne, h⟩⟩
  rw [ea];refine AWP_skip ?_;show AWP _ _ _ _ _ _;refine a_draw tok mixed (A := [[], [], [0], [0, 1], [], [], [4], [4, 5], [0, 1, 2, 4, 5, 6], [], [], [9], [9, 10], [], [], [13], [13, 14], [0, 1, 2, 3, 4, 5, 6, 7, 9, 10, 11, 13, 14, 15], [], [], [9, 10, 11, 12, 13, 14, 15, 16], []]) (an := [{}, {}, {}, {}, {}, {}, {}, {}, {}, { c := [26] }, { c := [26] }, { c := [26] }, { c := [26] }, { c := [26] }, { c := [26] }, { c := [26] }, { c := [26] }, {}, { c := [26, 35] }, { c := [26, 35, 5] }, {}, {}]) rfl (by kernel_rfl) rfl fun K hK => ?_;refine mvQ ?_;refine s_indexAddr rfl (x_m SP.dc (i := 0) rfl rfl rfl rfl z1 rfl) rfl ?_;refine faQ ?_;refine ldQ ?_;refine mvQ ?_;refine s_indexAddr rfl (x_m SP.dc (i := 0) rfl rfl rfl rfl z2 rfl) rfl ?_;refine faQ ?_;refine ldQ ?_;refine s_call rfl rfl (c1) rfl rfl rfl rfl ?_;refine mvQ ?_;refine s_indexAddr rfl (x_m SP.dc (i := 0) rfl rfl rfl rfl z1 rfl) rfl ?_;refine faQ ?_;refine ldQ ?_;refine mvQ ?_;refine s_indexAddr rfl (x_m SP.dc (i := 0) rfl rfl rfl rfl z2 rfl) rfl ?_;refine faQ ?_;refine ldQ ?_;refine s_call rfl rfl (c2) rfl rfl rfl rfl ?_;refine s_alloc rfl rfl rfl rfl rfl rfl ?_;refine s_alloc rfl rfl rfl rfl rfl rfl ?_;refine s_store rfl rfl rfl rfl rfl ?_;refine s_store rfl rfl rfl rfl rfl ?_;refine s_end (hK _ ?_); clear hK K;refine AWP_seq ?_;refine AWP_reg_seq tok fun K hK => ?_;refine asQ ?_;refine s_end (hK _ ?_); clear hK K;refine AWP_block (a_loop (α := Nat) (fun i => mk 72 [(0, V1 (dSs s)), (1, V1 (dSs t)), (5, .ptr 5 0), (6, .ptr 6 0), (7, dI i)] [(5, some (.box (qzW (xs s 0 - xs t 0)).cs)), (6, some (.box (qzW (ys s 0 - ys t 0)).cs))] []) (fun i => i ≤ s.length ∧ ∀ j, j < i → xs s j - xs t j = xs s 0 - xs t 0 ∧ ys s j - ys t j = ys s 0 - ys t 0) (fun i => s.length - i) 0 ?_ ⟨Nat.zero_le _, fun j h => by omega⟩ ?_)
  · exact Wk.mk' ⟨rfl, rfl, rfl, rfl, rfl, trivial⟩ ⟨rfl, rfl, trivial⟩
  rintro i ⟨hi, hall⟩
  refine AWP_seq ?_;refine AWP_reg_seq tok fun K hK => ?_;refine mvQ ?_;refine mvQ ?_;refine s_blt rfl (len_m SP.dc rfl rfl) rfl ?_;refine biQ ?_;refine s_end (hK _ ?_); clear hK K;refine a_cond rfl (fun hg => ?_) (fun hg => ?_)
  · have hg : i < s.length := by simp at hg; omega
    have hg2 : i < t.length := by omega
    obtain ⟨d1, d2, p1, p2⟩ := hsub i hg hg2
    have k1 := qCmp_t (qzW (xs s i - xs t i)) (qzW (xs s 0 - xs t 0)) ((qzW_ok p1).mono rfl) ((qzW_ok q1).mono rfl)
    have k2 := qCmp_t (qzW (ys s i - ys t i)) (qzW (ys s 0 - ys t 0)) ((qzW_ok p2).mono rfl) ((qzW_ok q2).mono rfl)
    rw [qzW_v, qzW_v] at k1 k2
    have e1 : (qcmp (xs s i - xs t i) (xs s 0 - xs t 0) != 0) = decide (xs s i - xs t i ≠ xs s 0 - xs t 0) := by
      rw [Bool.eq_iff_iff, bne_iff_ne, decide_eq_true_eq, ne_eq, qcmp_z]
    have e2 : (qcmp (ys s i - ys t i) (ys s 0 - ys t 0) != 0) = decide (ys s i - ys t i ≠ ys s 0 - ys t 0) := by
      rw [Bool.eq_iff_iff, bne_iff_ne, decide_eq_true_eq, ne_eq, qcmp_z]
    generalize qcmp (xs s i - xs t i) (xs s 0 - xs t 0) = v1 at k1 e1;generalize qcmp (ys s i - ys t i) (ys s 0 - ys t 0) = v2 at k2 e2;refine AWP_skip ?_;show AWP _ _ _ _ _ _;refine AWP_seq ?_;refine AWP_block ?_
    by_cases hx : xs s i - xs t i = xs s 0 - xs t 0
    · rw [decide_eq_false (by simp [hx])] at e1
      by_cases hy : ys s i - ys t i = ys s 0 - ys t 0
      · rw [decide_eq_false (by simp [hy])] at e2;refine AWP_seq ?_;refine a_draw1 tok mixed (A := [[], [], [], [0, 1], [0, 1, 2], [], [], [], [5, 6], [5, 6, 7], [0, 1, 2, 3, 5, 6, 7, 8], [], [0, 1, 2, 3, 4, 5, 6, 7, 8, 9], [0, 1, 2, 3, 4, 5, 6, 7, 8, 9, 10, 11], [0, 1, 2, 3, 4, 5, 6, 7, 8, 9, 10, 11], [0, 1, 2, 3, 4, 5, 6, 7, 8, 9, 10, 11, 12, 13], [0, 1, 2, 3, 4, 5, 6, 7, 8, 9, 10, 11, 12, 13], [0, 1, 2, 3, 4, 5, 6, 7, 8, 9, 10, 11, 12, 13], [0, 1, 2, 3, 4, 5, 6, 7, 8, 9, 10, 11, 12, 13, 15, 16], [0, 1, 2, 3, 4, 5, 6, 7, 8, 9, 10, 11, 12, 13, 15, 16, 17], [0, 1, 2, 3, 4, 5, 6, 7, 8, 9, 10, 11, 12, 13], [0, 1, 2, 3, 4, 5, 6, 7, 8, 9, 10, 11, 12, 13], [0, 1, 2, 3, 4, 5, 6, 7, 8, 9, 10, 11, 12, 13], [0, 1, 2, 3, 4, 5, 6, 7, 8, 9, 10, 11, 12, 13, 20, 21], [0, 1, 2, 3, 4, 5, 6, 7, 8, 9, 10, 11, 12, 13, 20, 21, 22], [0, 1, 2, 3, 4, 5, 6, 7, 8, 9, 10, 11, 12, 13, 15, 16, 17, 18, 20, 21, 22, 23], [0, 1, 2, 3, 4, 5, 6, 7, 8, 9, 10, 11, 12, 13], [0, 1, 2, 3, 4, 5, 6, 7, 8, 9, 10, 11, 12, 13, 15, 16, 17, 18, 19, 20, 21, 22, 23, 24], [0, 1, 2, 3, 4, 5, 6, 7, 8, 9, 10, 11, 12, 13, 15, 16, 17, 18, 19, 20, 21, 22, 23, 24, 25, 26], [0, 1, 2, 3, 4, 5, 6, 7, 8, 9, 10, 11, 12, 13, 15, 16, 17, 18, 19, 20, 21, 22, 23, 24, 25, 26, 27]]) (an := [{}, {}, {}, {}, {}, {}, {}, {}, {}, {}, {}, { c := [52] }, {}, {}, {}, {}, {}, {}, {}, {}, {}, {}, {}, {}, {}, {}, { c := [67] }, {}, {}, {}]) rfl (by kernel_rfl) rfl fun K hK => ?_;refine mvQ ?_;refine mvQ ?_;refine s_indexAddr rfl (x_m SP.dc rfl rfl rfl rfl hg rfl) rfl ?_;refine faQ ?_;refine ldQ ?_;refine mvQ ?_;refine mvQ ?_;refine s_indexAddr rfl (x_m SP.dc rfl rfl rfl rfl hg2 rfl) rfl ?_;refine faQ ?_;refine ldQ ?_;refine s_call rfl rfl (d1) rfl rfl rfl rfl ?_;refine ldQ ?_;refine s_call rfl rfl (k1) rfl rfl rfl rfl ?_;refine s_bin rfl (e_neK e1) rfl ?_;refine mvQ ?_;refine mvQ ?_;refine mvQ ?_;refine s_indexAddr rfl (x_m SP.dc rfl rfl rfl rfl hg rfl) rfl ?_;refine faQ ?_;refine ldQ ?_;refine mvQ ?_;refine mvQ ?_;refine s_indexAddr rfl (x_m SP.dc rfl rfl rfl rfl hg2 rfl) rfl ?_;refine faQ ?_;refine ldQ ?_;refine s_call rfl rfl (d2) rfl rfl rfl rfl ?_;refine ldQ ?_;refine s_call rfl rfl (k2) rfl rfl rfl rfl ?_;refine s_bin rfl (e_neK e2) rfl ?_;refine piQ ?_;refine s_end (hK _ ?_); clear hK K;refine a_cond rfl (fun h => by cases h) (fun _ => ?_);refine AWP_skip ?_;show AWP _ _ _ _ _ _;refine AWP_reg tok fun K hK => ?_;refine mvQ ?_;refine s_bin rfl (e_add (c := ((i + 1 : Nat) : Int)) (by omega) (by omega)) rfl ?_;refine asQ ?_;refine s_end (hK _ ?_); clear hK K;refine ⟨i + 1, by omega, ⟨hg, fun j hj => ?_⟩, Wk.mk' ⟨rfl, rfl, rfl, rfl, rfl, trivial⟩ ⟨rfl, rfl, trivial⟩⟩
        by_cases e : j = i
        · rw [e]; exact ⟨hx, hy⟩
        · exact hall j (by omega)
      · rw [decide_eq_true hy] at e2;refine AWP_seq ?_;refine a_draw1 tok mixed (A := [[], [], [], [0, 1], [0, 1, 2], [], [], [], [5, 6], [5, 6, 7], [0, 1, 2, 3, 5, 6, 7, 8], [], [0, 1, 2, 3, 4, 5, 6, 7, 8, 9], [0, 1, 2, 3, 4, 5, 6, 7, 8, 9, 10, 11], [0, 1, 2, 3, 4, 5, 6, 7, 8, 9, 10, 11], [0, 1, 2, 3, 4, 5, 6, 7, 8, 9, 10, 11, 12, 13], [0, 1, 2, 3, 4, 5, 6, 7, 8, 9, 10, 11, 12, 13], [0, 1, 2, 3, 4, 5, 6, 7, 8, 9, 10, 11, 12, 13], [0, 1, 2, 3, 4, 5, 6, 7, 8, 9, 10, 11, 12, 13, 15, 16], [0, 1, 2, 3, 4, 5, 6, 7, 8, 9, 10, 11, 12, 13, 15, 16, 17], [0, 1, 2, 3, 4, 5, 6, 7, 8, 9, 10, 11, 12, 13], [0, 1, 2, 3, 4, 5, 6, 7, 8, 9, 10, 11, 12, 13], [0, 1, 2, 3, 4, 5, 6, 7, 8, 9, 10, 11, 12, 13], [0, 1, 2, 3, 4, 5, 6, 7, 8, 9, 10, 11, 12, 13, 20, 21], [0, 1, 2, 3, 4, 5, 6, 7, 8, 9, 10, 11, 12, 13, 20, 21, 22], [0, 1, 2, 3, 4, 5, 6, 7, 8, 9, 10, 11, 12, 13, 15, 16, 17, 18, 20, 21, 22, 23], [0, 1, 2, 3, 4, 5, 6, 7, 8, 9, 10, 11, 12, 13], [0, 1, 2, 3, 4, 5, 6, 7, 8, 9, 10, 11, 12, 13, 15, 16, 17, 18, 19, 20, 21, 22, 23, 24], [0, 1, 2, 3, 4, 5, 6, 7, 8, 9, 10, 11, 12, 13, 15, 16, 17, 18, 19, 20, 21, 22, 23, 24, 25, 26], [0, 1, 2, 3, 4, 5, 6, 7, 8, 9, 10, 11, 12, 13, 15, 16, 17, 18, 19, 20, 21, 22, 23, 24, 25, 26, 27]]) (an := [{}, {}, {}, {}, {}, {}, {}, {}, {}, {}, {}, { c := [52] }, {}, {}, {}, {}, {}, {}, {}, {}, {}, {}, {}, {}, {}, {}, { c := [67] }, {}, {}, {}]) rfl (by kernel_rfl) rfl fun K hK => ?_;refine mvQ ?_;refine mvQ ?_;refine s_indexAddr rfl (x_m SP.dc rfl rfl rfl rfl hg rfl) rfl ?_;refine faQ ?_;refine ldQ ?_;refine mvQ ?_;refine mvQ ?_;refine s_indexAddr rfl (x_m SP.dc rfl rfl rfl rfl hg2 rfl) rfl ?_;refine faQ ?_;refine ldQ ?_;refine s_call rfl rfl (d1) rfl rfl rfl rfl ?_;refine ldQ ?_;refine s_call rfl rfl (k1) rfl rfl rfl rfl ?_;refine s_bin rfl (e_neK e1) rfl ?_;refine mvQ ?_;refine mvQ ?_;refine mvQ ?_;refine s_indexAddr rfl (x_m SP.dc rfl rfl rfl rfl hg rfl) rfl ?_;refine faQ ?_;refine ldQ ?_;refine mvQ ?_;refine mvQ ?_;refine s_indexAddr rfl (x_m SP.dc rfl rfl rfl rfl hg2 rfl) rfl ?_;refine faQ ?_;refine ldQ ?_;refine s_call rfl rfl (d2) rfl rfl rfl rfl ?_;refine ldQ ?_;refine s_call rfl rfl (k2) rfl rfl rfl rfl ?_;refine s_bin rfl (e_neK e2) rfl ?_;refine piQ ?_;refine s_end (hK _ ?_); clear hK K;refine a_cond rfl (fun _ => ?_) (fun h => by cases h);rw [decide_eq_false (fun h => hy (h i hg).2)];refine AWP_reg_seq tok fun K hK => ?_;refine asQ ?_;refine s_end (hK _ ?_); clear hK K;refine AWP_ret ?_
        repeat (with_reducible refine tq_ret ?_)
        exact post_ret (fin_mk (by rfl) (by rfl) (by rfl))
    · rw [decide_eq_true hx] at e1;refine AWP_seq ?_;refine a_draw1 tok mixed (A := [[], [], [], [0, 1], [0, 1, 2], [], [], [], [5, 6], [5, 6, 7], [0, 1, 2, 3, 5, 6, 7, 8], [], [0, 1, 2, 3, 4, 5, 6, 7, 8, 9], [0, 1, 2, 3, 4, 5, 6, 7, 8, 9, 10, 11], [0, 1, 2, 3, 4, 5, 6, 7, 8, 9, 10, 11], [0, 1, 2, 3, 4, 5, 6, 7, 8, 9, 10, 11, 12, 13], [0, 1, 2, 3, 4, 5, 6, 7, 8, 9, 10, 11, 12, 13], [0, 1, 2, 3, 4, 5, 6, 7, 8, 9, 10, 11, 12, 13], [0, 1, 2, 3, 4, 5, 6, 7, 8, 9, 10, 11, 12, 13, 15, 16], [0, 1, 2, 3, 4, 5, 6, 7, 8, 9, 10, 11, 12, 13, 15, 16, 17], [0, 1, 2, 3, 4, 5, 6, 7, 8, 9, 10, 11, 12, 13], [0, 1, 2, 3, 4, 5, 6, 7, 8, 9, 10, 11, 12, 13], [0, 1, 2, 3, 4, 5, 6, 7, 8, 9, 10, 11, 12, 13], [0, 1, 2, 3, 4, 5, 6, 7, 8, 9, 10, 11, 12, 13, 20, 21], [0, 1, 2, 3, 4, 5, 6, 7, 8, 9, 10, 11, 12, 13, 20, 21, 22], [0, 1, 2, 3, 4, 5, 6, 7, 8, 9, 10, 11, 12, 13, 15, 16, 17, 18, 20, 21, 22, 23], [0, 1, 2, 3, 4, 5, 6, 7, 8, 9, 10, 11, 12, 13], [0, 1, 2, 3, 4, 5, 6, 7, 8, 9, 10, 11, 12, 13, 15, 16, 17, 18, 19, 20, 21, 22, 23, 24], [0, 1, 2, 3, 4, 5, 6, 7, 8, 9, 10, 11, 12, 13, 15, 16, 17, 18, 19, 20, 21, 22, 23, 24, 25, 26], [0, 1, 2, 3, 4, 5, 6, 7, 8, 9, 10, 11, 12, 13, 15, 16, 17, 18, 19, 20, 21, 22, 23, 24, 25, 26, 27]]) (an := [{}, {}, {}, {}, {}, {}, {}, {}, {}, {}, {}, { c := [52] }, {}, {}, {}, {}, {}, {}, {}, {}, {}, {}, {}, {}, {}, {}, { c := [67] }, {}, {}, {}]) rfl (by kernel_rfl) rfl fun K hK => ?_;refine mvQ ?_;refine mvQ ?_;refine s_indexAddr rfl (x_m SP.dc rfl rfl rfl rfl hg rfl) rfl ?_;refine faQ ?_;refine ldQ ?_;refine mvQ ?_;refine mvQ ?_;refine s_indexAddr rfl (x_m SP.dc rfl rfl rfl rfl hg2 rfl) rfl ?_;refine faQ ?_;refine ldQ ?_;refine s_call rfl rfl (d1) rfl rfl rfl rfl ?_;refine ldQ ?_;refine s_call rfl rfl (k1) rfl rfl rfl rfl ?_;refine s_bin rfl (e_neK e1) rfl ?_;refine mvQ ?_;refine s_skip rfl ?_;refine s_skip rfl ?_;refine s_skip rfl ?_;refine s_skip rfl ?_;refine s_skip rfl ?_;refine s_skip rfl ?_;refine s_skip rfl ?_;refine s_skip rfl ?_;refine s_skip rfl ?_;refine s_skip rfl ?_;refine s_skip rfl ?_;refine s_skip rfl ?_;refine s_skip rfl ?_;refine s_skip rfl ?_;refine piQ ?_;refine s_end (hK _ ?_); clear hK K;refine a_cond rfl (fun _ => ?_) (fun h => by cases h);rw [decide_eq_false (fun h => hx (h i hg).1)];refine AWP_reg_seq tok fun K hK => ?_;refine asQ ?_;refine s_end (hK _ ?_); clear hK K;refine AWP_ret ?_
      repeat (with_reducible refine tq_ret ?_)
      exact post_ret (fin_mk (by rfl) (by rfl) (by rfl))
  have hg : i = s.length := by simp at hg; omega
  subst hg
  rw [decide_eq_true hall];refine AWP_exit ?_;show AWP _ _ _ _ _ _;refine AWP_reg_seq tok fun K hK => ?_;refine asQ ?_;refine s_end (hK _ ?_); clear hK K;refine AWP_ret ?_
  repeat (with_reducible refine tq_ret ?_)
  exact post_ret (fin_mk (by rfl) (by rfl) (by rfl))

/-! ### Least -/
set_option maxHeartbeats 1000000 in
theorem lLeast_c (g : GR) (s : List SP) (hg : ∀ r ∈ g.nodes, r.W) (hs : ∀ p ∈ s, p.W) (hl : s.length ≤ 9223372036854775807) : Con Tryz.prog 4 [AG g.cs, V1 (dSs s)] { v := dB true } := by
  refine con_intro (fn := Tryz.f4) tok Tryz.func4 (by kernel_rfl) rfl ?_
  intro w0 X
  rw [entry_mkE _ _ [(0, AG g.cs), (1, V1 (dSs s))] rfl rfl];refine AWP_reg_seq tok fun K hK => ?_;refine s_box rfl rfl rfl rfl rfl rfl ?_;refine asQ ?_;refine s_end (hK _ ?_); clear hK K;refine AWP_seq ?_;refine a_join (α := Bool) (fun c => mk 108 [(1, V1 (dSs s)), (2, .ptr 2 0), (25, dB c)] [(2, some (.box g.cs))] []) (fun c => c = !(few31 g && sh31 s)) ?_ ?_
  · refine AWP_regW fun K hK => ?_;refine w_step tok rfl ?_;refine s_call rfl rfl (awake31_c) rfl rfl rfl rfl ?_;refine s_end ?_;refine w_step tok rfl ?_;refine s_un rfl rfl rfl ?_;refine s_end ?_;refine w_step tok rfl ?_;refine mvQ ?_;refine s_end ?_;refine w_split (fun h0 => ?_) (fun h0 => ?_)
    · refine w_skip rfl rfl ?_;refine w_skip rfl rfl ?_;refine w_skip rfl rfl ?_;refine w_step tok rfl ?_;refine piQ ?_;refine s_end ?_;refine w_step tok rfl ?_;refine mvQ ?_;refine s_end ?_;refine w_skip rfl rfl ?_;refine w_skip rfl rfl ?_;refine w_skip rfl rfl ?_;refine w_step tok rfl ?_;refine piQ ?_;refine s_end ?_;refine w_end rfl (hK _ ?_); clear hK K
      first|(exact absurd h0 (by decide))|exact ⟨_, (by simp only [Bool.not_eq_true', Bool.not_eq_false'] at h0; simp only [h0, Bool.false_and, Bool.true_and, Bool.not_false, Bool.not_true]), Wk.mk' ⟨rfl, rfl, rfl, trivial⟩ ⟨rfl, trivial⟩⟩
    · refine w_step tok rfl ?_;refine ldQ ?_;refine s_end ?_;refine w_step tok rfl ?_;refine s_call rfl rfl (few31_c g) rfl rfl rfl rfl ?_;refine s_end ?_;refine w_step tok rfl ?_;refine s_un rfl rfl rfl ?_;refine s_end ?_;refine w_step tok rfl ?_;refine piQ ?_;refine s_end ?_;refine w_step tok rfl ?_;refine mvQ ?_;refine s_end ?_;refine w_split (fun h1 => ?_) (fun h1 => ?_)
      · refine w_skip rfl rfl ?_;refine w_skip rfl rfl ?_;refine w_skip rfl rfl ?_;refine w_step tok rfl ?_;refine piQ ?_;refine s_end ?_;refine w_end rfl (hK _ ?_); clear hK K
        first|(exact absurd h0 (by decide))|exact ⟨_, (by simp only [Bool.not_eq_true', Bool.not_eq_false'] at h0 h1; simp only [h0, h1, Bool.false_and, Bool.true_and, Bool.not_false, Bool.not_true]), Wk.mk' ⟨rfl, rfl, rfl, trivial⟩ ⟨rfl, trivial⟩⟩
      · refine w_step tok rfl ?_;refine mvQ ?_;refine s_end ?_;refine w_step tok rfl ?_;refine s_call rfl rfl (sh31_c s hl) rfl rfl rfl rfl ?_;refine s_end ?_;refine w_step tok rfl ?_;refine s_un rfl rfl rfl ?_;refine s_end ?_;refine w_step tok rfl ?_;refine piQ ?_;refine s_end ?_;refine w_end rfl (hK _ ?_); clear hK K
        first|(exact absurd h0 (by decide))|exact ⟨_, (by simp only [Bool.not_eq_true', Bool.not_eq_false'] at h0 h1; simp only [h0, h1, Bool.false_and, Bool.true_and, Bool.not_false, Bool.not_true]), Wk.mk' ⟨rfl, rfl, rfl, trivial⟩ ⟨rfl, trivial⟩⟩
  rintro c rfl
  refine a_cond rfl (fun hc => ?_) (fun hc => ?_)
  · refine AWP_reg_seq tok fun K hK => ?_;refine s_call rfl rfl (awake31_c) rfl rfl rfl rfl ?_;refine asQ ?_;refine s_end (hK _ ?_); clear hK K;refine AWP_ret ?_
    repeat (with_reducible refine tq_ret ?_)
    exact post_ret (fin_mk (by rfl) (by rfl) (by rfl))
  rw [Bool.not_eq_false', Bool.and_eq_true] at hc
  obtain ⟨hf, hsh⟩ := hc
  obtain ⟨ok1, hsm, _⟩ := few31_ok hg hf
  obtain ⟨os1, hs6⟩ := sh31_ok hs hsh
  have ok : ∀ r ∈ g.nodes, r.OK 4096 := fun r hr => (ok1 r hr).mono rfl
  have os : ∀ p ∈ s, p.OK 4096 := fun p hp => (os1 p hp).mono rfl
  have cM := gMin_c g ok hsm
  have cL := gLst_c g ok hsm
  have cC := gCost_c g s ok os
  refine AWP_skip ?_;show AWP _ _ _ _ _ _
  by_cases hv : validB g = true
  · have gv := validB_iff.1 hv
    by_cases hcn : cnB g = true
    · rw [minV, if_pos hv, if_pos hcn] at cM;rw [lstV, if_pos hv, if_pos hcn] at cL
      have om := mn_ok gv (hsm hv) hcn
      have om4 : ∀ p ∈ mnL g, p.OK 4096 := fun p hp => (om p hp).mono rfl
      have cB := gCost_c g (mnL g) ok om4
      have eB : costV g (mnL g) = (qzW (lsQ g), 0) := by rw [costV, if_pos (costB_iff.2 ⟨gv, mnL_length g⟩), cs_mn gv]
      rw [eB] at cB;refine AWP_reg_seq tok fun K hK => ?_;refine ldQ ?_;refine s_call rfl rfl (cM) rfl rfl rfl rfl ?_;refine mvQ ?_;refine s_extract rfl rfl rfl ?_;refine s_extract rfl rfl rfl ?_;refine asQ ?_;refine asQ ?_;refine s_end (hK _ ?_); clear hK K;refine AWP_reg_seq tok fun K hK => ?_;refine ldQ ?_;refine s_call rfl rfl (cL) rfl rfl rfl rfl ?_;refine mvQ ?_;refine s_extract rfl rfl rfl ?_;refine s_extract rfl rfl rfl ?_;refine s_alloc rfl rfl rfl rfl rfl rfl ?_;refine s_store rfl rfl rfl rfl rfl ?_;refine asQ ?_;refine s_end (hK _ ?_); clear hK K;refine AWP_seq ?_;refine AWP_reg_seq tok fun K hK => ?_;refine mvQ ?_;refine mvQ ?_;refine biQ ?_;refine s_end (hK _ ?_); clear hK K;refine a_cond rfl (fun h => by cases h) (fun _ => ?_);refine AWP_skip ?_;show AWP _ _ _ _ _ _;refine AWP_seq ?_;refine AWP_reg_seq tok fun K hK => ?_;refine mvQ ?_;refine biQ ?_;refine s_end (hK _ ?_); clear hK K;refine a_cond rfl (fun h => by cases h) (fun _ => ?_);refine AWP_skip ?_;show AWP _ _ _ _ _ _
      by_cases hb : costB g s = true
      · have h := costB_iff.1 hb
        rw [costV, if_pos hb] at cC
        obtain ⟨k1, k2⟩ := cost_least gv hcn s
        have qC : ql (csR g s g.links) ≤ 16777216 := by
          have := csR_le h ok os g.links (fun l hl => hl) 0
          have z : ql (0 : Rat) ≤ 1 := ql_zero
          have := gv.l
          unfold csR; omega
        have qL : ql (lsQ g) ≤ 16777216 := by
          have := csR_le (g := g) (s := mnL g) ⟨gv, mnL_length g⟩ ok om4 g.links (fun l hl => hl) 0
          have z : ql (0 : Rat) ≤ 1 := ql_zero
          have := gv.l
          rw [← cs_mn gv]; unfold csR; omega
        have cK := qCmp_t (qzW (csR g s g.links)) (qzW (lsQ g)) ((qzW_ok qC).mono rfl) ((qzW_ok qL).mono rfl)
        have cS := qCmp_t (qzW (lsQ g)) (qzW (lsQ g)) ((qzW_ok qL).mono rfl) ((qzW_ok qL).mono rfl)
        rw [qzW_v, qzW_v] at cK;rw [qzW_v, (qcmp_z _ _).2 rfl] at cS
        have cA := alike_c s (mnL g) os om4 (by omega)
        have n1 := gv.n1
        have hml := mnL_length g
        have hge : decide (qcmp (csR g s g.links) (lsQ g) ≥ 0) = true := by
          have a := qcmp_gt2 (lsQ g) (csR g s g.links)
          have b := qcmp_le2 (lsQ g) (csR g s g.links)
          refine decide_eq_true ?_
          have e : qcmp (lsQ g) (csR g s g.links) = - qcmp (csR g s g.links) (lsQ g) := by
            unfold qcmp zcmp; (repeat' split) <;> omega
          have := b.2 k1
          omega
        have heq : (qcmp (csR g s g.links) (lsQ g) == 0) = alkB s (mnL g) := by
          rw [Bool.eq_iff_iff, beq_iff_eq, qcmp_z, k2]
          unfold alkB
          rw [decide_eq_true_eq, hml]
          have xm : ∀ v, v < g.nodes.length → xs (mnL g) v = mnX g v ∧ ys (mnL g) v = mnY g v := fun v hv => mn_xs hv
          constructor
          · intro hh
            refine ⟨h.hs, by have := h.hs; omega, fun i hi => ?_⟩
            have hi' : i < g.nodes.length := by have := h.hs; omega
            rw [(xm i hi').1, (xm i hi').2, (xm 0 (by omega)).1, (xm 0 (by omega)).2];exact hh i hi'
          · rintro ⟨_, _, hh⟩ v hv
            have := hh v (by have := h.hs; omega)
            rw [(xm v hv).1, (xm v hv).2, (xm 0 (by omega)).1, (xm 0 (by omega)).2] at this;exact this
        have m0 : (mnL g)[0]'(by omega) = szW 0 0 := by
          have := mn_at (g := g) (v := 0) (by omega)
          rw [(mn_zero g).1, (mn_zero g).2, List.getD_eq_getElem?_getD, List.getElem?_eq_getElem (by omega)] at this;exact this
        have cG := qSign_t (qzW 0) (qzW_ok (k := 1) (by decide) |>.mono rfl)
        rw [qzW_v] at cG
        have x0 : ((mnL g)[0]'(by omega)).x = qzW 0 := by rw [m0]; rfl
        have y0 : ((mnL g)[0]'(by omega)).y = qzW 0 := by rw [m0]; rfl
        have hml0 : 0 < (mnL g).length := by omega
        generalize qcmp (csR g s g.links) (lsQ g) = kk at cK hge heq;generalize alkB s (mnL g) = ab at cA heq
        have cGx := cG
        rw [← x0] at cGx;rw [← y0] at cG;refine AWP_reg_seq tok fun K hK => ?_;refine ldQ ?_;refine mvQ ?_;refine s_call rfl rfl (cC) rfl rfl rfl rfl ?_;refine mvQ ?_;refine s_extract rfl rfl rfl ?_;refine s_extract rfl rfl rfl ?_;refine s_alloc rfl rfl rfl rfl rfl rfl ?_;refine s_store rfl rfl rfl rfl rfl ?_;refine asQ ?_;refine s_end (hK _ ?_); clear hK K;refine AWP_seq ?_;refine AWP_reg_seq tok fun K hK => ?_;refine mvQ ?_;refine biQ ?_;refine s_end (hK _ ?_); clear hK K;refine a_cond rfl (fun h => by cases h) (fun _ => ?_);refine AWP_skip ?_;show AWP _ _ _ _ _ _;refine AWP_reg_seq tok fun K hK => ?_;refine ldQ ?_;refine mvQ ?_;refine s_call rfl rfl (cB) rfl rfl rfl rfl ?_;refine mvQ ?_;refine s_extract rfl rfl rfl ?_;refine s_extract rfl rfl rfl ?_;refine s_alloc rfl rfl rfl rfl rfl rfl ?_;refine s_store rfl rfl rfl rfl rfl ?_;refine asQ ?_;refine s_end (hK _ ?_); clear hK K;refine AWP_reg_seq tok fun K hK => ?_;refine ldQ ?_;refine ldQ ?_;refine s_call rfl rfl (cK) rfl rfl rfl rfl ?_;refine asQ ?_;refine s_end (hK _ ?_); clear hK K;refine AWP_reg_seq tok fun K hK => ?_;refine mvQ ?_;refine biQ ?_;refine mvQ ?_;refine ldQ ?_;refine ldQ ?_;refine s_call rfl rfl (cS) rfl rfl rfl rfl ?_;refine biQ ?_;refine piQ ?_;refine mvQ ?_;refine mvQ ?_;refine s_bin rfl (e_geK hge) rfl ?_;refine piQ ?_;refine mvQ ?_;refine mvQ ?_;refine s_bin rfl (e_eqK heq) rfl ?_;refine mvQ ?_;refine mvQ ?_;refine s_call rfl rfl (cA) rfl rfl rfl rfl ?_;refine s_bin rfl (e_eqB rfl) rfl ?_;refine piQ ?_;refine mvQ ?_;refine mvQ ?_;refine s_indexAddr rfl (x_m SP.dc (i := 0) rfl rfl rfl rfl hml0 rfl) rfl ?_;refine faQ ?_;refine ldQ ?_;refine s_call rfl rfl (cGx) rfl rfl rfl rfl ?_;refine biQ ?_;refine piQ ?_;refine mvQ ?_;refine mvQ ?_;refine s_indexAddr rfl (x_m SP.dc (i := 0) rfl rfl rfl rfl hml0 rfl) rfl ?_;refine faQ ?_;refine ldQ ?_;refine s_call rfl rfl (cG) rfl rfl rfl rfl ?_;refine biQ ?_;refine piQ ?_;refine asQ ?_;refine s_end (hK _ ?_); clear hK K;refine AWP_ret ?_
        repeat (with_reducible refine tq_ret ?_)
        exact post_ret (fin_mk (by rfl) (by rfl) (by rfl))
      · have hb' : s.length ≠ g.nodes.length := fun e => hb (costB_iff.2 ⟨gv, e⟩)
        rw [costV, if_neg hb] at cC;refine AWP_reg_seq tok fun K hK => ?_;refine ldQ ?_;refine mvQ ?_;refine s_call rfl rfl (cC) rfl rfl rfl rfl ?_;refine mvQ ?_;refine s_extract rfl rfl rfl ?_;refine s_extract rfl rfl rfl ?_;refine s_alloc rfl rfl rfl rfl rfl rfl ?_;refine s_store rfl rfl rfl rfl rfl ?_;refine asQ ?_;refine s_end (hK _ ?_); clear hK K;refine AWP_seq ?_;refine AWP_reg_seq tok fun K hK => ?_;refine mvQ ?_;refine biQ ?_;refine s_end (hK _ ?_); clear hK K;refine a_cond rfl (fun _ => ?_) (fun h => by cases h);refine AWP_reg_seq tok fun K hK => ?_;refine mvQ ?_;refine biQ ?_;refine mvQ ?_;refine mvQ ?_;refine s_blt rfl (len_m SP.dc rfl rfl) rfl ?_;refine faQ ?_;refine ldQ ?_;refine s_blt rfl (len_m RW.dc rfl rfl) rfl ?_;refine s_bin rfl (e_neK (c := true) (by simp; omega)) rfl ?_;refine piQ ?_;refine asQ ?_;refine s_end (hK _ ?_); clear hK K;refine AWP_ret ?_
        repeat (with_reducible refine tq_ret ?_)
        exact post_ret (fin_mk (by rfl) (by rfl) (by rfl))
    · rw [minV, if_pos hv, if_neg hcn] at cM;rw [lstV, if_pos hv, if_neg hcn] at cL;refine AWP_reg_seq tok fun K hK => ?_;refine ldQ ?_;refine s_call rfl rfl (cM) rfl rfl rfl rfl ?_;refine mvQ ?_;refine s_extract rfl rfl rfl ?_;refine s_extract rfl rfl rfl ?_;refine asQ ?_;refine asQ ?_;refine s_end (hK _ ?_); clear hK K;refine AWP_reg_seq tok fun K hK => ?_;refine ldQ ?_;refine s_call rfl rfl (cL) rfl rfl rfl rfl ?_;refine mvQ ?_;refine s_extract rfl rfl rfl ?_;refine s_extract rfl rfl rfl ?_;refine s_alloc rfl rfl rfl rfl rfl rfl ?_;refine s_store rfl rfl rfl rfl rfl ?_;refine asQ ?_;refine s_end (hK _ ?_); clear hK K;refine AWP_seq ?_;refine AWP_reg_seq tok fun K hK => ?_;refine mvQ ?_;refine mvQ ?_;refine biQ ?_;refine s_end (hK _ ?_); clear hK K;refine a_cond rfl (fun h => by cases h) (fun _ => ?_);refine AWP_skip ?_;show AWP _ _ _ _ _ _;refine AWP_seq ?_;refine AWP_reg_seq tok fun K hK => ?_;refine mvQ ?_;refine biQ ?_;refine s_end (hK _ ?_); clear hK K;refine a_cond rfl (fun _ => ?_) (fun h => by cases h);refine AWP_reg_seq tok fun K hK => ?_;refine mvQ ?_;refine s_blt rfl (len_m SP.dc rfl rfl) rfl ?_;refine biQ ?_;refine asQ ?_;refine s_end (hK _ ?_); clear hK K;refine AWP_ret ?_
      repeat (with_reducible refine tq_ret ?_)
      exact post_ret (fin_mk (by rfl) (by rfl) (by rfl))
  · rw [minV, if_neg hv] at cM;rw [lstV, if_neg hv] at cL;refine AWP_reg_seq tok fun K hK => ?_;refine ldQ ?_;refine s_call rfl rfl (cM) rfl rfl rfl rfl ?_;refine mvQ ?_;refine s_extract rfl rfl rfl ?_;refine s_extract rfl rfl rfl ?_;refine asQ ?_;refine asQ ?_;refine s_end (hK _ ?_); clear hK K;refine AWP_reg_seq tok fun K hK => ?_;refine ldQ ?_;refine s_call rfl rfl (cL) rfl rfl rfl rfl ?_;refine mvQ ?_;refine s_extract rfl rfl rfl ?_;refine s_extract rfl rfl rfl ?_;refine s_alloc rfl rfl rfl rfl rfl rfl ?_;refine s_store rfl rfl rfl rfl rfl ?_;refine asQ ?_;refine s_end (hK _ ?_); clear hK K;refine AWP_seq ?_;refine AWP_reg_seq tok fun K hK => ?_;refine mvQ ?_;refine mvQ ?_;refine biQ ?_;refine s_end (hK _ ?_); clear hK K;refine a_cond rfl (fun h => by cases h) (fun _ => ?_);refine AWP_skip ?_;show AWP _ _ _ _ _ _;refine AWP_seq ?_;refine AWP_reg_seq tok fun K hK => ?_;refine mvQ ?_;refine biQ ?_;refine s_end (hK _ ?_); clear hK K;refine a_cond rfl (fun _ => ?_) (fun h => by cases h);refine AWP_reg_seq tok fun K hK => ?_;refine mvQ ?_;refine s_blt rfl (len_m SP.dc rfl rfl) rfl ?_;refine biQ ?_;refine asQ ?_;refine s_end (hK _ ?_); clear hK K;refine AWP_ret ?_
    repeat (with_reducible refine tq_ret ?_)
    exact post_ret (fin_mk (by rfl) (by rfl) (by rfl))
end Go.Proofs.YtlnbkmkkiemcaaaGreatDoor
