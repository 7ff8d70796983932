/- Part of a proof that a Go function answers true for every input. No condition. -/
import Derived.Test.YtgopibpkgmafiaaGreatC4
set_option linter.unusedVariables false
set_option linter.unusedSimpArgs false
set_option linter.unusedSectionVars false
/- Signs, quotients, whole numbers; matrices and columns by number. No condition. -/
namespace Go.Proofs.YtgopibpkgmafiaaGreat
attribute [local irreducible] lexA

theorem sign_num (x y : Int) : (Rat.divInt x y).num.sign = x.sign * y.sign := by
  by_cases h : y = 0
  · subst h; rw [Rat.divInt_zero]; simp
  · have h1 := (Rat.divInt_eq_divInt_iff (by have := (Rat.divInt x y).den_nz; omega) h).1 (Rat.num_divInt_den (Rat.divInt x y))
    have h2 := congrArg Int.sign h1
    rw [Int.sign_mul, Int.sign_mul] at h2
    have h3 : ((Rat.divInt x y).den : Int).sign = 1 := Int.sign_eq_one_of_pos (by have := (Rat.divInt x y).den_nz; omega)
    rw [h3, Int.mul_one] at h2;rw [← h2, Int.mul_assoc, ← Int.sign_mul]
    have : 0 < y * y := by
      rcases Int.lt_or_gt_of_ne h with h | h
      · exact Int.mul_pos_of_neg_of_neg h h
      · exact Int.mul_pos h h
    rw [Int.sign_eq_one_of_pos this, Int.mul_one]
theorem sign3 (x : Int) : -1 ≤ x.sign ∧ x.sign ≤ 1 := by
  rcases Int.lt_trichotomy x 0 with h | h | h
  · rw [Int.sign_eq_neg_one_of_neg h]; omega
  · subst h; simp
  · rw [Int.sign_eq_one_of_pos h]; omega
theorem qSign_t (a : RW) (ha : a.OK 16777216) : Con Tryz.prog 70 [AG a.cs] { v := dI a.v.num.sign } := by
  have e : a.v.num.sign = a.p.sign * a.q.sign := sign_num a.p a.q
  rw [e]
  have c1 := iSign_c a.np a.wp ha.op (le_d ha.lp rfl)
  have c2 := iSign_c a.nq a.wq ha.oq (le_d ha.lq rfl)
  have h : I64 (a.p.sign * a.q.sign) := by
    have := sign3 (a.p * a.q)
    rw [Int.sign_mul] at this;exact ⟨by omega, by omega⟩
  refine con_intro (fn := Tryz.f70) tok Tryz.func70 (by kernel_rfl) rfl ?_
  intro w0 X
  rw [entry_mkE _ _ [(0, AG a.cs)] rfl rfl];refine AWP_reg_seq tok fun K hK => ?_;refine s_box rfl rfl rfl rfl rfl rfl ?_;refine asQ ?_;refine s_end (hK _ ?_); clear hK K;refine a_draw tok mixed (A := [[], [], [0], [], [], [0, 1, 3], [0, 1, 3, 4], []]) (an := [{}, {}, {}, { c := [5] }, { c := [5] }, {}, {}, {}]) rfl (by kernel_rfl) rfl fun K hK => ?_;refine faQ ?_;refine ldQ ?_;refine s_call rfl rfl (c1) rfl rfl rfl rfl ?_;refine faQ ?_;refine ldQ ?_;refine s_call rfl rfl (c2) rfl rfl rfl rfl ?_;refine s_bin rfl (e_mul rfl h) rfl ?_;refine asQ ?_;refine s_end (hK _ ?_); clear hK K;refine AWP_ret ?_
  repeat (with_reducible refine tq_ret ?_)
  exact post_ret (fin_mk (by rfl) (by rfl) (by rfl))
theorem qSign_pos {q : Rat} : q.num.sign = 1 ↔ 0 < q := by
  rw [Int.sign_eq_one_iff_pos]
  have h1 := @Rat.num_nonneg q
  have h2 := @Rat.num_eq_zero q
  constructor
  · intro h
    have a := h1.1 (by omega)
    have b : q ≠ 0 := fun e => by have := h2.2 e; omega
    grind
  · intro h
    have a := h1.2 (by grind)
    have b : q.num ≠ 0 := fun e => by have := h2.1 e; grind
    omega
theorem qSign_zero {q : Rat} : q.num.sign = 0 ↔ q = 0 := by rw [Int.sign_eq_zero_iff_zero, Rat.num_eq_zero]
theorem qSign_le {q : Rat} : q.num.sign ≤ 0 ↔ ¬ 0 < q := by
  rw [← qSign_pos]
  have := sign3 q.num
  omega

def ivW (b : Rat) : RW := ⟨decide ((b.den : Int) < 0), wof (b.den : Int).natAbs, decide (b.num < 0), wof b.num.natAbs⟩
theorem ivW_v (b : Rat) : (ivW b).v = b⁻¹ := by
  show Rat.divInt (zv (decide ((b.den : Int) < 0)) (wof (b.den : Int).natAbs)) (zv (decide (b.num < 0)) (wof b.num.natAbs)) = _
  rw [zv_ZC, zv_ZC, ← Rat.inv_divInt, Rat.num_divInt_den]
theorem ivW_ok {b : Rat} {k : Nat} (h : ql b ≤ k) : (ivW b).OK k := ⟨wof_ok _, wof_ok _, ql_den_le h, ql_num_le h⟩
theorem qDiv_t (a b : RW) (z : Rat) (ha : a.OK 16777216) (hb : b.OK 16777216) (h0 : b.v ≠ 0) (h : a.v / b.v = z) :
    Con Tryz.prog 73 [AG a.cs, AG b.cs] { v := .tup [.agg (qzW z).cs, .one (.d (lI 0))] } := by
  have c1 := qNorm_t b hb
  have h1 := hb.ql rfl
  have c2 := iSign_c (decide (b.v.num < 0)) (wof b.v.num.natAbs) (wof_ok _) (Nat.le_trans (ql_num_le h1) (by decide))
  rw [zv_ZC] at c2
  have h2 : ¬ b.v.num.sign = 0 := fun e => h0 (qSign_zero.1 e)
  have c3 := qMul_t a (ivW b.v) z ha (ivW_ok h1) (by rw [ivW_v, ← h, Rat.div_def])
  generalize b.v = y at *;refine con_intro (fn := Tryz.f73) tok Tryz.func73 (by kernel_rfl) rfl ?_
  intro w0 X
  rw [entry_mkE _ _ [(0, AG a.cs), (1, AG b.cs)] rfl rfl];refine AWP_reg_seq tok fun K hK => ?_;refine s_box rfl rfl rfl rfl rfl rfl ?_;refine s_box rfl rfl rfl rfl rfl rfl ?_;refine s_alloc rfl rfl rfl rfl rfl rfl ?_;refine asQ ?_;refine s_end (hK _ ?_); clear hK K;refine AWP_reg_seq tok fun K hK => ?_;refine ldQ ?_;refine s_call rfl rfl (c1) rfl rfl rfl rfl ?_;refine s_store rfl rfl rfl rfl rfl ?_;refine s_end (hK _ ?_); clear hK K;refine AWP_seq ?_;refine AWP_reg_seq tok fun K hK => ?_;refine faQ ?_;refine ldQ ?_;refine s_call rfl rfl (c2) rfl rfl rfl rfl ?_;refine biQ ?_;refine s_end (hK _ ?_); clear hK K;refine a_cond rfl (fun hc => ?_) (fun hc => ?_)
  · exact absurd (by simpa using hc) h2
  refine AWP_skip ?_;show AWP _ _ _ _ _ _;refine AWP_reg_seq tok fun K hK => ?_;refine ldQ ?_;refine faQ ?_;refine ldQ ?_;refine faQ ?_;refine ldQ ?_;refine s_build rfl rfl rfl ?_;refine s_call rfl rfl (c3) rfl rfl rfl rfl ?_;refine s_store rfl rfl rfl rfl rfl ?_;refine asQ ?_;refine s_end (hK _ ?_); clear hK K;refine AWP_ret ?_
  repeat (with_reducible refine tq_ret ?_)
  exact post_ret (fin_mk (by rfl) (by rfl) (by rfl))

theorem qOne_u (x : Int) (hx : zl x ≤ 536870912) : Con Tryz.prog 75 [AG (ZC x)] { v := dB (decide (x = 1)) } := by
  have c1 := iCmpZ_c x 1 hx (by decide)
  refine con_intro (fn := Tryz.f75) tok Tryz.func75 (by kernel_rfl) rfl ?_
  intro w0 X
  rw [entry_mkE _ _ [(0, AG (ZC x))] rfl rfl];refine AWP_reg_seq tok fun K hK => ?_;refine s_box rfl rfl rfl rfl rfl rfl ?_;refine asQ ?_;refine s_end (hK _ ?_); clear hK K;refine a_draw tok mixed (A := [[], [], [], [0, 1], []]) (an := [{}, {}, {}, {}, {}]) rfl (by kernel_rfl) rfl fun K hK => ?_;refine ldQ ?_;refine s_call rfl rfl (iOf_c 1 (by unfold I64; omega)) rfl rfl rfl rfl ?_;refine s_call rfl rfl (c1) rfl rfl rfl rfl ?_;refine biQ ?_;refine asQ ?_;refine s_end (hK _ ?_); clear hK K;refine AWP_ret ?_
  repeat (with_reducible refine tq_ret ?_)
  exact post_ret (fin_mk (by rfl) (by rfl) (by rw [← zcmp_eq]; rfl))
theorem qWhole_t (a : RW) (x : Int) (ha : a.OK 16777216) (h : a.v = (x : Rat)) : Con Tryz.prog 38 [AG a.cs] { v := .tup [.agg (ZC x), .one (.d (.lit (.bool true)))] } := by
  have c1 := qNorm_t a ha
  have h1 := ha.ql rfl
  have c2 := qOne_u a.v.den (Nat.le_trans (ql_den_le h1) (by decide))
  rw [h] at c1 c2
  have e1 : ((x : Rat)).den = 1 := rfl
  have e2 : ((x : Rat)).num = x := rfl
  rw [e1, decide_eq_true (show ((1 : Nat) : Int) = 1 from rfl)] at c2
  have e3 : qzW (x : Rat) = pzW x 1 := rfl
  rw [e3] at c1;refine con_intro (fn := Tryz.f38) tok Tryz.func38 (by kernel_rfl) rfl ?_
  intro w0 X
  rw [entry_mkE _ _ [(0, AG a.cs)] rfl rfl];refine AWP_reg_seq tok fun K hK => ?_;refine s_box rfl rfl rfl rfl rfl rfl ?_;refine s_alloc rfl rfl rfl rfl rfl rfl ?_;refine asQ ?_;refine s_end (hK _ ?_); clear hK K;refine AWP_reg_seq tok fun K hK => ?_;refine ldQ ?_;refine s_call rfl rfl (c1) rfl rfl rfl rfl ?_;refine s_store rfl rfl rfl rfl rfl ?_;refine s_end (hK _ ?_); clear hK K;refine AWP_seq ?_;refine AWP_reg_seq tok fun K hK => ?_;refine faQ ?_;refine ldQ ?_;refine s_call rfl rfl (c2) rfl rfl rfl rfl ?_;refine s_un rfl rfl rfl ?_;refine s_end (hK _ ?_); clear hK K;refine a_cond rfl (fun hc => by cases hc) (fun _ => ?_);refine AWP_skip ?_;show AWP _ _ _ _ _ _;refine AWP_reg_seq tok fun K hK => ?_;refine faQ ?_;refine ldQ ?_;refine s_store rfl rfl rfl rfl rfl ?_;refine asQ ?_;refine s_end (hK _ ?_); clear hK K;refine AWP_ret ?_
  repeat (with_reducible refine tq_ret ?_)
  exact post_ret (fin_mk (by rfl) (by rfl) (by rfl))

/-! ### Columns and matrices by number -/
def vecW (n : Nat) (G : Nat → RW) : List RW := (List.range n).map G
def matW (n m : Nat) (F : Nat → Nat → RW) : List (List RW) := (List.range n).map fun i => vecW m (F i)
def updW (G : Nat → RW) (a : Nat) (x : RW) : Nat → RW := fun i => if i = a then x else G i
def rowD (n : Nat) (G : Nat → RW) : List (List DC) := (List.range n).map fun j => (G j).dc
def nmD (n : Nat) (e : Nat → Nat) : List (List DC) := (List.range n).map fun j => cN (e j)
theorem vec_dc (n : Nat) (G : Nat → RW) : (vecW n G).map RW.dc = rowD n G := by rw [vecW, List.map_map]; rfl
theorem rowD_length (n : Nat) (G : Nat → RW) : (rowD n G).length = n := by simp [rowD]
theorem rowD_get {n i : Nat} {G : Nat → RW} (h : i < n) : (rowD n G)[i]? = some (G i).dc := by simp [rowD, h]
theorem rowD_congr {n : Nat} {G H : Nat → RW} (h : ∀ i, i < n → G i = H i) : rowD n G = rowD n H := List.map_congr_left fun i hi => by rw [h i (List.mem_range.1 hi)]
theorem vecW_congr {n : Nat} {G H : Nat → RW} (h : ∀ i, i < n → G i = H i) : vecW n G = vecW n H := List.map_congr_left fun i hi => h i (List.mem_range.1 hi)
theorem matW_congr {n m : Nat} {F G : Nat → Nat → RW} (h : ∀ i j, i < n → j < m → F i j = G i j) : matW n m F = matW n m G := List.map_congr_left fun i hi => vecW_congr fun j hj => h i j (List.mem_range.1 hi) hj
theorem rowD_set {n i : Nat} {G : Nat → RW} {x : RW} : (rowD n G).set i x.dc = rowD n (updW G i x) := by
  apply List.ext_getElem?
  intro k
  rw [List.getElem?_set]
  by_cases hk : i = k
  · subst hk
    rw [if_pos rfl, rowD_length]
    by_cases hn : i < n
    · rw [if_pos hn, rowD_get hn]; simp [updW]
    · rw [if_neg hn, List.getElem?_eq_none (by rw [rowD_length]; omega)]
  · rw [if_neg hk]
    rcases Nat.lt_or_ge k n with hn | hn
    · rw [rowD_get hn, rowD_get hn]; simp [updW, Ne.symm hk]
    · rw [List.getElem?_eq_none (by rw [rowD_length]; omega), List.getElem?_eq_none (by rw [rowD_length]; omega)]
theorem rowD_zero (n : Nat) : List.replicate n rw00.dc = rowD n (fun _ => rw00) := by simp [rowD, List.map_const']
theorem rowD_succ (n : Nat) (G : Nat → RW) : rowD n G ++ [(G n).dc] = rowD (n + 1) G := by rw [rowD, rowD, List.range_succ, List.map_append]; rfl
theorem matW_succ (n m : Nat) (F : Nat → Nat → RW) : (matW n m F).map cM ++ [cM (vecW m (F n))] = (matW (n + 1) m F).map cM := by rw [matW, matW, List.range_succ, List.map_append, List.map_append]; rfl
theorem nmD_succ (n : Nat) (e : Nat → Nat) : nmD n e ++ [cN (e n)] = nmD (n + 1) e := by rw [nmD, nmD, List.range_succ, List.map_append]; rfl
section
variable {T : Tab} {t e : TypeId} {ti ei : TI}
theorem x_v {k : IntKind} {x : Int} {n i : Nat} {G : Nat → RW} (h1 : T t = some ti) (h2 : ti.und = .slice e) (h3 : T e = some ei) (h4 : ei.size = 4) (hx : x = (i : Int)) (hi : i < n) :
    effIndexAddr T t (V1 (dRs (vecW n G))) (V1 (.lit (.int k x))) = .set (.pd (G i).dc) :=
  x_d h1 h2 h3 hx (by rw [vec_dc]; exact rowD_get hi) (by rw [h4]; rfl)
theorem x_mt {k : IntKind} {x : Int} {n m i : Nat} {F : Nat → Nat → RW} (h1 : T t = some ti) (h2 : ti.und = .slice e) (h3 : T e = some ei) (h4 : ei.size = 1) (hx : x = (i : Int)) (hi : i < n) :
    effIndexAddr T t (V1 (dMs (matW n m F))) (V1 (.lit (.int k x))) = .set (.pd (cM (vecW m (F i)))) :=
  x_d h1 h2 h3 hx (by simp [matW, hi]) (by rw [h4]; rfl)
theorem x_n {k : IntKind} {x : Int} {n i : Nat} {f : Nat → Nat} (h1 : T t = some ti) (h2 : ti.und = .slice e) (h3 : T e = some ei) (h4 : ei.size = 1) (hx : x = (i : Int)) (hi : i < n) :
    effIndexAddr T t (V1 (.sl (nmD n f))) (V1 (.lit (.int k x))) = .set (.pd (cN (f i))) :=
  x_d h1 h2 h3 hx (by simp [nmD, hi]) (by rw [h4]; rfl)
theorem len_v {S : Objs} {n : Nat} {G : Nat → RW} (h1 : T t = some ti) (h2 : ti.und = .slice e) : effCall T ⟨[], S, []⟩ (.builtin .len) [V1 (dRs (vecW n G))] [t] = .set (dI n) := len_d h1 h2 (by simp [vecW])
theorem len_mt {S : Objs} {n m : Nat} {F : Nat → Nat → RW} (h1 : T t = some ti) (h2 : ti.und = .slice e) : effCall T ⟨[], S, []⟩ (.builtin .len) [V1 (dMs (matW n m F))] [t] = .set (dI n) := len_d h1 h2 (by simp [matW])
theorem len_n {S : Objs} {n : Nat} {f : Nat → Nat} (h1 : T t = some ti) (h2 : ti.und = .slice e) : effCall T ⟨[], S, []⟩ (.builtin .len) [V1 (.sl (nmD n f))] [t] = .set (dI n) := len_d h1 h2 (by simp [nmD])
theorem st_q {S : Objs} {rb : List Nat} {id i n : Nat} {G : Nat → RW} (x : RW) (h1 : T t = some ti) (h4 : ti.size = 4) (hS : S id = some (.arr 4 (rowD n G))) (hi : i < n) :
    effStore T ⟨[], S, rb⟩ t (.pe id 4 i 0) (AG x.cs) = .upd (updO S id (.arr 4 (rowD n (updW G i x)))) rb := by
  rw [← rowD_set];exact st_o (ds := x.dc) h1 hS (by rw [rowD_length]; exact hi) (fun el h => by rw [rowD_get hi] at h; cases h; rw [h4]; rfl) rfl (by rw [h4]; rfl) (by rw [h4]; rfl)
theorem l_q {S : Objs} {id i n : Nat} {G : Nat → RW} (h1 : T t = some ti) (h4 : ti.size = 4) (h5 : ti.agg = true) (hS : S id = some (.arr 4 (rowD n G))) (hi : i < n) :
    effLoad T ⟨[], S, []⟩ t (.pe id 4 i 0) = .set (AG (G i).cs) :=
  l_o h1 hS (rowD_get hi) (by rw [h4]; rfl) (by rw [h5]; rfl)
end
theorem matW_of {m : List (List RW)} {n : Nat} (hn : m.length = n) (hr : ∀ r ∈ m, r.length = n) : m = matW n n (fun i j => (m.getD i []).getD j rw00) := by
  apply List.ext_getElem?
  intro i
  rcases Nat.lt_or_ge i n with hi | hi
  · have hm : i < m.length := by omega
    have e1 : (matW n n fun i j => (m.getD i []).getD j rw00)[i]? = some (vecW n fun j => (m.getD i []).getD j rw00) := by simp [matW, hi]
    rw [e1, List.getElem?_eq_getElem hm]
    congr 1
    have e2 : m.getD i [] = m[i] := by rw [List.getD_eq_getElem?_getD, List.getElem?_eq_getElem hm]; rfl
    have hl := hr _ (List.getElem_mem hm)
    rw [e2];generalize m[i] = r at *
    apply List.ext_getElem?
    intro j
    rcases Nat.lt_or_ge j n with hj | hj
    · have hj' : j < r.length := by omega
      simp [vecW, hj, hj']
    · rw [List.getElem?_eq_none (by omega), List.getElem?_eq_none (by simp [vecW]; omega)]
  · rw [List.getElem?_eq_none (by omega), List.getElem?_eq_none (by simp [matW]; omega)]
end Go.Proofs.YtgopibpkgmafiaaGreat

/- Matrices: validity; small helpers of solve. No condition. -/
namespace Go.Proofs.YtgopibpkgmafiaaGreat
attribute [local irreducible] lexA

def mtv (m : List (List RW)) (i j : Nat) : RW := (m.getD i []).getD j rw00
theorem mtv_mat {n k : Nat} {F : Nat → Nat → RW} {i j : Nat} (hi : i < n) (hj : j < k) : mtv (matW n k F) i j = F i j := by
  simp [mtv, matW, vecW, hi, hj]
def VMp (m : List (List RW)) : Prop := m.length ≤ 16 ∧ (∀ r ∈ m, r.length = m.length) ∧ ∀ i, i < m.length → ∀ j, j < i → (mtv m i j).v = (mtv m j i).v
instance (m : List (List RW)) : Decidable (VMp m) := by unfold VMp; infer_instance
def validM (m : List (List RW)) : Bool := decide (VMp m)
theorem matW_length (n k : Nat) (F : Nat → Nat → RW) : (matW n k F).length = n := by simp [matW]
theorem vecW_length (n : Nat) (G : Nat → RW) : (vecW n G).length = n := by simp [vecW]
theorem VMp_mat {n : Nat} {F : Nat → Nat → RW} : VMp (matW n n F) ↔ n ≤ 16 ∧ ∀ i, i < n → ∀ j, j < i → (F i j).v = (F j i).v := by
  unfold VMp
  rw [matW_length]
  constructor
  · rintro ⟨h1, _, h3⟩
    refine ⟨h1, fun i hi j hj => ?_⟩
    have := h3 i hi j hj
    rwa [mtv_mat hi (by omega), mtv_mat (by omega) hi] at this
  · rintro ⟨h1, h3⟩
    refine ⟨h1, fun r hr => ?_, fun i hi j hj => ?_⟩
    · obtain ⟨i, _, rfl⟩ := List.mem_map.1 hr
      exact vecW_length _ _
    · rw [mtv_mat hi (by omega), mtv_mat (by omega) hi]; exact h3 i hi j hj
def okM (k : Nat) (m : List (List RW)) : Prop := ∀ r ∈ m, ∀ x ∈ r, x.OK k
theorem okM_mat {k n : Nat} {F : Nat → Nat → RW} (h : okM k (matW n n F)) {i j : Nat} (hi : i < n) (hj : j < n) : (F i j).OK k :=
  h (vecW n (F i)) (List.mem_map.2 ⟨i, List.mem_range.2 hi, rfl⟩) _ (List.mem_map.2 ⟨j, List.mem_range.2 hj, rfl⟩)
theorem sValid_c (m : List (List RW)) (hl : m.length ≤ 9223372036854775806) (hr : ∀ r ∈ m, r.length ≤ 9223372036854775806) (ok : okM 65536 m) : Con Tryz.prog 67 [V1 (dMs m)] { v := dB (validM m) } := by
  refine con_intro (fn := Tryz.f67) tok Tryz.func67 (by kernel_rfl) rfl ?_
  intro w0 X
  rw [entry_mkE _ _ [(0, V1 (dMs m))] rfl rfl];refine AWP_reg_seq tok fun K hK => ?_;refine asQ ?_;refine s_end (hK _ ?_); clear hK K;refine AWP_seq ?_;refine AWP_reg_seq tok fun K hK => ?_;refine mvQ ?_;refine s_blt rfl (len_m cM rfl rfl) rfl ?_;refine biQ ?_;refine s_end (hK _ ?_); clear hK K;refine a_cond rfl (fun hc => ?_) (fun hc => ?_)
  · have e : validM m = false := decide_eq_false fun h => by have := h.1; simp at hc; omega
    rw [e];refine AWP_reg_seq tok fun K hK => ?_;refine asQ ?_;refine s_end (hK _ ?_); clear hK K;refine AWP_ret ?_
    repeat (with_reducible refine tq_ret ?_)
    exact post_ret (fin_mk (by rfl) (by rfl) (by rfl))
  have h16 : m.length ≤ 16 := by simp at hc; omega
  refine AWP_skip ?_;show AWP _ _ _ _ _ _;refine AWP_seq ?_;refine AWP_reg_seq tok fun K hK => ?_;refine mvQ ?_;refine s_blt rfl (len_m cM rfl rfl) rfl ?_;refine mvQ ?_;refine s_end (hK _ ?_); clear hK K;refine AWP_block (a_loop (α := Nat) (fun i => mk 49 [(0, V1 (dMs m)), (11, V1 (dMs m)), (12, dI m.length), (13, dI i)] [] []) (fun i => i ≤ m.length ∧ ∀ k (h : k < m.length), k < i → m[k].length = m.length) (fun i => m.length - i) 0 ?_ ⟨Nat.zero_le _, fun _ _ h => by omega⟩ ?_)
  · exact Wk.mk' ⟨rfl, rfl, rfl, rfl, trivial⟩ trivial
  rintro i ⟨hi, hI⟩
  refine AWP_reg_seq tok fun K hK => ?_;refine biQ ?_;refine s_end (hK _ ?_); clear hK K;refine AWP_seq ?_;refine a_cond rfl (fun hg => ?_) (fun hg => ?_)
  · have hg : i < m.length := by simp at hg; omega
    refine AWP_skip ?_;show AWP _ _ _ _ _ _;refine AWP_seq ?_;refine AWP_block ?_;refine AWP_reg_seq tok fun K hK => ?_;refine s_indexAddr rfl (x_m cM rfl rfl rfl rfl hg rfl) rfl ?_;refine ldQ ?_;refine asQ ?_;refine s_end (hK _ ?_); clear hK K;refine AWP_reg_seq tok fun K hK => ?_;refine mvQ ?_;refine s_blt rfl (len_m RW.dc rfl rfl) rfl ?_;refine mvQ ?_;refine s_blt rfl (len_m cM rfl rfl) rfl ?_;refine biQ ?_;refine s_end (hK _ ?_); clear hK K;refine a_cond rfl (fun hd => ?_) (fun hd => ?_)
    · have e : validM m = false := decide_eq_false fun h => by
        have := h.2.1 _ (List.getElem_mem hg)
        rw [this] at hd
        simp at hd
      rw [e];refine AWP_reg_seq tok fun K hK => ?_;refine asQ ?_;refine s_end (hK _ ?_); clear hK K;refine AWP_ret ?_
      repeat (with_reducible refine tq_ret ?_)
      exact post_ret (fin_mk (by rfl) (by rfl) (by rfl))
    · have hd : m[i].length = m.length := by simp at hd; omega
      refine AWP_skip ?_;show AWP _ _ _ _ _ _;refine AWP_reg tok fun K hK => ?_;refine s_bin rfl (e_add (c := ((i + 1 : Nat) : Int)) (by omega) (by omega)) rfl ?_;refine mvQ ?_;refine s_end (hK _ ?_); clear hK K;refine ⟨i + 1, by omega, ⟨hg, fun k h hk => ?_⟩, Wk.mk' ⟨rfl, rfl, rfl, rfl, trivial⟩ trivial⟩
      by_cases e : k = i
      · subst e; exact hd
      · exact hI k h (by omega)
  have hall : ∀ r ∈ m, r.length = m.length := fun r hr' => by
    obtain ⟨k, hk, e⟩ := List.getElem_of_mem hr'
    rw [← e]; exact hI k hk (by simp at hg; omega)
  clear hI hg;refine AWP_exit ?_;show AWP _ _ _ _ _ _
  obtain ⟨n, hn⟩ : ∃ n, m.length = n := ⟨_, rfl⟩
  obtain ⟨F, hF⟩ : ∃ F, m = matW n n F := ⟨_, matW_of hn (hn ▸ hall)⟩
  rw [hn] at h16;clear hall hr hl
  subst hF
  have oF := fun i j (hi : i < n) (hj : j < n) => okM_mat ok hi hj
  have hv : validM (matW n n F) = decide (n ≤ 16 ∧ ∀ i, i < n → ∀ j, j < i → (F i j).v = (F j i).v) := decide_eq_decide.2 VMp_mat
  rw [hv];clear hv hn ok;refine AWP_seq ?_;refine AWP_reg_seq tok fun K hK => ?_;refine mvQ ?_;refine s_blt rfl (len_mt rfl rfl) rfl ?_;refine mvQ ?_;refine s_end (hK _ ?_); clear hK K;refine AWP_block (a_loop (α := Nat) (fun i => mk 49 [(0, V1 (dMs (matW n n F))), (23, V1 (dMs (matW n n F))), (24, dI n), (25, dI i)] [] []) (fun i => i ≤ n ∧ ∀ k, k < i → ∀ j, j < k → (F k j).v = (F j k).v) (fun i => n - i) 0 ?_ ⟨Nat.zero_le _, fun _ h => by omega⟩ ?_)
  · exact Wk.mk' ⟨rfl, rfl, rfl, rfl, trivial⟩ trivial
  rintro i ⟨hi, hI⟩
  refine AWP_reg_seq tok fun K hK => ?_;refine biQ ?_;refine s_end (hK _ ?_); clear hK K;refine AWP_seq ?_;refine a_cond rfl (fun hg => ?_) (fun hg => ?_)
  · have hg : i < n := by simp at hg; omega
    refine AWP_skip ?_;show AWP _ _ _ _ _ _;refine AWP_seq ?_;refine AWP_block ?_;refine AWP_reg_seq tok fun K hK => ?_;refine mvQ ?_;refine s_indexAddr rfl (x_mt rfl rfl rfl rfl rfl hg) rfl ?_;refine ldQ ?_;refine asQ ?_;refine asQ ?_;refine s_end (hK _ ?_); clear hK K;refine AWP_reg_seq tok fun K hK => ?_;refine mvQ ?_;refine mvQ ?_;refine s_end (hK _ ?_); clear hK K;refine AWP_block (a_loop (α := Nat) (fun j => mk 49 [(0, V1 (dMs (matW n n F))), (5, dI i), (6, V1 (dRs (vecW n (F i)))), (23, V1 (dMs (matW n n F))), (24, dI n), (25, dI i), (30, dI i), (31, dI j)] [] []) (fun j => j ≤ i ∧ ∀ k, k < j → (F i k).v = (F k i).v) (fun j => i - j) 0 ?_ ⟨Nat.zero_le _, fun _ h => by omega⟩ ?_)
    · exact Wk.mk' ⟨rfl, rfl, rfl, rfl, rfl, rfl, rfl, rfl, trivial⟩ trivial
    rintro j ⟨hj, hJ⟩
    refine AWP_reg_seq tok fun K hK => ?_;refine biQ ?_;refine s_end (hK _ ?_); clear hK K;refine AWP_seq ?_;refine a_cond rfl (fun hf => ?_) (fun hf => ?_)
    · have hf : j < i := by simp at hf; omega
      have cc := qCmp_t (F i j) (F j i) ((oF i j hg (by omega)).mono rfl) ((oF j i (by omega) hg).mono rfl)
      refine AWP_skip ?_;show AWP _ _ _ _ _ _;refine AWP_seq ?_;refine AWP_block ?_;refine AWP_reg_seq tok fun K hK => ?_;refine mvQ ?_;refine asQ ?_;refine s_end (hK _ ?_); clear hK K;refine a_draw tok mixed (A := [[], [], [], [0, 1], [], [], [], [4, 5], [], [4, 5, 6], [4, 5, 6, 7, 8], [0, 1, 2, 4, 5, 6, 7, 8, 9], [0, 1, 2, 3, 4, 5, 6, 7, 8, 9, 10]]) (an := [{}, {}, {}, {}, {}, {}, {}, {}, {}, {}, {}, {}, {}]) rfl (by kernel_rfl) rfl fun K hK => ?_;refine mvQ ?_;refine mvQ ?_;refine s_indexAddr rfl (x_v rfl rfl rfl rfl rfl (show j < n by omega)) rfl ?_;refine ldQ ?_;refine mvQ ?_;refine mvQ ?_;refine s_indexAddr rfl (x_mt rfl rfl rfl rfl rfl (show j < n by omega)) rfl ?_;refine ldQ ?_;refine mvQ ?_;refine s_indexAddr rfl (x_v rfl rfl rfl rfl rfl hg) rfl ?_;refine ldQ ?_;refine s_call rfl rfl (cc) rfl rfl rfl rfl ?_;refine biQ ?_;refine s_end (hK _ ?_); clear hK K;refine a_cond rfl (fun hd => ?_) (fun hd => ?_)
      · have hne : (F i j).v ≠ (F j i).v := fun e => by
          have := qcmp_eq (F i j).v (F j i).v
          rw [decide_eq_true e, beq_iff_eq] at this
          simp [this] at hd
        have e : decide (n ≤ 16 ∧ ∀ i, i < n → ∀ j, j < i → (F i j).v = (F j i).v) = false := decide_eq_false fun h => hne (h.2 i hg j hf)
        rw [e];refine AWP_reg_seq tok fun K hK => ?_;refine asQ ?_;refine s_end (hK _ ?_); clear hK K;refine AWP_ret ?_
        repeat (with_reducible refine tq_ret ?_)
        exact post_ret (fin_mk (by rfl) (by rfl) (by rfl))
      · have heq : (F i j).v = (F j i).v := by
          have := qcmp_eq (F i j).v (F j i).v
          have h2 : (qcmp (F i j).v (F j i).v == 0) = true := by simpa using hd
          rw [h2] at this;exact of_decide_eq_true this.symm
        refine AWP_skip ?_;show AWP _ _ _ _ _ _;refine AWP_reg tok fun K hK => ?_;refine s_bin rfl (e_add (c := ((j + 1 : Nat) : Int)) (by omega) (by omega)) rfl ?_;refine mvQ ?_;refine s_end (hK _ ?_); clear hK K;refine ⟨j + 1, by omega, ⟨hf, fun k hk => ?_⟩, Wk.mk' ⟨rfl, rfl, rfl, rfl, rfl, rfl, rfl, rfl, trivial⟩ trivial⟩
        by_cases e : k = j
        · subst e; exact heq
        · exact hJ k (by omega)
    · have hf : j = i := by simp at hf; omega
      subst hf
      refine AWP_exit ?_;show AWP _ _ _ _ _ _;refine AWP_reg tok fun K hK => ?_;refine s_bin rfl (e_add (c := ((j + 1 : Nat) : Int)) (by omega) (by omega)) rfl ?_;refine mvQ ?_;refine s_end (hK _ ?_); clear hK K;refine ⟨j + 1, by omega, ⟨hg, fun k hk => ?_⟩, Wk.mk' ⟨rfl, rfl, rfl, rfl, trivial⟩ trivial⟩
      by_cases e : k = j
      · subst e; exact hJ
      · exact hI k (by omega)
  · have hg : i = n := by simp at hg; omega
    subst hg
    refine AWP_exit ?_;show AWP _ _ _ _ _ _;rw [decide_eq_true ⟨h16, fun k hk => hI k hk⟩];refine AWP_reg_seq tok fun K hK => ?_;refine asQ ?_;refine s_end (hK _ ?_); clear hK K;refine AWP_ret ?_
    repeat (with_reducible refine tq_ret ?_)
    exact post_ret (fin_mk (by rfl) (by rfl) (by rfl))

/-! ### Small helpers -/
theorem sZero_c : Con Tryz.prog 71 [] { v := AG (qzW 0).cs } := by
  have c := qOfI_c 0 ⟨by decide, by decide⟩
  refine con_intro (fn := Tryz.f71) tok Tryz.func71 (by kernel_rfl) rfl ?_
  intro w0 X
  rw [entry_mkE _ _ [] rfl rfl];refine AWP_reg_seq tok fun K hK => ?_;refine s_alloc rfl rfl rfl rfl rfl rfl ?_;refine s_end (hK _ ?_); clear hK K;refine AWP_reg_seq tok fun K hK => ?_;refine s_call rfl rfl (c) rfl rfl rfl rfl ?_;refine s_store rfl rfl rfl rfl rfl ?_;refine s_end (hK _ ?_); clear hK K;refine AWP_ret ?_
  repeat (with_reducible refine tq_ret ?_)
  exact post_ret (fin_mk (by rfl) (by rfl) (by rfl))
theorem sOne_c : Con Tryz.prog 69 [] { v := AG (qzW 1).cs } := by
  have c := qOfI_c 1 ⟨by decide, by decide⟩
  refine con_intro (fn := Tryz.f69) tok Tryz.func69 (by kernel_rfl) rfl ?_
  intro w0 X
  rw [entry_mkE _ _ [] rfl rfl];refine AWP_reg_seq tok fun K hK => ?_;refine s_alloc rfl rfl rfl rfl rfl rfl ?_;refine s_end (hK _ ?_); clear hK K;refine AWP_reg_seq tok fun K hK => ?_;refine s_call rfl rfl (c) rfl rfl rfl rfl ?_;refine s_store rfl rfl rfl rfl rfl ?_;refine s_end (hK _ ?_); clear hK K;refine AWP_ret ?_
  repeat (with_reducible refine tq_ret ?_)
  exact post_ret (fin_mk (by rfl) (by rfl) (by rfl))
theorem sLess_c (a b c : RW) (z : Rat) (ha : a.OK 16777215) (hb : b.OK 8388607) (hc : c.OK 8388607) (h : a.v - b.v * c.v = z) : Con Tryz.prog 74 [AG a.cs, AG b.cs, AG c.cs] { v := AG (qzW z).cs } := by
  have c1 := qMul_t b c (b.v * c.v) (hb.mono rfl) (hc.mono rfl) rfl
  have o : (qzW (b.v * c.v)).OK 16777215 := qzW_ok (Nat.le_trans (ql_mul_le (hb.ql rfl) (hc.ql rfl)) (by decide))
  have c2 := qSub_t a (qzW (b.v * c.v)) z ha o (by rw [qzW_v]; exact h)
  refine con_intro (fn := Tryz.f74) tok Tryz.func74 (by kernel_rfl) rfl ?_
  intro w0 X
  rw [entry_mkE _ _ [(0, AG a.cs), (1, AG b.cs), (2, AG c.cs)] rfl rfl];refine AWP_reg_seq tok fun K hK => ?_;refine s_box rfl rfl rfl rfl rfl rfl ?_;refine s_box rfl rfl rfl rfl rfl rfl ?_;refine s_box rfl rfl rfl rfl rfl rfl ?_;refine s_alloc rfl rfl rfl rfl rfl rfl ?_;refine s_end (hK _ ?_); clear hK K;refine a_draw tok mixed (A := [[], [], [], [], [1, 2], []]) (an := [{}, {}, {}, {}, {}, {}]) rfl (by kernel_rfl) rfl fun K hK => ?_;refine ldQ ?_;refine ldQ ?_;refine ldQ ?_;refine s_call rfl rfl (c1) rfl rfl rfl rfl ?_;refine s_call rfl rfl (c2) rfl rfl rfl rfl ?_;refine s_store rfl rfl rfl rfl rfl ?_;refine s_end (hK _ ?_); clear hK K;refine AWP_ret ?_
  repeat (with_reducible refine tq_ret ?_)
  exact post_ret (fin_mk (by rfl) (by rfl) (by rfl))
theorem sStraight_c (n : Nat) (hn : n ≤ 1048576) : Con Tryz.prog 85 [dI n] { v := V1 (.sl (nmD n fun i => i)) } := by
  refine con_intro (fn := Tryz.f85) tok Tryz.func85 (by kernel_rfl) rfl ?_
  intro w0 X
  rw [entry_mkE _ _ [(0, dI n)] rfl rfl];refine AWP_reg_seq tok fun K hK => ?_;refine asQ ?_;refine s_end (hK _ ?_); clear hK K;refine AWP_reg_seq tok fun K hK => ?_;refine asQ ?_;refine s_end (hK _ ?_); clear hK K;refine AWP_seq ?_;refine AWP_reg_seq tok fun K hK => ?_;refine mvQ ?_;refine mvQ ?_;refine s_end (hK _ ?_); clear hK K;refine AWP_block (a_loop (α := Nat) (fun i => mk 15 [(3, ownN 200 1 i), (5, dI n), (6, dI i)] [(200, arrN 1 (nmD i fun i => i) i)] []) (fun i => i ≤ n) (fun i => n - i) 0 ?_ (Nat.zero_le _) ?_)
  · exact Wk.mk' ⟨rfl, rfl, rfl, trivial⟩ ⟨rfl, trivial⟩
  intro i hi
  refine AWP_reg_seq tok fun K hK => ?_;refine biQ ?_;refine s_end (hK _ ?_); clear hK K;refine AWP_seq ?_;refine a_cond rfl (fun hg => ?_) (fun hg => ?_)
  · have hg : i < n := by simp at hg; omega
    have n1 := nmD_succ i (fun i => i)
    have z1 : (nmD i fun i => i).length = i := by simp [nmD]
    generalize (nmD i fun i => i) = es at n1 z1 ⊢;refine AWP_skip ?_;show AWP _ _ _ _ _ _;refine AWP_seq ?_;refine AWP_block ?_
    rcases i with _ | i
    · refine AWP_reg_seq tok fun K hK => ?_;refine mvQ ?_;refine asQ ?_;refine s_end (hK _ ?_); clear hK K;refine AWP_reg tok fun K hK => ?_;refine mvQ ?_;refine mvQ ?_;refine s_buildSlice rfl rfl rfl rfl ?_;refine s_append rfl (ap_nil rfl rfl rfl rfl rfl (by decide) (Nat.le_of_ble_eq_true rfl) rfl (by simp) rfl (by simp) (by simp)) rfl rfl rfl ?_;refine asQ ?_;refine s_end (hK _ ?_); clear hK K;show AWP _ _ _ _ _ _;refine AWP_reg tok fun K hK => ?_;refine s_bin rfl (e_add (c := ((0 + 1 : Nat) : Int)) (by omega) (by omega)) rfl ?_;refine mvQ ?_;refine s_end (hK _ ?_); clear hK K;refine ⟨0 + 1, by omega, hg, Wk.rn [3, 5, 6] [12] 12 200 rfl rfl rfl ⟨?_, rfl, rfl, trivial⟩ ⟨?_, trivial⟩⟩
      · first
          | rfl
          | (show SV.val (.one (.own 200 1 0 _)) = _
             rw [List.length_append, z1]; rfl)
      · first
          | (rw [← n1, List.length_eq_zero_iff.1 z1]; rfl)
          | (rw [← n1]; rfl)
    · refine AWP_reg_seq tok fun K hK => ?_;refine mvQ ?_;refine asQ ?_;refine s_end (hK _ ?_); clear hK K;refine AWP_reg tok fun K hK => ?_;refine mvQ ?_;refine mvQ ?_;refine s_buildSlice rfl rfl rfl rfl ?_;refine s_append rfl (ap_o rfl rfl rfl rfl rfl rfl (by decide) (Nat.le_of_ble_eq_true rfl) rfl (by simp) rfl rfl z1.symm (by simp <;> omega)) rfl rfl rfl ?_;refine asQ ?_;refine s_end (hK _ ?_); clear hK K;show AWP _ _ _ _ _ _;refine AWP_reg tok fun K hK => ?_;refine s_bin rfl (e_add (c := ((i + 1 + 1 : Nat) : Int)) (by omega) (by omega)) rfl ?_;refine mvQ ?_;refine s_end (hK _ ?_); clear hK K;refine ⟨i + 1 + 1, by omega, hg, Wk.rn [3, 5, 6] [12] 12 200 rfl rfl rfl ⟨?_, rfl, rfl, trivial⟩ ⟨?_, trivial⟩⟩
      · first
          | rfl
          | (show SV.val (.one (.own 200 1 0 _)) = _
             rw [List.length_append, z1]; rfl)
      · first
          | (rw [← n1, List.length_eq_zero_iff.1 z1]; rfl)
          | (rw [← n1]; rfl)
  · have hg : n = i := by simp at hg; omega
    subst hg
    refine AWP_exit ?_;show AWP _ _ _ _ _ _
    rcases n with _ | n
    · refine AWP_reg_seq tok fun K hK => ?_;refine mvQ ?_;refine asQ ?_;refine s_end (hK _ ?_); clear hK K;refine AWP_ret ?_
      repeat (with_reducible refine tq_ret ?_)
      exact post_ret (fin_mk (by rfl) (by rfl) (by rfl))
    · refine a_fz [3] [200] 200 [(3, V1 (.sl (nmD (n + 1) fun i => i)))] [] rfl ?_ trivial ?_
      · exact ⟨frz_own rfl (by simp [nmD]), trivial⟩
      refine AWP_reg_seq tok fun K hK => ?_;refine mvQ ?_;refine asQ ?_;refine s_end (hK _ ?_); clear hK K;refine AWP_ret ?_
      repeat (with_reducible refine tq_ret ?_)
      exact post_ret (fin_mk (by rfl) (by rfl) (by rfl))
end Go.Proofs.YtgopibpkgmafiaaGreat

/- The factors of a matrix. No condition. -/
namespace Go.Proofs.YtgopibpkgmafiaaGreat
attribute [local irreducible] lexA

theorem ql_ps {b : Rat} {f : Nat → Rat} {M K : Nat} (hb : ql b ≤ K) : ∀ k, (∀ t, t < k → ql (f t) ≤ M) → ql (b - sm k f) ≤ K + k * (M + 1)
  | 0, _ => by
    have : b - sm 0 f = b := by simp only [sm]; grind
    rw [this]; omega
  | k + 1, h => by
    have ih := ql_ps hb k fun t ht => h t (by omega)
    have e : b - sm (k + 1) f = (b - sm k f) - f k := by rw [sm_succ]; grind
    rw [e, Nat.succ_mul];exact Nat.le_trans (ql_sub_le ih (h k (by omega))) (by omega)
theorem ps_succ (b : Rat) (f : Nat → Rat) (k : Nat) {x : Rat} (h : f k = x) : (b - sm k f) - x = b - sm (k + 1) f := by rw [sm_succ, h]; grind
theorem ps_zero (b : Rat) (f : Nat → Rat) : b - sm 0 f = b := by simp only [sm]; grind
section
variable {T : Tab} {t : TypeId} {ti : TI}
theorem l_qv {S : Objs} {id i n : Nat} {G : Nat → RW} {x : RW} (h1 : T t = some ti) (h4 : ti.size = 4) (h5 : ti.agg = true) (hS : S id = some (.arr 4 (rowD n G))) (hi : i < n) (he : G i = x) :
    effLoad T ⟨[], S, []⟩ t (.pe id 4 i 0) = .set (AG x.cs) := he ▸ l_q h1 h4 h5 hS hi
end
def ordB (F : Nat → Nat → RW) (e : Nat → Nat) (i j : Nat) : Rat := (F (e i) (e j)).v
def posB (B : Nat → Nat → Rat) (n : Nat) : Bool := decide (∀ k, k < n → 0 < DD B k)
def facL (B : Nat → Nat → Rat) (n : Nat) : List (List RW) := matW n n fun r c => qzW (LL B r c)
def facD (B : Nat → Nat → Rat) (n : Nat) : List RW := vecW n fun r => qzW (DD B r)
def facV (B : Nat → Nat → Rat) (n : Nat) : List (List RW) × List RW × Bool := if posB B n then (facL B n, facD B n, true) else ([], [], false)
def facS (B : Nat → Nat → Rat) (n : Nat) : Prop := ∀ i, i < n → (∀ k, k < i → 0 < DD B k) → ql (DD B i) ≤ 65536 ∧ ∀ j, j < i → ql (LL B i j) ≤ 65536
def zG (s t : Nat) : RW := if t < s then qzW 0 else rw00
def rG (B : Nat → Nat → Rat) (i j t : Nat) : RW := if t < j then qzW (LL B i t) else if t = i then qzW 1 else qzW 0
theorem rowD_z0 (n : Nat) : List.replicate n rw00.dc = rowD n (zG 0) := by rw [rowD_zero]; exact rowD_congr fun i _ => by simp [zG]
theorem rowD_zs (n s : Nat) : rowD n (updW (zG s) s (qzW 0)) = rowD n (zG (s + 1)) := rowD_congr fun i _ => by
  simp only [updW, zG]
  by_cases h : i = s
  · rw [if_pos h, if_pos (by omega)]
  · rw [if_neg h]
    by_cases h2 : i < s
    · rw [if_pos h2, if_pos (by omega)]
    · rw [if_neg h2, if_neg (by omega)]
theorem rowD_r0 (B : Nat → Nat → Rat) (n i : Nat) : rowD n (updW (zG n) i (qzW 1)) = rowD n (rG B i 0) := rowD_congr fun t ht => by
  simp only [updW, zG, rG];rw [if_neg (show ¬ t < 0 by omega), if_pos ht]
theorem rowD_rs (B : Nat → Nat → Rat) (n i j : Nat) : rowD n (updW (rG B i j) j (qzW (LL B i j))) = rowD n (rG B i (j + 1)) := rowD_congr fun t _ => by
  simp only [updW, rG]
  by_cases h : t = j
  · rw [if_pos h, if_pos (by omega), h]
  · rw [if_neg h]
    by_cases h2 : t < j
    · rw [if_pos h2, if_pos (by omega)]
    · rw [if_neg h2, if_neg (show ¬ t < j + 1 by omega)]
theorem rowD_rn (B : Nat → Nat → Rat) (n i : Nat) : rowD n (rG B i i) = rowD n (fun c => qzW (LL B i c)) := rowD_congr fun t _ => by
  simp only [rG]
  by_cases h : t < i
  · rw [if_pos h]
  · rw [if_neg h]
    by_cases h2 : t = i
    · rw [if_pos h2, h2, LL_diag]
    · rw [if_neg h2, LL_hi B (by omega)]
theorem matW_get {n m j : Nat} {F : Nat → Nat → RW} (h : j < n) : ((matW n m F).map cM)[j]? = some (cM (vecW m (F j))) := by simp [matW, h]
theorem matW_mlength (n m : Nat) (F : Nat → Nat → RW) : ((matW n m F).map cM).length = n := by simp [matW]

set_option maxHeartbeats 1000000 in
theorem sFactor_c (n : Nat) (F : Nat → Nat → RW) (e : Nat → Nat) (hn : n ≤ 16) (he : ∀ i, i < n → e i < n) (ok : ∀ i j, i < n → j < n → (F i j).OK 65536) (hS : facS (ordB F e) n) :
    Con Tryz.prog 84 [V1 (dMs (matW n n F)), V1 (.sl (nmD n e))] { v := .tup [.one (.d (dMs (facV (ordB F e) n).1)), .one (.d (dRs (facV (ordB F e) n).2.1)), .one (.d (.lit (.bool (facV (ordB F e) n).2.2)))] } := by
  obtain ⟨B, hB⟩ : ∃ B, B = ordB F e := ⟨_, rfl⟩
  rw [← hB] at hS ⊢
  have hBv : ∀ i j, B i j = (F (e i) (e j)).v := fun i j => by rw [hB]; rfl
  clear hB;refine con_intro (fn := Tryz.f84) tok Tryz.func84 (by kernel_rfl) rfl ?_
  intro w0 X
  rw [entry_mkE _ _ [(0, V1 (dMs (matW n n F))), (1, V1 (.sl (nmD n e)))] rfl rfl];refine AWP_reg_seq tok fun K hK => ?_;refine asQ ?_;refine asQ ?_;refine asQ ?_;refine s_end (hK _ ?_); clear hK K;refine AWP_reg_seq tok fun K hK => ?_;refine asQ ?_;refine s_end (hK _ ?_); clear hK K;refine AWP_reg_seq tok fun K hK => ?_;refine asQ ?_;refine s_end (hK _ ?_); clear hK K;refine AWP_seq ?_;refine AWP_reg_seq tok fun K hK => ?_;refine mvQ ?_;refine s_blt rfl (len_n rfl rfl) rfl ?_;refine mvQ ?_;refine s_end (hK _ ?_); clear hK K;refine AWP_block (a_loop (α := Nat) (fun i => mk 121 [(0, V1 (dMs (matW n n F))), (1, V1 (.sl (nmD n e))), (7, ownN 200 1 i), (8, ownN 201 4 i), (17, V1 (.sl (nmD n e))), (18, dI n), (19, dI i)] [(200, arrN 1 ((matW i n fun r c => qzW (LL B r c)).map cM) i), (201, arrN 4 (rowD i fun r => qzW (DD B r)) i)] []) (fun i => i ≤ n ∧ ∀ k, k < i → 0 < DD B k) (fun i => n - i) 0 ?_ ⟨Nat.zero_le _, fun _ h => by omega⟩ ?_)
  · exact Wk.mk' ⟨rfl, rfl, rfl, rfl, rfl, rfl, rfl, trivial⟩ ⟨rfl, rfl, trivial⟩
  rintro i ⟨hi, hI⟩
  refine AWP_reg_seq tok fun K hK => ?_;refine biQ ?_;refine s_end (hK _ ?_); clear hK K;refine AWP_seq ?_;refine a_cond rfl (fun hg => ?_) (fun hg => ?_)
  · have hg : i < n := by simp at hg; omega
    have ei := he i hg
    obtain ⟨qD, qL⟩ := hS i hg hI
    have n1 := matW_succ i n (fun r c => qzW (LL B r c))
    have n2 := rowD_succ i (fun r => qzW (DD B r))
    have z1 := matW_mlength i n (fun r c => qzW (LL B r c))
    have z2 := rowD_length i (fun r => qzW (DD B r))
    have g1 : ∀ j, j < i → ((matW i n fun r c => qzW (LL B r c)).map cM)[j]? = some (cM (vecW n fun c => qzW (LL B j c))) := fun j hj => matW_get hj
    generalize (matW i n fun r c => qzW (LL B r c)).map cM = es at n1 z1 g1 ⊢;refine AWP_skip ?_;show AWP _ _ _ _ _ _;refine AWP_seq ?_;refine AWP_block ?_;refine AWP_reg_seq tok fun K hK => ?_;refine mvQ ?_;refine s_indexAddr rfl (x_n rfl rfl rfl rfl rfl hg) rfl ?_;refine ldQ ?_;refine asQ ?_;refine asQ ?_;refine s_end (hK _ ?_); clear hK K;refine AWP_reg_seq tok fun K hK => ?_;refine mvQ ?_;refine s_blt rfl (len_n rfl rfl) rfl ?_;refine s_makeSlice (sz := _) (es := _) (f := _) (v := _) rfl (mk_a (l := n) rfl rfl rfl rfl rfl (Nat.le_of_ble_eq_true rfl) (by decide) rfl rfl (by omega)) (by rcases i with _|i <;> rfl) rfl ?_;refine asQ ?_;refine s_end (hK _ ?_); clear hK K;refine AWP_seq ?_;refine AWP_reg_seq tok fun K hK => ?_;refine mvQ ?_;refine s_blt rfl rfl rfl ?_;refine mvQ ?_;refine s_end (hK _ ?_); clear hK K;refine AWP_block (a_loop (α := Nat) (fun s => mk 121 [(0, V1 (dMs (matW n n F))), (1, V1 (.sl (nmD n e))), (7, ownN 200 1 i), (8, ownN 201 4 i), (9, dI i), (10, dI (e i)), (11, .val (.one (.own 26 4 0 n))), (17, V1 (.sl (nmD n e))), (18, dI n), (19, dI i), (28, dI n), (29, dI s)] [(26, some (.arr 4 (rowD n (zG s)))), (200, arrN 1 es i), (201, arrN 4 (rowD i fun r => qzW (DD B r)) i)] []) (fun s => s ≤ n) (fun s => n - s) 0 ?_ (Nat.zero_le _) ?_)
    · exact Wk.mk' ⟨rfl, rfl, rfl, rfl, rfl, rfl, rfl, rfl, rfl, rfl, rfl, rfl, trivial⟩ ⟨congrArg (fun x => some (OO.arr 4 x)) (rowD_z0 n), rfl, rfl, trivial⟩
    intro s hs
    refine AWP_reg_seq tok fun K hK => ?_;refine biQ ?_;refine s_end (hK _ ?_); clear hK K;refine AWP_seq ?_;refine a_cond rfl (fun hf => ?_) (fun hf => ?_)
    · have hf : s < n := by simp at hf; omega
      refine AWP_skip ?_;show AWP _ _ _ _ _ _;refine AWP_seq ?_;refine AWP_block ?_;refine AWP_reg_seq tok fun K hK => ?_;refine mvQ ?_;refine asQ ?_;refine s_end (hK _ ?_); clear hK K;refine AWP_reg tok fun K hK => ?_;refine mvQ ?_;refine mvQ ?_;refine s_call rfl rfl (sZero_c) rfl rfl rfl rfl ?_;refine s_indexAddr rfl (x_o (i := s) (j := s) rfl rfl rfl rfl rfl hf (Nat.zero_add _)) rfl ?_;refine s_store rfl (st_q (qzW 0) rfl rfl rfl hf) rfl rfl rfl ?_;refine s_end (hK _ ?_); clear hK K;rw [rowD_zs];show AWP _ _ _ _ _ _;refine AWP_reg tok fun K hK => ?_;refine s_bin rfl (e_add (c := ((s + 1 : Nat) : Int)) (by omega) (by omega)) rfl ?_;refine mvQ ?_;refine s_end (hK _ ?_); clear hK K;exact ⟨s + 1, by omega, hf, Wk.mk' ⟨rfl, rfl, rfl, rfl, rfl, rfl, rfl, rfl, rfl, rfl, rfl, rfl, trivial⟩ ⟨rfl, rfl, rfl, trivial⟩⟩
    have hf : s = n := by simp at hf; omega
    subst hf
    refine AWP_exit ?_;show AWP _ _ _ _ _ _;refine AWP_reg_seq tok fun K hK => ?_;refine mvQ ?_;refine mvQ ?_;refine s_call rfl rfl (sOne_c) rfl rfl rfl rfl ?_;refine s_indexAddr rfl (x_o (i := i) (j := i) rfl rfl rfl rfl rfl hg (Nat.zero_add _)) rfl ?_;refine s_store rfl (st_q (qzW 1) rfl rfl rfl hg) rfl rfl rfl ?_;refine s_end (hK _ ?_); clear hK K;rw [rowD_r0 B]
    have cN1 := qNorm_t (F (e i) (e i)) ((ok _ _ ei ei).mono rfl)
    rw [← hBv] at cN1;refine AWP_reg_seq tok fun K hK => ?_;refine mvQ ?_;refine mvQ ?_;refine s_indexAddr rfl (x_mt rfl rfl rfl rfl rfl ei) rfl ?_;refine ldQ ?_;refine mvQ ?_;refine s_indexAddr rfl (x_v rfl rfl rfl rfl rfl ei) rfl ?_;refine ldQ ?_;refine s_call rfl rfl (cN1) rfl rfl rfl rfl ?_;refine s_alloc rfl rfl rfl rfl rfl (by rcases i with _|i <;> rfl) ?_;refine s_store rfl rfl rfl rfl rfl ?_;refine s_end (hK _ ?_); clear hK K;refine AWP_seq ?_;refine AWP_reg_seq tok fun K hK => ?_;refine mvQ ?_;refine mvQ ?_;refine s_end (hK _ ?_); clear hK K;refine AWP_block (a_loop (α := Nat) (fun j => mk 121 [(0, V1 (dMs (matW s s F))), (1, V1 (.sl (nmD s e))), (7, ownN 200 1 i), (8, ownN 201 4 i), (10, dI (e i)), (11, .val (.one (.own 26 4 0 s))), (13, .ptr 13 0), (17, V1 (.sl (nmD s e))), (18, dI s), (19, dI i), (49, dI i), (50, dI j)] [(13, some (.box (qzW (B i i - sm j fun t => LL B i t * LL B i t * DD B t)).cs)), (26, some (.arr 4 (rowD s (rG B i j)))), (200, arrN 1 es i), (201, arrN 4 (rowD i fun r => qzW (DD B r)) i)] []) (fun j => j ≤ i) (fun j => i - j) 0 ?_ (Nat.zero_le _) ?_)
    · refine Wk.mk' ⟨rfl, rfl, rfl, rfl, rfl, rfl, rfl, rfl, rfl, rfl, rfl, rfl, trivial⟩ ⟨?_, rfl, rfl, rfl, trivial⟩;rw [ps_zero]; rfl
    intro j hj
    have tr : ∀ t, t < i → ql (LL B i t * LL B i t * DD B t) ≤ 196608 := fun t ht =>
      Nat.le_trans (ql_mul_le (ql_mul_le (qL t ht) (qL t ht)) (hS t (by omega) fun k hk => hI k (by omega)).1) (by decide)
    have qb : ∀ a b, a < s → b < s → ql (B a b) ≤ 65536 := fun a b ha hb => by rw [hBv]; exact (ok _ _ (he a ha) (he b hb)).ql rfl
    refine AWP_reg_seq tok fun K hK => ?_;refine biQ ?_;refine s_end (hK _ ?_); clear hK K;refine AWP_seq ?_;refine a_cond rfl (fun hf => ?_) (fun hf => ?_)
    · have hf : j < i := by simp at hf; omega
      obtain ⟨i0, hi0⟩ : ∃ i0, i = i0 + 1 := ⟨i - 1, by omega⟩
      have hjs : j < s := by omega
      have ej := he j hjs
      have dj := hI j hf
      obtain ⟨qDj, qLj⟩ := hS j hjs fun k hk => hI k (by omega)
      have cN2 := qNorm_t (F (e i) (e j)) ((ok _ _ ei ej).mono rfl)
      rw [← hBv] at cN2
      have tx : ∀ t, t < j → ql (LL B i t * LL B j t * DD B t) ≤ 196608 := fun t ht =>
        Nat.le_trans (ql_mul_le (ql_mul_le (qL t (by omega)) (qLj t ht)) (hS t (by omega) fun k hk => hI k (by omega)).1) (by decide)
      have hbx : ∀ k, k ≤ j → ql (B i j - sm k fun t => LL B i t * LL B j t * DD B t) ≤ 4194304 := fun k hk =>
        Nat.le_trans (ql_ps (qb i j hg hjs) k fun t ht => tx t (by omega)) (by
          have := Nat.mul_le_mul_right (196608 + 1) (show k ≤ 16 by omega)
          omega)
      have hbr : ql (B i i - sm j fun t => LL B i t * LL B i t * DD B t) ≤ 4194304 :=
        Nat.le_trans (ql_ps (qb i i hg hg) j fun t ht => tr t (by omega)) (by
          have := Nat.mul_le_mul_right (196608 + 1) (show j ≤ 16 by omega)
          omega)
      have hlx : (B i j - sm j fun t => LL B i t * LL B j t * DD B t) = LL B i j * DD B j := (LL_eq B hf (by grind)).symm
      have hr0 := ps_succ (B i i) (fun t => LL B i t * LL B i t * DD B t) j (x := LL B i j * DD B j * LL B i j) (by grind)
      refine AWP_skip ?_;show AWP _ _ _ _ _ _;refine AWP_seq ?_;refine AWP_block ?_
      subst hi0
      refine AWP_reg_seq tok fun K hK => ?_;refine mvQ ?_;refine asQ ?_;refine s_end (hK _ ?_); clear hK K;refine a_draw tok mixed (A := [[], [], [], [0, 1], [], [], [], [4, 5], [0, 1, 2, 4, 5, 6], [0, 1, 2, 3, 4, 5, 6, 7], [0, 1, 2, 3, 4, 5, 6, 7, 8], [], []]) (an := [{}, {}, {}, {}, {}, {}, {}, {}, {}, {}, {}, { c := [63] }, {}]) rfl (by kernel_rfl) rfl fun K hK => ?_;refine mvQ ?_;refine mvQ ?_;refine s_indexAddr rfl (x_mt rfl rfl rfl rfl rfl ei) rfl ?_;refine ldQ ?_;refine mvQ ?_;refine mvQ ?_;refine s_indexAddr rfl (x_n rfl rfl rfl rfl rfl hjs) rfl ?_;refine ldQ ?_;refine s_indexAddr rfl (x_v rfl rfl rfl rfl rfl ej) rfl ?_;refine ldQ ?_;refine s_call rfl rfl (cN2) rfl rfl rfl rfl ?_;refine s_alloc rfl rfl rfl rfl rfl rfl ?_;refine s_store rfl rfl rfl rfl rfl ?_;refine s_end (hK _ ?_); clear hK K;refine AWP_seq ?_;refine AWP_reg_seq tok fun K hK => ?_;refine mvQ ?_;refine mvQ ?_;refine s_end (hK _ ?_); clear hK K;refine AWP_block (a_loop (α := Nat) (fun k => mk 121 [(0, V1 (dMs (matW s s F))), (1, V1 (.sl (nmD s e))), (7, ownN 200 1 (i0 + 1)), (8, ownN 201 4 (i0 + 1)), (10, dI (e (i0 + 1))), (11, .val (.one (.own 26 4 0 s))), (13, .ptr 13 0), (14, dI j), (15, .ptr 15 0), (17, V1 (.sl (nmD s e))), (18, dI s), (19, dI (i0 + 1 : Nat)), (49, dI (i0 + 1 : Nat)), (50, dI j), (64, dI j), (65, dI k)] [(13, some (.box (qzW (B (i0 + 1) (i0 + 1) - sm j fun t => LL B (i0 + 1) t * LL B (i0 + 1) t * DD B t)).cs)), (15, some (.box (qzW (B (i0 + 1) j - sm k fun t => LL B (i0 + 1) t * LL B j t * DD B t)).cs)), (26, some (.arr 4 (rowD s (rG B (i0 + 1) j)))), (200, arrN 1 es (i0 + 1)), (201, arrN 4 (rowD (i0 + 1) fun r => qzW (DD B r)) (i0 + 1))] []) (fun k => k ≤ j) (fun k => j - k) 0 ?_ (Nat.zero_le _) ?_)
      · refine Wk.mk' ⟨rfl, rfl, rfl, rfl, rfl, rfl, rfl, rfl, rfl, rfl, rfl, rfl, rfl, rfl, rfl, rfl, trivial⟩ ⟨rfl, ?_, rfl, rfl, rfl, trivial⟩;rw [ps_zero]; rfl
      intro k hk
      refine AWP_reg_seq tok fun K hK => ?_;refine biQ ?_;refine s_end (hK _ ?_); clear hK K;refine AWP_seq ?_;refine a_cond rfl (fun hc => ?_) (fun hc => ?_)
      · have hc : k < j := by simp at hc; omega
        have qk := (hS k (by omega) fun k' hk' => hI k' (by omega)).1
        have cm := qMul_t (qzW (LL B (i0 + 1) k)) (qzW (LL B j k)) (LL B (i0 + 1) k * LL B j k) ((qzW_ok (qL k (by omega))).mono rfl) ((qzW_ok (qLj k hc)).mono rfl) (by rw [qzW_v, qzW_v])
        have cl := sLess_c (qzW (B (i0 + 1) j - sm k fun t => LL B (i0 + 1) t * LL B j t * DD B t)) (qzW (LL B (i0 + 1) k * LL B j k)) (qzW (DD B k)) (B (i0 + 1) j - sm (k + 1) fun t => LL B (i0 + 1) t * LL B j t * DD B t) ((qzW_ok (hbx k (by omega))).mono rfl) ((qzW_ok (ql_mul_le (qL k (by omega)) (qLj k hc))).mono rfl) ((qzW_ok qk).mono rfl) (by rw [qzW_v, qzW_v, qzW_v]; exact ps_succ _ _ _ rfl)
        refine AWP_skip ?_;show AWP _ _ _ _ _ _;refine AWP_seq ?_;refine AWP_block ?_;refine AWP_reg_seq tok fun K hK => ?_;refine mvQ ?_;refine asQ ?_;refine s_end (hK _ ?_); clear hK K;refine a_draw1 tok mixed (A := [[], [], [], [], [1, 2], [], [], [], [5, 6], [], [5, 6, 7], [5, 6, 7, 8, 9], [1, 2, 3, 5, 6, 7, 8, 9, 10], [], [], [], [13, 14], [1, 2, 3, 4, 5, 6, 7, 8, 9, 10, 11, 13, 14, 15], []]) (an := [{}, {}, {}, {}, {}, {}, {}, {}, {}, {}, {}, {}, {}, { c := [80] }, { c := [80] }, { c := [80] }, { c := [80] }, {}, {}]) rfl (by kernel_rfl) rfl fun K hK => ?_;refine ldQ ?_;refine mvQ ?_;refine mvQ ?_;refine s_indexAddr rfl (x_o (i := k) (j := k) rfl rfl rfl rfl rfl (show k < s by omega) (Nat.zero_add _)) rfl ?_;refine s_load rfl (l_qv rfl rfl rfl rfl (show k < s by omega) (if_pos hc)) rfl ?_;refine mvQ ?_;refine mvQ ?_;refine s_indexAddr rfl (x_o (i := j) (j := j) rfl rfl rfl rfl rfl hf (Nat.zero_add _)) rfl ?_;refine s_load rfl (l_o rfl rfl (g1 j hf) rfl rfl) rfl ?_;refine mvQ ?_;refine s_indexAddr rfl (x_v rfl rfl rfl rfl rfl (show k < s by omega)) rfl ?_;refine ldQ ?_;refine s_call rfl rfl (cm) rfl rfl rfl rfl ?_;refine mvQ ?_;refine mvQ ?_;refine s_indexAddr rfl (x_o (i := k) (j := k) rfl rfl rfl rfl rfl (show k < i0 + 1 by omega) (Nat.zero_add _)) rfl ?_;refine s_load rfl (l_qv rfl rfl rfl rfl (show k < i0 + 1 by omega) rfl) rfl ?_;refine s_call rfl rfl (cl) rfl rfl rfl rfl ?_;refine s_store rfl rfl rfl rfl rfl ?_;refine s_end (hK _ ?_); clear hK K;show AWP _ _ _ _ _ _;refine AWP_reg tok fun K hK => ?_;refine s_bin rfl (e_add (c := ((k + 1 : Nat) : Int)) (by omega) (by omega)) rfl ?_;refine mvQ ?_;refine s_end (hK _ ?_); clear hK K;exact ⟨k + 1, by omega, hc, Wk.mk' ⟨rfl, rfl, rfl, rfl, rfl, rfl, rfl, rfl, rfl, rfl, rfl, rfl, rfl, rfl, rfl, rfl, trivial⟩ ⟨rfl, rfl, rfl, rfl, rfl, trivial⟩⟩
      have hc : k = j := by simp at hc; omega
      subst hc
      refine AWP_exit ?_;show AWP _ _ _ _ _ _;rw [hlx]
      have ox := ql_mul_le (qL k hf) qDj
      have cd := qDiv_t (qzW (LL B (i0 + 1) k * DD B k)) (qzW (DD B k)) (LL B (i0 + 1) k) ((qzW_ok ox).mono rfl) ((qzW_ok qDj).mono rfl) (by rw [qzW_v]; grind) (by rw [qzW_v, qzW_v]; grind)
      have cl := sLess_c (qzW (B (i0 + 1) (i0 + 1) - sm k fun t => LL B (i0 + 1) t * LL B (i0 + 1) t * DD B t)) (qzW (LL B (i0 + 1) k * DD B k)) (qzW (LL B (i0 + 1) k)) (B (i0 + 1) (i0 + 1) - sm (k + 1) fun t => LL B (i0 + 1) t * LL B (i0 + 1) t * DD B t) ((qzW_ok hbr).mono rfl) ((qzW_ok ox).mono rfl) ((qzW_ok (qL k hf)).mono rfl) (by rw [qzW_v, qzW_v, qzW_v]; exact hr0)
      refine a_draw tok mixed (A := [[], [], [], [], [], [], [3, 4], [3, 4, 5], [2, 3, 4, 5, 6], [2, 3, 4, 5, 6, 7], [2, 3, 4, 5, 6, 7], [], []]) (an := [{}, {}, {}, {}, {}, {}, {}, {}, {}, {}, {}, {}, {}]) rfl (by kernel_rfl) rfl fun K hK => ?_;refine mvQ ?_;refine mvQ ?_;refine ldQ ?_;refine mvQ ?_;refine mvQ ?_;refine s_indexAddr rfl (x_o (i := k) (j := k) rfl rfl rfl rfl rfl hf (Nat.zero_add _)) rfl ?_;refine s_load rfl (l_qv rfl rfl rfl rfl hf rfl) rfl ?_;refine s_call rfl rfl (cd) rfl rfl rfl rfl ?_;refine mvQ ?_;refine s_extract rfl rfl rfl ?_;refine s_extract rfl rfl rfl ?_;refine s_indexAddr rfl (x_o (i := k) (j := k) rfl rfl rfl rfl rfl hjs (Nat.zero_add _)) rfl ?_;refine s_store rfl (st_q (qzW (LL B (i0 + 1) k)) rfl rfl rfl hjs) rfl rfl rfl ?_;refine s_end (hK _ ?_); clear hK K;rw [rowD_rs];refine a_draw1 tok mixed (A := [[], [], [], [], [], [2, 3], [2, 3, 4], []]) (an := [{}, {}, {}, {}, {}, {}, {}, {}]) rfl (by kernel_rfl) rfl fun K hK => ?_;refine ldQ ?_;refine ldQ ?_;refine mvQ ?_;refine mvQ ?_;refine s_indexAddr rfl (x_o (i := k) (j := k) rfl rfl rfl rfl rfl hjs (Nat.zero_add _)) rfl ?_;refine s_load rfl (l_qv rfl rfl rfl rfl hjs (if_pos (Nat.lt_succ_self k))) rfl ?_;refine s_call rfl rfl (cl) rfl rfl rfl rfl ?_;refine s_store rfl rfl rfl rfl rfl ?_;refine s_end (hK _ ?_); clear hK K;show AWP _ _ _ _ _ _;refine AWP_reg tok fun K hK => ?_;refine s_bin rfl (e_add (c := ((k + 1 : Nat) : Int)) (by omega) (by omega)) rfl ?_;refine mvQ ?_;refine s_end (hK _ ?_); clear hK K;exact ⟨k + 1, by omega, hf, Wk.mk' ⟨rfl, rfl, rfl, rfl, rfl, rfl, rfl, rfl, rfl, rfl, rfl, rfl, trivial⟩ ⟨rfl, rfl, rfl, rfl, trivial⟩⟩
    have hf : j = i := by simp at hf; omega
    subst hf
    refine AWP_exit ?_;show AWP _ _ _ _ _ _;rw [← DD_eq B j, rowD_rn]
    have cs := qSign_t (qzW (DD B j)) ((qzW_ok qD).mono rfl)
    rw [qzW_v] at cs;refine AWP_seq ?_;refine AWP_reg_seq tok fun K hK => ?_;refine ldQ ?_;refine s_call rfl rfl (cs) rfl rfl rfl rfl ?_;refine biQ ?_;refine s_end (hK _ ?_); clear hK K;refine a_cond rfl (fun hd => ?_) (fun hd => ?_)
    · have hd : ¬ 0 < DD B j := qSign_le.1 (of_decide_eq_true hd)
      have ef : facV B s = ([], [], false) := by rw [facV, if_neg]; simp only [posB, decide_eq_true_eq]; exact fun h => hd (h j hg)
      rw [ef];refine AWP_reg_seq tok fun K hK => ?_;refine asQ ?_;refine asQ ?_;refine asQ ?_;refine s_end (hK _ ?_); clear hK K;refine AWP_ret ?_
      repeat (with_reducible refine tq_ret ?_)
      exact post_ret (fin_mk (by rfl) (by rfl) (by rfl))
    · have hd : 0 < DD B j := by
        have := of_decide_eq_false hd
        exact Classical.byContradiction fun h => this (qSign_le.2 h)
      refine AWP_skip ?_;show AWP _ _ _ _ _ _
      rcases j with _ | j
      · refine a_fz [0, 1, 7, 8, 11, 13, 17, 18, 19] [13, 26, 200, 201] 26 [(0, V1 (dMs (matW s s F))), (1, V1 (.sl (nmD s e))), (7, ownN 200 1 (0)), (8, ownN 201 4 (0)), (11, V1 (dRs (vecW s fun c => qzW (LL B (0) c)))), (13, .ptr 13 0), (17, V1 (.sl (nmD s e))), (18, dI s), (19, dI (0 : Nat))] [(13, some (.box (qzW (DD B (0))).cs)), (200, arrN 1 es (0)), (201, arrN 4 (rowD (0) fun r => qzW (DD B r)) (0))] rfl ?_ ⟨rfl, rfl, rfl, trivial⟩ ?_
        · exact ⟨rfl, rfl, rfl, rfl, frz_own (vec_dc s _).symm (by simp [vecW]), rfl, rfl, rfl, rfl, trivial⟩
        refine a_draw1 tok mixed (A := [[], [], [], [1], [], [], [], [0, 1, 2, 5], [4, 5, 6], []]) (an := [{}, {}, {}, {}, { c := [112, 113] }, { c := [112, 113] }, { c := [112, 113] }, {}, {}, {}]) rfl (by kernel_rfl) rfl fun K hK => ?_;refine mvQ ?_;refine mvQ ?_;refine s_buildSlice rfl rfl rfl rfl ?_;refine s_append rfl (ap_nil rfl rfl rfl rfl rfl (by decide) (Nat.le_of_ble_eq_true rfl) rfl (by simp) rfl (by simp) (by simp)) rfl rfl rfl ?_;refine mvQ ?_;refine ldQ ?_;refine s_buildSlice rfl rfl rfl rfl ?_;refine s_append rfl (ap_nil rfl rfl rfl rfl rfl (by decide) (Nat.le_of_ble_eq_true rfl) rfl (by simp) rfl (by simp) (by simp)) rfl rfl rfl ?_;refine asQ ?_;refine asQ ?_;refine s_end (hK _ ?_); clear hK K;refine a_rn [0, 1, 7, 8, 17, 18, 19] [113, 117] 113 200 [(0, V1 (dMs (matW s s F))), (1, V1 (.sl (nmD s e))), (7, ownN 200 1 (0 + 1)), (8, ownN 117 4 (0 + 1)), (17, V1 (.sl (nmD s e))), (18, dI s), (19, dI (0 : Nat))] [(200, arrN 1 ((matW (0 + 1) s fun r c => qzW (LL B r c)).map cM) (0 + 1)), (117, arrN 4 (rowD (0 + 1) fun r => qzW (DD B r)) (0 + 1))] rfl rfl rfl ⟨rfl, rfl, ?_, ?_, rfl, rfl, rfl, trivial⟩ ⟨?_, ?_, trivial⟩ ?_
        · show SV.val (.one (.own 200 1 0 _)) = _
          first
            | rfl
            | (rw [List.length_append, z1]; rfl)
        · show SV.val (.one (.own 117 4 0 _)) = _
          first
            | rfl
            | (rw [List.length_append, z2]; rfl)
        · first
            | (rw [← n1, List.length_eq_zero_iff.1 z1]; rfl)
            | (rw [← n1]; rfl)
        · first
            | (rw [← n2, List.length_eq_zero_iff.1 z2]; rfl)
            | (rw [← n2]; rfl)
        show AWP _ _ _ _ _ _;refine AWP_reg tok fun K hK => ?_;refine s_bin rfl (e_add (c := ((0 + 1 : Nat) : Int)) (by omega) (by omega)) rfl ?_;refine mvQ ?_;refine s_end (hK _ ?_); clear hK K;refine ⟨0 + 1, by omega, ⟨hg, fun k hk => ?_⟩, Wk.rn [0, 1, 7, 8, 17, 18, 19] [200, 117] 117 201 rfl rfl rfl ⟨rfl, rfl, rfl, rfl, rfl, rfl, rfl, trivial⟩ ⟨rfl, rfl, trivial⟩⟩
        by_cases e : k = 0
        · rw [e]; exact hd
        · exact hI k (by omega)
      · refine a_fz [0, 1, 7, 8, 11, 13, 17, 18, 19] [13, 26, 200, 201] 26 [(0, V1 (dMs (matW s s F))), (1, V1 (.sl (nmD s e))), (7, ownN 200 1 (j + 1)), (8, ownN 201 4 (j + 1)), (11, V1 (dRs (vecW s fun c => qzW (LL B (j + 1) c)))), (13, .ptr 13 0), (17, V1 (.sl (nmD s e))), (18, dI s), (19, dI (j + 1 : Nat))] [(13, some (.box (qzW (DD B (j + 1))).cs)), (200, arrN 1 es (j + 1)), (201, arrN 4 (rowD (j + 1) fun r => qzW (DD B r)) (j + 1))] rfl ?_ ⟨rfl, rfl, rfl, trivial⟩ ?_
        · exact ⟨rfl, rfl, rfl, rfl, frz_own (vec_dc s _).symm (by simp [vecW]), rfl, rfl, rfl, rfl, trivial⟩
        refine a_draw1 tok mixed (A := [[], [], [], [1], [], [], [], [0, 1, 2, 5], [4, 5, 6], []]) (an := [{}, {}, {}, {}, { c := [112, 113] }, { c := [112, 113] }, { c := [112, 113] }, {}, {}, {}]) rfl (by kernel_rfl) rfl fun K hK => ?_;refine mvQ ?_;refine mvQ ?_;refine s_buildSlice rfl rfl rfl rfl ?_;refine s_append rfl (ap_o rfl rfl rfl rfl rfl rfl (by decide) (Nat.le_of_ble_eq_true rfl) rfl (by simp) rfl rfl z1.symm (by simp <;> omega)) rfl rfl rfl ?_;refine mvQ ?_;refine ldQ ?_;refine s_buildSlice rfl rfl rfl rfl ?_;refine s_append rfl (ap_o rfl rfl rfl rfl rfl rfl (by decide) (Nat.le_of_ble_eq_true rfl) rfl (by simp) rfl rfl z2.symm (by simp <;> omega)) rfl rfl rfl ?_;refine asQ ?_;refine asQ ?_;refine s_end (hK _ ?_); clear hK K;refine a_rn [0, 1, 7, 8, 17, 18, 19] [113, 117] 113 200 [(0, V1 (dMs (matW s s F))), (1, V1 (.sl (nmD s e))), (7, ownN 200 1 (j + 1 + 1)), (8, ownN 117 4 (j + 1 + 1)), (17, V1 (.sl (nmD s e))), (18, dI s), (19, dI (j + 1 : Nat))] [(200, arrN 1 ((matW (j + 1 + 1) s fun r c => qzW (LL B r c)).map cM) (j + 1 + 1)), (117, arrN 4 (rowD (j + 1 + 1) fun r => qzW (DD B r)) (j + 1 + 1))] rfl rfl rfl ⟨rfl, rfl, ?_, ?_, rfl, rfl, rfl, trivial⟩ ⟨?_, ?_, trivial⟩ ?_
        · show SV.val (.one (.own 200 1 0 _)) = _
          first
            | rfl
            | (rw [List.length_append, z1]; rfl)
        · show SV.val (.one (.own 117 4 0 _)) = _
          first
            | rfl
            | (rw [List.length_append, z2]; rfl)
        · first
            | (rw [← n1, List.length_eq_zero_iff.1 z1]; rfl)
            | (rw [← n1]; rfl)
        · first
            | (rw [← n2, List.length_eq_zero_iff.1 z2]; rfl)
            | (rw [← n2]; rfl)
        show AWP _ _ _ _ _ _;refine AWP_reg tok fun K hK => ?_;refine s_bin rfl (e_add (c := ((j + 1 + 1 : Nat) : Int)) (by omega) (by omega)) rfl ?_;refine mvQ ?_;refine s_end (hK _ ?_); clear hK K;refine ⟨j + 1 + 1, by omega, ⟨hg, fun k hk => ?_⟩, Wk.rn [0, 1, 7, 8, 17, 18, 19] [200, 117] 117 201 rfl rfl rfl ⟨rfl, rfl, rfl, rfl, rfl, rfl, rfl, trivial⟩ ⟨rfl, rfl, trivial⟩⟩
        by_cases e : k = j + 1
        · rw [e]; exact hd
        · exact hI k (by omega)
  have hg : i = n := by simp at hg; omega
  subst hg
  refine AWP_exit ?_;show AWP _ _ _ _ _ _
  have ef : facV B i = (facL B i, facD B i, true) := by rw [facV, if_pos]; simp only [posB, decide_eq_true_eq]; exact hI
  rw [ef]
  rcases i with _ | i
  · refine AWP_reg_seq tok fun K hK => ?_;refine mvQ ?_;refine mvQ ?_;refine asQ ?_;refine asQ ?_;refine asQ ?_;refine s_end (hK _ ?_); clear hK K;refine AWP_ret ?_
    repeat (with_reducible refine tq_ret ?_)
    exact post_ret (fin_mk (by rfl) (by rfl) (by rfl))
  · refine a_fz [7, 8] [200, 201] 200 [(7, V1 (dMs (facL B (i + 1)))), (8, ownN 201 4 (i + 1))] [(201, arrN 4 (rowD (i + 1) fun r => qzW (DD B r)) (i + 1))] rfl ?_ ⟨rfl, trivial⟩ ?_
    · exact ⟨frz_own rfl (matW_mlength _ _ _).symm, rfl, trivial⟩
    refine a_fz [7, 8] [201] 201 [(7, V1 (dMs (facL B (i + 1)))), (8, V1 (dRs (facD B (i + 1))))] [] rfl ?_ trivial ?_
    · exact ⟨rfl, frz_own (vec_dc _ _).symm (by simp [facD, vecW]), trivial⟩
    refine AWP_reg_seq tok fun K hK => ?_;refine mvQ ?_;refine mvQ ?_;refine asQ ?_;refine asQ ?_;refine asQ ?_;refine s_end (hK _ ?_); clear hK K;refine AWP_ret ?_
    repeat (with_reducible refine tq_ret ?_)
    exact post_ret (fin_mk (by rfl) (by rfl) (by rfl))
end Go.Proofs.YtgopibpkgmafiaaGreat

/- Systems of equations. No condition. -/
namespace Go.Proofs.YtgopibpkgmafiaaGreat
attribute [local irreducible] lexA

theorem bsx_val {L : Nat → Nat → Rat} {b : Nat → Rat} {n m : Nat} (hm : m < n) : bsx L b n n m = b m - sm n (fun j => if m < j then L j m * bsx L b n n j else 0) := by
  rw [bsx_keep L b (m := n) (s := n - m) (by omega) (by omega)]
  obtain ⟨s, hs⟩ : ∃ s, n - m = s + 1 := ⟨n - m - 1, by omega⟩
  rw [hs];simp only [bsx]
  rw [if_pos (by omega), sm_congr (f := fun j => if m < j then L j m * bsx L b n s j else 0) (g := fun j => if m < j then L j m * bsx L b n n j else 0) (fun j hj => by
    by_cases h : m < j
    · rw [if_pos h, if_pos h, bsx_keep L b (m := n) (s := s) (i := j) (by omega) (by omega)]
    · rw [if_neg h, if_neg h])]
theorem ql_div_le {x y : Rat} {k l : Nat} (hx : ql x ≤ k) (hy : ql y ≤ l) : ql (x / y) ≤ k + l := by
  by_cases h : y = 0
  · subst h
    have : x / 0 = 0 := by rw [Rat.div_def, Rat.inv_zero, Rat.mul_zero]
    rw [this]
    have h1 := ql_pos x
    exact Nat.le_trans ql_zero (by omega)
  · have h1 := (ivW_ok hy).ql (k := l) (Nat.ble_eq_true_of_le (Nat.le_trans (ql_pos y) hy))
    rw [ivW_v] at h1;rw [Rat.div_def];exact ql_mul_le hx h1
def rhsV (b : List RW) (i : Nat) : Rat := (b.getD i rw00).v
def matV (m : List (List RW)) (i j : Nat) : Rat := (mtv m i j).v
def slvL (B : Nat → Nat → Rat) (b : Nat → Rat) (n : Nat) : List RW := vecW n fun i => qzW (slv B b n i)
def solveV (m : List (List RW)) (b : List RW) : List RW × Int :=
  if validM m = true ∧ b.length = m.length then (if posB (matV m) m.length then (slvL (matV m) (rhsV b) m.length, 0) else ([], 10)) else ([], 1)
def solS (B : Nat → Nat → Rat) (b : Nat → Rat) (n : Nat) : Prop := (∀ i, i < n → ql (fwv (LL B) b i) ≤ 655360) ∧ ∀ i, i < n → ql (slv B b n i) ≤ 65536
theorem vecW_of {b : List RW} {n : Nat} (hn : b.length = n) : b = vecW n fun i => b.getD i rw00 := by
  apply List.ext_getElem?
  intro i
  rcases Nat.lt_or_ge i n with hi | hi
  · have : i < b.length := by omega
    simp [vecW, hi, this]
  · rw [List.getElem?_eq_none (by omega), List.getElem?_eq_none (by simp [vecW]; omega)]
section
variable (B : Nat → Nat → Rat) (b : Nat → Rat)
def fwG (i t : Nat) : RW := if t < i then qzW (fwv (LL B) b t) else rw00
def fwR (i k t : Nat) : RW := if t < i then qzW (fwv (LL B) b t) else if t = i then qzW (b i - sm k fun j => LL B i j * fwv (LL B) b j) else rw00
def dvG (i t : Nat) : RW := if t < i then qzW (fwv (LL B) b t / DD B t) else qzW (fwv (LL B) b t)
def bkG (n s t : Nat) : RW := if n ≤ t + s then qzW (slv B b n t) else qzW (fwv (LL B) b t / DD B t)
def bkF (n i j : Nat) : Rat := if i < j then LL B j i * slv B b n j else 0
def bkR (n i m t : Nat) : RW := if i < t then qzW (slv B b n t) else if t = i then qzW (fwv (LL B) b i / DD B i - sm m (bkF B b n i)) else qzW (fwv (LL B) b t / DD B t)
theorem fw0 (n : Nat) : List.replicate n rw00.dc = rowD n (fwG B b 0) := by rw [rowD_zero]; exact rowD_congr fun i _ => by simp [fwG]
theorem fw1 (n i : Nat) : rowD n (updW (fwG B b i) i (qzW (b i))) = rowD n (fwR B b i 0) := rowD_congr fun t _ => by
  simp only [updW, fwG, fwR]
  by_cases h : t = i
  · rw [if_pos h, if_neg (by omega), if_pos h, ps_zero]
  · rw [if_neg h, if_neg h]
theorem fw2 (n i k : Nat) : rowD n (updW (fwR B b i k) i (qzW (b i - sm (k + 1) fun j => LL B i j * fwv (LL B) b j))) = rowD n (fwR B b i (k + 1)) := rowD_congr fun t _ => by
  simp only [updW, fwR]
  by_cases h : t = i
  · rw [if_pos h, if_neg (by omega), if_pos h]
  · rw [if_neg h, if_neg h, if_neg h]
theorem fw3 (n i : Nat) : rowD n (fwR B b i i) = rowD n (fwG B b (i + 1)) := rowD_congr fun t _ => by
  simp only [fwR, fwG];rw [← fwv_eq]
  by_cases h : t < i
  · rw [if_pos h, if_pos (by omega)]
  · rw [if_neg h]
    by_cases h2 : t = i
    · rw [if_pos h2, if_pos (by omega), h2]
    · rw [if_neg h2, if_neg (by omega)]
theorem dv0 (n : Nat) : rowD n (fwG B b n) = rowD n (dvG B b 0) := rowD_congr fun t ht => by simp [fwG, dvG, ht]
theorem dv1 (n i : Nat) : rowD n (updW (dvG B b i) i (qzW (fwv (LL B) b i / DD B i))) = rowD n (dvG B b (i + 1)) := rowD_congr fun t _ => by
  simp only [updW, dvG]
  by_cases h : t = i
  · rw [if_pos h, if_pos (by omega), h]
  · rw [if_neg h]
    by_cases h2 : t < i
    · rw [if_pos h2, if_pos (by omega)]
    · rw [if_neg h2, if_neg (by omega)]
theorem bk0 (n : Nat) : rowD n (dvG B b n) = rowD n (bkG B b n 0) := rowD_congr fun t ht => by
  simp only [dvG, bkG];rw [if_pos ht, if_neg (by omega)]
theorem bkF_zero (n i : Nat) : sm (i + 1) (bkF B b n i) = 0 := sm_zero' fun j hj => by simp only [bkF]; rw [if_neg (by omega)]
theorem bk1 {n i s : Nat} (h : n = i + s + 1) : rowD n (bkG B b n s) = rowD n (bkR B b n i (i + 1)) := rowD_congr fun t ht => by
  simp only [bkG, bkR];rw [bkF_zero]
  by_cases h1 : i < t
  · rw [if_pos (by omega), if_pos h1]
  · rw [if_neg (by omega), if_neg h1]
    by_cases h2 : t = i
    · rw [if_pos h2, h2]; congr 1; grind
    · rw [if_neg h2]
theorem bk2 (n i m : Nat) : rowD n (updW (bkR B b n i m) i (qzW (fwv (LL B) b i / DD B i - sm (m + 1) (bkF B b n i)))) = rowD n (bkR B b n i (m + 1)) := rowD_congr fun t _ => by
  simp only [updW, bkR]
  by_cases h : t = i
  · rw [if_pos h, if_neg (by omega), if_pos h]
  · rw [if_neg h, if_neg h, if_neg h]
theorem bk3 {n i s : Nat} (h : n = i + s + 1) : rowD n (bkR B b n i n) = rowD n (bkG B b n (s + 1)) := rowD_congr fun t ht => by
  have e : slv B b n i = fwv (LL B) b i / DD B i - sm n (bkF B b n i) := bsx_val (L := LL B) (b := fun k => fwv (LL B) b k / DD B k) (show i < n by omega)
  simp only [bkG, bkR];rw [← e]
  by_cases h1 : i < t
  · rw [if_pos h1, if_pos (by omega)]
  · rw [if_neg h1]
    by_cases h2 : t = i
    · rw [if_pos h2, if_pos (by omega), h2]
    · rw [if_neg h2, if_neg (by omega)]
theorem bk4 (n : Nat) : rowD n (bkG B b n n) = rowD n (fun i => qzW (slv B b n i)) := rowD_congr fun t _ => by
  simp only [bkG]; rw [if_pos (by omega)]
end

set_option maxHeartbeats 1000000 in
theorem sSolve_c (m : List (List RW)) (b : List RW) (hl : m.length ≤ 9223372036854775806) (hlb : b.length ≤ 9223372036854775806) (hr : ∀ r ∈ m, r.length ≤ 9223372036854775806) (ok : okM 65536 m) (ob : ∀ x ∈ b, x.OK 65536)
    (hF : validM m = true → b.length = m.length → facS (matV m) m.length ∧ (posB (matV m) m.length = true → solS (matV m) (rhsV b) m.length)) :
    Con Tryz.prog 53 [V1 (dMs m), V1 (dRs b)] { v := .tup [.one (.d (dRs (solveV m b).1)), .one (.d (lI (solveV m b).2))] } := by
  refine con_intro (fn := Tryz.f53) tok Tryz.func53 (by kernel_rfl) rfl ?_
  intro w0 X
  rw [entry_mkE _ _ [(0, V1 (dMs m)), (1, V1 (dRs b))] rfl rfl];refine AWP_reg_seq tok fun K hK => ?_;refine asQ ?_;refine asQ ?_;refine s_end (hK _ ?_); clear hK K;refine AWP_seq ?_;refine a_join (α := Bool) (fun c => mk 133 [(0, V1 (dMs m)), (1, V1 (dRs b)), (24, dB c)] [] []) (fun c => c = !(validM m && decide (b.length = m.length))) ?_ ?_
  · refine AWP_regW fun K hK => ?_;refine w_step tok rfl ?_;refine mvQ ?_;refine s_end ?_;refine w_step tok rfl ?_;refine s_call rfl rfl (sValid_c m hl hr ok) rfl rfl rfl rfl ?_;refine s_end ?_;refine w_step tok rfl ?_;refine s_un rfl rfl rfl ?_;refine s_end ?_;refine w_step tok rfl ?_;refine mvQ ?_;refine s_end ?_;refine w_split (fun h0 => ?_) (fun h0 => ?_)
    · refine w_skip rfl rfl ?_;refine w_skip rfl rfl ?_;refine w_skip rfl rfl ?_;refine w_skip rfl rfl ?_;refine w_skip rfl rfl ?_;refine w_step tok rfl ?_;refine piQ ?_;refine s_end ?_;refine w_end rfl (hK _ ?_); clear hK K;exact ⟨_, (by simp only [Bool.not_eq_true', Bool.not_eq_false'] at h0; rw [h0]; first|rfl|(rw [Bool.eq_iff_iff]; simp only [Bool.true_and, bne_iff_ne, ne_eq, Bool.not_eq_true', decide_eq_false_iff_not]; omega)), Wk.mk' ⟨rfl, rfl, rfl, trivial⟩ trivial⟩
    · refine w_step tok rfl ?_;refine mvQ ?_;refine s_end ?_;refine w_step tok rfl ?_;refine s_blt rfl (len_m RW.dc rfl rfl) rfl ?_;refine s_end ?_;refine w_step tok rfl ?_;refine mvQ ?_;refine s_end ?_;refine w_step tok rfl ?_;refine s_blt rfl (len_m cM rfl rfl) rfl ?_;refine s_end ?_;refine w_step tok rfl ?_;refine biQ ?_;refine s_end ?_;refine w_step tok rfl ?_;refine piQ ?_;refine s_end ?_;refine w_end rfl (hK _ ?_); clear hK K;exact ⟨_, (by simp only [Bool.not_eq_true', Bool.not_eq_false'] at h0; rw [h0]; first|rfl|(rw [Bool.eq_iff_iff]; simp only [Bool.true_and, bne_iff_ne, ne_eq, Bool.not_eq_true', decide_eq_false_iff_not]; omega)), Wk.mk' ⟨rfl, rfl, rfl, trivial⟩ trivial⟩
  rintro c rfl
  refine a_cond rfl (fun hc => ?_) (fun hc => ?_)
  · have e : solveV m b = ([], 1) := by rw [solveV, if_neg]; intro h; simp [h.1, h.2] at hc
    rw [e];refine AWP_reg_seq tok fun K hK => ?_;refine asQ ?_;refine asQ ?_;refine s_end (hK _ ?_); clear hK K;refine AWP_ret ?_
    repeat (with_reducible refine tq_ret ?_)
    exact post_ret (fin_mk (by rfl) (by rfl) (by rfl))
  have hc : validM m = true ∧ b.length = m.length := by simpa using hc
  obtain ⟨hF1, hF2⟩ := hF hc.1 hc.2
  rw [solveV, if_pos hc]
  have hV := of_decide_eq_true hc.1
  obtain ⟨hv1, hv2, _⟩ := hV
  obtain ⟨n, hn⟩ : ∃ n, m.length = n := ⟨_, rfl⟩
  have hm : m = matW n n (mtv m) := matW_of hn (fun r hr => (hv2 r hr).trans hn)
  have hbl : b.length = n := hc.2.trans hn
  have oF : ∀ i j, i < n → j < n → (mtv m i j).OK 65536 := fun i j hi hj => by rw [hm] at ok; exact okM_mat ok hi hj
  obtain ⟨G, hG⟩ : ∃ G : Nat → RW, G = fun i => b.getD i rw00 := ⟨_, rfl⟩
  have hb : b = vecW n G := by rw [hG]; exact vecW_of hbl
  have oG : ∀ i, i < n → (G i).OK 65536 := fun i hi => by
    have hib : i < b.length := by omega
    have : G i = b[i] := by rw [hG]; simp [hib]
    rw [this]; exact ob _ (List.getElem_mem hib)
  have hbv : ∀ i, rhsV b i = (G i).v := fun i => by rw [hG]; rfl
  rw [hn] at hF1 hF2 hv1
  have cF := sFactor_c n (mtv m) (fun i => i) hv1 (fun i hi => hi) oF hF1
  rw [← hm] at cF
  have eB : ordB (mtv m) (fun i => i) = matV m := rfl
  rw [eB] at cF;generalize rhsV b = bv at hF2 hbv ⊢;generalize matV m = B at cF hF1 hF2 ⊢;refine AWP_skip ?_;show AWP _ _ _ _ _ _;rw [hn];refine AWP_reg_seq tok fun K hK => ?_;refine mvQ ?_;refine mvQ ?_;refine s_blt rfl (len_d (n := n) rfl rfl (by rw [List.length_map]; exact hn)) rfl ?_;refine s_call rfl rfl (sStraight_c n (by omega)) rfl rfl rfl rfl ?_;refine s_call rfl rfl (cF) rfl rfl rfl rfl ?_;refine mvQ ?_;refine s_extract rfl rfl rfl ?_;refine s_extract rfl rfl rfl ?_;refine s_extract rfl rfl rfl ?_;refine asQ ?_;refine asQ ?_;refine asQ ?_;refine s_end (hK _ ?_); clear hK K
  cases hp : posB B n with
  | false =>
    have e : facV B n = ([], [], false) := by rw [facV, hp]; rfl
    rw [e];refine AWP_seq ?_;refine AWP_reg_seq tok fun K hK => ?_;refine mvQ ?_;refine s_un rfl rfl rfl ?_;refine s_end (hK _ ?_); clear hK K;refine a_cond rfl (fun _ => ?_) (fun h => by cases h);refine AWP_reg_seq tok fun K hK => ?_;refine asQ ?_;refine asQ ?_;refine s_end (hK _ ?_); clear hK K;refine AWP_ret ?_
    repeat (with_reducible refine tq_ret ?_)
    exact post_ret (fin_mk (by rfl) (by rfl) (by rfl))
  | true =>
  obtain ⟨hS1, hS2⟩ := hF2 hp
  have hD := of_decide_eq_true hp
  have e : facV B n = (facL B n, facD B n, true) := by rw [facV, hp]; rfl
  have qL : ∀ i j, i < n → j < i → ql (LL B i j) ≤ 65536 := fun i j hi hj => (hF1 i hi fun k hk => hD k (by omega)).2 j hj
  have qD : ∀ i, i < n → ql (DD B i) ≤ 65536 := fun i hi => (hF1 i hi fun k hk => hD k (by omega)).1
  rw [e];refine AWP_seq ?_;refine AWP_reg_seq tok fun K hK => ?_;refine mvQ ?_;refine s_un rfl rfl rfl ?_;refine s_end (hK _ ?_); clear hK K;refine a_cond rfl (fun h => by cases h) (fun _ => ?_);refine AWP_skip ?_;show AWP _ _ _ _ _ _;rw [hb];refine AWP_reg_seq tok fun K hK => ?_;refine mvQ ?_;refine s_blt rfl (len_v rfl rfl) rfl ?_;refine s_makeSlice (sz := _) (es := _) (f := _) (v := _) rfl (mk_a (l := n) rfl rfl rfl rfl rfl (Nat.le_of_ble_eq_true rfl) (by decide) rfl rfl (by omega)) rfl rfl ?_;refine asQ ?_;refine s_end (hK _ ?_); clear hK K;refine AWP_seq ?_;refine AWP_reg_seq tok fun K hK => ?_;refine mvQ ?_;refine s_blt rfl rfl rfl ?_;refine mvQ ?_;refine s_end (hK _ ?_); clear hK K;refine AWP_block (a_loop (α := Nat) (fun i => mk 133 [(1, V1 (dRs (vecW n G))), (6, V1 (dMs (facL B n))), (7, V1 (dRs (facD B n))), (9, .val (.one (.own 38 4 0 n))), (40, dI n), (41, dI i)] [(38, some (.arr 4 (rowD n (fwG B bv i))))] []) (fun i => i ≤ n) (fun i => n - i) 0 ?_ (Nat.zero_le _) ?_)
  · exact Wk.mk' ⟨rfl, rfl, rfl, rfl, rfl, rfl, trivial⟩ ⟨congrArg (fun x => some (OO.arr 4 x)) (fw0 B bv n), trivial⟩
  intro i hi
  refine AWP_reg_seq tok fun K hK => ?_;refine biQ ?_;refine s_end (hK _ ?_); clear hK K;refine AWP_seq ?_;refine a_cond rfl (fun hg => ?_) (fun hg => ?_)
  · have hg : i < n := by simp at hg; omega
    have c1 := qNorm_t (G i) ((oG i hg).mono rfl)
    have qb := (oG i hg).ql rfl
    rw [← hbv] at c1 qb
    have tf : ∀ j, j < i → ql (LL B i j * fwv (LL B) bv j) ≤ 720896 := fun j hj => Nat.le_trans (ql_mul_le (qL i j hg hj) (hS1 j (by omega))) (by decide)
    have qx : ∀ k, k ≤ i → ql (bv i - sm k fun j => LL B i j * fwv (LL B) bv j) ≤ 16777215 := fun k hk => Nat.le_trans (ql_ps qb k fun t ht => tf t (by omega)) (by
      have := Nat.mul_le_mul_right (720896 + 1) (show k ≤ 16 by omega)
      omega)
    refine AWP_skip ?_;show AWP _ _ _ _ _ _;refine AWP_seq ?_;refine AWP_block ?_;refine AWP_reg_seq tok fun K hK => ?_;refine mvQ ?_;refine asQ ?_;refine s_end (hK _ ?_); clear hK K;refine AWP_reg_seq tok fun K hK => ?_;refine mvQ ?_;refine mvQ ?_;refine mvQ ?_;refine mvQ ?_;refine s_indexAddr rfl (x_v rfl rfl rfl rfl rfl hg) rfl ?_;refine ldQ ?_;refine s_call rfl rfl (c1) rfl rfl rfl rfl ?_;refine s_indexAddr rfl (x_o (i := i) (j := i) rfl rfl rfl rfl rfl hg (Nat.zero_add _)) rfl ?_;refine s_store rfl (st_q (qzW (bv i)) rfl rfl rfl hg) rfl rfl rfl ?_;refine s_end (hK _ ?_); clear hK K;rw [fw1];refine AWP_reg_seq tok fun K hK => ?_;refine mvQ ?_;refine mvQ ?_;refine s_end (hK _ ?_); clear hK K;refine AWP_block (a_loop (α := Nat) (fun k => mk 133 [(1, V1 (dRs (vecW n G))), (6, V1 (dMs (facL B n))), (7, V1 (dRs (facD B n))), (9, .val (.one (.own 38 4 0 n))), (10, dI i), (40, dI n), (41, dI i), (52, dI i), (53, dI k)] [(38, some (.arr 4 (rowD n (fwR B bv i k))))] []) (fun k => k ≤ i) (fun k => i - k) 0 ?_ (Nat.zero_le _) ?_)
    · exact Wk.mk' ⟨rfl, rfl, rfl, rfl, rfl, rfl, rfl, rfl, rfl, trivial⟩ ⟨rfl, trivial⟩
    intro k hk
    refine AWP_reg_seq tok fun K hK => ?_;refine biQ ?_;refine s_end (hK _ ?_); clear hK K;refine AWP_seq ?_;refine a_cond rfl (fun hf => ?_) (fun hf => ?_)
    · have hf : k < i := by simp at hf; omega
      have cl := sLess_c (qzW (bv i - sm k fun j => LL B i j * fwv (LL B) bv j)) (qzW (LL B i k)) (qzW (fwv (LL B) bv k)) (bv i - sm (k + 1) fun j => LL B i j * fwv (LL B) bv j) (qzW_ok (qx k hk)) ((qzW_ok (qL i k hg hf)).mono rfl) ((qzW_ok (hS1 k (by omega))).mono rfl) (by rw [qzW_v, qzW_v, qzW_v]; exact ps_succ _ _ _ rfl)
      refine AWP_skip ?_;show AWP _ _ _ _ _ _;refine AWP_seq ?_;refine AWP_block ?_;refine AWP_reg_seq tok fun K hK => ?_;refine mvQ ?_;refine asQ ?_;refine s_end (hK _ ?_); clear hK K;refine a_draw1 tok mixed (A := [[], [], [], [], [], [2, 3], [], [], [], [6, 7], [], [6, 7, 8], [6, 7, 8, 9, 10], [], [], [], [13, 14], [2, 3, 4, 6, 7, 8, 9, 10, 11, 13, 14, 15], [], []]) (an := [{}, {}, {}, {}, {}, {}, {}, {}, {}, {}, {}, {}, {}, {}, {}, {}, {}, {}, {}, {}]) rfl (by kernel_rfl) rfl fun K hK => ?_;refine mvQ ?_;refine mvQ ?_;refine mvQ ?_;refine mvQ ?_;refine s_indexAddr rfl (x_o (i := i) (j := i) rfl rfl rfl rfl rfl hg (Nat.zero_add _)) rfl ?_;refine s_load rfl (l_qv (x := qzW (bv i - sm k fun j => LL B i j * fwv (LL B) bv j)) rfl rfl rfl rfl hg (by simp [fwR])) rfl ?_;refine mvQ ?_;refine mvQ ?_;refine s_indexAddr rfl (x_mt rfl rfl rfl rfl rfl hg) rfl ?_;refine ldQ ?_;refine mvQ ?_;refine s_indexAddr rfl (x_v rfl rfl rfl rfl rfl (show k < n by omega)) rfl ?_;refine ldQ ?_;refine mvQ ?_;refine mvQ ?_;refine s_indexAddr rfl (x_o (i := k) (j := k) rfl rfl rfl rfl rfl (show k < n by omega) (Nat.zero_add _)) rfl ?_;refine s_load rfl (l_qv (x := qzW (fwv (LL B) bv k)) rfl rfl rfl rfl (show k < n by omega) (if_pos hf)) rfl ?_;refine s_call rfl rfl (cl) rfl rfl rfl rfl ?_;refine s_indexAddr rfl (x_o (i := i) (j := i) rfl rfl rfl rfl rfl hg (Nat.zero_add _)) rfl ?_;refine s_store rfl (st_q (qzW (bv i - sm (k + 1) fun j => LL B i j * fwv (LL B) bv j)) rfl rfl rfl hg) rfl rfl rfl ?_;refine s_end (hK _ ?_); clear hK K;rw [fw2];show AWP _ _ _ _ _ _;refine AWP_reg tok fun K hK => ?_;refine s_bin rfl (e_add (c := ((k + 1 : Nat) : Int)) (by omega) (by omega)) rfl ?_;refine mvQ ?_;refine s_end (hK _ ?_); clear hK K;exact ⟨k + 1, by omega, hf, Wk.mk' ⟨rfl, rfl, rfl, rfl, rfl, rfl, rfl, rfl, rfl, trivial⟩ ⟨rfl, trivial⟩⟩
    have hf : k = i := by simp at hf; omega
    subst hf
    refine AWP_exit ?_;show AWP _ _ _ _ _ _;rw [fw3];refine AWP_reg tok fun K hK => ?_;refine s_bin rfl (e_add (c := ((k + 1 : Nat) : Int)) (by omega) (by omega)) rfl ?_;refine mvQ ?_;refine s_end (hK _ ?_); clear hK K;exact ⟨k + 1, by omega, hg, Wk.mk' ⟨rfl, rfl, rfl, rfl, rfl, rfl, trivial⟩ ⟨rfl, trivial⟩⟩
  have hg : i = n := by simp at hg; omega
  subst hg
  refine AWP_exit ?_;show AWP _ _ _ _ _ _;rw [dv0];refine AWP_seq ?_;refine AWP_reg_seq tok fun K hK => ?_;refine mvQ ?_;refine s_blt rfl rfl rfl ?_;refine mvQ ?_;refine s_end (hK _ ?_); clear hK K;refine AWP_block (a_loop (α := Nat) (fun k => mk 133 [(6, V1 (dMs (facL B i))), (7, V1 (dRs (facD B i))), (9, .val (.one (.own 38 4 0 i))), (78, dI i), (79, dI k)] [(38, some (.arr 4 (rowD i (dvG B bv k))))] []) (fun k => k ≤ i) (fun k => i - k) 0 ?_ (Nat.zero_le _) ?_)
  · exact Wk.mk' ⟨rfl, rfl, rfl, rfl, rfl, trivial⟩ ⟨rfl, trivial⟩
  intro k hk
  refine AWP_reg_seq tok fun K hK => ?_;refine biQ ?_;refine s_end (hK _ ?_); clear hK K;refine AWP_seq ?_;refine a_cond rfl (fun hf => ?_) (fun hf => ?_)
  · have hf : k < i := by simp at hf; omega
    have dk := hD k hf
    have cd := qDiv_t (qzW (fwv (LL B) bv k)) (qzW (DD B k)) (fwv (LL B) bv k / DD B k) ((qzW_ok (hS1 k hf)).mono rfl) ((qzW_ok (qD k hf)).mono rfl) (by rw [qzW_v]; grind) (by rw [qzW_v, qzW_v])
    refine AWP_skip ?_;show AWP _ _ _ _ _ _;refine AWP_seq ?_;refine AWP_block ?_;refine AWP_reg_seq tok fun K hK => ?_;refine mvQ ?_;refine asQ ?_;refine s_end (hK _ ?_); clear hK K;refine a_draw1 tok mixed (A := [[], [], [], [], [], [2, 3], [], [], [], [6, 7], [2, 3, 4, 6, 7, 8], [2, 3, 4, 5, 6, 7, 8, 9], [2, 3, 4, 5, 6, 7, 8, 9, 10], [2, 3, 4, 5, 6, 7, 8, 9, 10], [], []]) (an := [{}, {}, {}, {}, {}, {}, {}, {}, {}, {}, {}, {}, {}, {}, {}, {}]) rfl (by kernel_rfl) rfl fun K hK => ?_;refine mvQ ?_;refine mvQ ?_;refine mvQ ?_;refine mvQ ?_;refine s_indexAddr rfl (x_o (i := k) (j := k) rfl rfl rfl rfl rfl hf (Nat.zero_add _)) rfl ?_;refine s_load rfl (l_qv (x := qzW (fwv (LL B) bv k)) rfl rfl rfl rfl hf (if_neg (Nat.lt_irrefl k))) rfl ?_;refine mvQ ?_;refine mvQ ?_;refine s_indexAddr rfl (x_v rfl rfl rfl rfl rfl hf) rfl ?_;refine ldQ ?_;refine s_call rfl rfl (cd) rfl rfl rfl rfl ?_;refine mvQ ?_;refine s_extract rfl rfl rfl ?_;refine s_extract rfl rfl rfl ?_;refine s_indexAddr rfl (x_o (i := k) (j := k) rfl rfl rfl rfl rfl hf (Nat.zero_add _)) rfl ?_;refine s_store rfl (st_q (qzW (fwv (LL B) bv k / DD B k)) rfl rfl rfl hf) rfl rfl rfl ?_;refine s_end (hK _ ?_); clear hK K;rw [dv1];show AWP _ _ _ _ _ _;refine AWP_reg tok fun K hK => ?_;refine s_bin rfl (e_add (c := ((k + 1 : Nat) : Int)) (by omega) (by omega)) rfl ?_;refine mvQ ?_;refine s_end (hK _ ?_); clear hK K;exact ⟨k + 1, by omega, hf, Wk.mk' ⟨rfl, rfl, rfl, rfl, rfl, trivial⟩ ⟨rfl, trivial⟩⟩
  have hf : k = i := by simp at hf; omega
  subst hf
  refine AWP_exit ?_;show AWP _ _ _ _ _ _;rw [bk0]
  have qc : ∀ i, i < k → ql (fwv (LL B) bv i / DD B i) ≤ 720896 := fun i hi => ql_div_le (hS1 i hi) (qD i hi)
  refine AWP_seq ?_;refine AWP_reg_seq tok fun K hK => ?_;refine mvQ ?_;refine s_blt rfl rfl rfl ?_;refine s_bin rfl (e_sub (c := (k : Int) - 1 - (0 : Nat)) (by omega) (by omega)) rfl ?_;refine asQ ?_;refine s_end (hK _ ?_); clear hK K;refine AWP_block (a_loop (α := Nat) (fun s => mk 133 [(6, V1 (dMs (facL B k))), (9, .val (.one (.own 38 4 0 k))), (13, dI ((k : Int) - 1 - s))] [(38, some (.arr 4 (rowD k (bkG B bv k s))))] []) (fun s => s ≤ k) (fun s => k - s) 0 ?_ (Nat.zero_le _) ?_)
  · exact Wk.mk' ⟨rfl, rfl, rfl, trivial⟩ ⟨rfl, trivial⟩
  intro s hs
  refine AWP_seq ?_;refine AWP_reg_seq tok fun K hK => ?_;refine mvQ ?_;refine biQ ?_;refine s_end (hK _ ?_); clear hK K;refine a_cond rfl (fun hd => ?_) (fun hd => ?_)
  · obtain ⟨j, hj⟩ : ∃ j, k = j + s + 1 := ⟨k - s - 1, by simp at hd; omega⟩
    have hjk : j < k := by omega
    have ej : (k : Int) - 1 - s = (j : Int) := by omega
    rw [ej, bk1 B bv hj]
    have tg : ∀ t, t < k → ql (bkF B bv k j t) ≤ 131072 := fun t ht => by
      simp only [bkF]; split
      · exact Nat.le_trans (ql_mul_le (qL t j ht (by omega)) (hS2 t ht)) (by decide)
      · exact Nat.le_trans ql_zero (by decide)
    have qx : ∀ p, p ≤ k → ql (fwv (LL B) bv j / DD B j - sm p (bkF B bv k j)) ≤ 16777215 := fun p hp => Nat.le_trans (ql_ps (qc j hjk) p fun t ht => tg t (by omega)) (by
      have := Nat.mul_le_mul_right (131072 + 1) (show p ≤ 16 by omega)
      omega)
    refine AWP_skip ?_;show AWP _ _ _ _ _ _;refine AWP_seq ?_;refine AWP_block ?_;refine AWP_reg_seq tok fun K hK => ?_;refine mvQ ?_;refine s_bin rfl (e_add (c := ((j + 1 : Nat) : Int)) (by omega) (by omega)) rfl ?_;refine asQ ?_;refine s_end (hK _ ?_); clear hK K;refine AWP_block (a_loop (α := Nat) (fun p => mk 133 [(6, V1 (dMs (facL B k))), (9, .val (.one (.own 38 4 0 k))), (13, dI j), (14, dI p)] [(38, some (.arr 4 (rowD k (bkR B bv k j p))))] []) (fun p => j + 1 ≤ p ∧ p ≤ k) (fun p => k - p) (j + 1) ?_ ⟨Nat.le_refl _, hjk⟩ ?_)
    · exact Wk.mk' ⟨rfl, rfl, rfl, rfl, trivial⟩ ⟨rfl, trivial⟩
    rintro p ⟨hp1, hp2⟩
    refine AWP_seq ?_;refine AWP_reg_seq tok fun K hK => ?_;refine mvQ ?_;refine mvQ ?_;refine s_blt rfl rfl rfl ?_;refine biQ ?_;refine s_end (hK _ ?_); clear hK K;refine a_cond rfl (fun hx => ?_) (fun hx => ?_)
    · have hx : p < k := by simp at hx; omega
      have cl := sLess_c (qzW (fwv (LL B) bv j / DD B j - sm p (bkF B bv k j))) (qzW (LL B p j)) (qzW (slv B bv k p)) (fwv (LL B) bv j / DD B j - sm (p + 1) (bkF B bv k j)) (qzW_ok (qx p hp2)) ((qzW_ok (qL p j hx (by omega))).mono rfl) ((qzW_ok (hS2 p hx)).mono rfl) (by rw [qzW_v, qzW_v, qzW_v]; exact ps_succ _ _ _ (if_pos (by omega)))
      refine AWP_skip ?_;show AWP _ _ _ _ _ _;refine AWP_seq ?_;refine AWP_block ?_;refine a_draw1 tok mixed (A := [[], [], [], [], [], [2, 3], [], [], [], [6, 7], [], [6, 7, 8], [6, 7, 8, 9, 10], [], [], [], [13, 14], [2, 3, 4, 6, 7, 8, 9, 10, 11, 13, 14, 15], [], []]) (an := [{}, {}, {}, {}, {}, {}, {}, {}, {}, {}, {}, {}, {}, {}, {}, {}, {}, {}, {}, {}]) rfl (by kernel_rfl) rfl fun K hK => ?_;refine mvQ ?_;refine mvQ ?_;refine mvQ ?_;refine mvQ ?_;refine s_indexAddr rfl (x_o (i := j) (j := j) rfl rfl rfl rfl rfl hjk (Nat.zero_add _)) rfl ?_;refine s_load rfl (l_qv (x := qzW (fwv (LL B) bv j / DD B j - sm p (bkF B bv k j))) rfl rfl rfl rfl hjk (by simp [bkR])) rfl ?_;refine mvQ ?_;refine mvQ ?_;refine s_indexAddr rfl (x_mt rfl rfl rfl rfl rfl hx) rfl ?_;refine ldQ ?_;refine mvQ ?_;refine s_indexAddr rfl (x_v rfl rfl rfl rfl rfl hjk) rfl ?_;refine ldQ ?_;refine mvQ ?_;refine mvQ ?_;refine s_indexAddr rfl (x_o (i := p) (j := p) rfl rfl rfl rfl rfl hx (Nat.zero_add _)) rfl ?_;refine s_load rfl (l_qv (x := qzW (slv B bv k p)) rfl rfl rfl rfl hx (if_pos (by omega))) rfl ?_;refine s_call rfl rfl (cl) rfl rfl rfl rfl ?_;refine s_indexAddr rfl (x_o (i := j) (j := j) rfl rfl rfl rfl rfl hjk (Nat.zero_add _)) rfl ?_;refine s_store rfl (st_q (qzW (fwv (LL B) bv j / DD B j - sm (p + 1) (bkF B bv k j))) rfl rfl rfl hjk) rfl rfl rfl ?_;refine s_end (hK _ ?_); clear hK K;rw [bk2];show AWP _ _ _ _ _ _;refine AWP_reg tok fun K hK => ?_;refine mvQ ?_;refine s_bin rfl (e_add (c := ((p + 1 : Nat) : Int)) (by omega) (by omega)) rfl ?_;refine asQ ?_;refine s_end (hK _ ?_); clear hK K;exact ⟨p + 1, by omega, ⟨by omega, hx⟩, Wk.mk' ⟨rfl, rfl, rfl, rfl, trivial⟩ ⟨rfl, trivial⟩⟩
    have hx : p = k := by simp at hx; omega
    subst hx
    refine AWP_exit ?_;show AWP _ _ _ _ _ _;rw [bk3 B bv hj];refine AWP_reg tok fun K hK => ?_;refine mvQ ?_;refine s_bin rfl (e_sub (c := (p : Int) - 1 - (s + 1 : Nat)) (by omega) (by omega)) rfl ?_;refine asQ ?_;refine s_end (hK _ ?_); clear hK K;exact ⟨s + 1, by omega, by omega, Wk.mk' ⟨rfl, rfl, rfl, trivial⟩ ⟨rfl, trivial⟩⟩
  have hd : s = k := by simp at hd; omega
  subst hd
  refine AWP_exit ?_;show AWP _ _ _ _ _ _;rw [bk4];refine a_fz [9] [38] 38 [(9, V1 (dRs (slvL B bv s)))] [] rfl ?_ trivial ?_
  · exact ⟨frz_own (vec_dc _ _).symm (by simp [slvL, vecW]), trivial⟩
  rw [if_pos rfl];refine AWP_reg_seq tok fun K hK => ?_;refine mvQ ?_;refine asQ ?_;refine asQ ?_;refine s_end (hK _ ?_); clear hK K;refine AWP_ret ?_
  repeat (with_reducible refine tq_ret ?_)
  exact post_ret (fin_mk (by rfl) (by rfl) (by rfl))
end Go.Proofs.YtgopibpkgmafiaaGreat

/- Determinants by elimination. No condition. -/
namespace Go.Proofs.YtgopibpkgmafiaaGreat
attribute [local irreducible] lexA

theorem sCloneQ_c (n : Nat) (G : Nat → RW) (h0 : 0 < n) (hn : n ≤ 1048576) : Con Tryz.prog 68 [V1 (dRs (vecW n G))] { v := .val (.one (.own 0 4 0 n)), ob := some (4, rowD n G) } := by
  have hne : ∀ l : List (List DC), l.length = n → l ≠ [] := fun l h e => by rw [e] at h; simp at h; omega
  refine con_intro (fn := Tryz.f68) tok Tryz.func68 (by kernel_rfl) rfl ?_
  intro w0 X
  rw [entry_mkE _ _ [(0, V1 (dRs (vecW n G)))] rfl rfl];refine AWP_reg_seq tok fun K hK => ?_;refine asQ ?_;refine s_end (hK _ ?_); clear hK K;refine AWP_seq ?_;refine AWP_isNil (es := (vecW n G).map RW.dc) tok rfl rfl rfl rfl rfl rfl rfl rfl rfl rfl fun b hb => ?_;rw [put_mk, put_mk];refine a_cond rfl (fun hc => ?_) (fun hc => ?_)
  · exact absurd (hb hc) (hne _ (by simp [vecW]))
  · refine AWP_skip ?_;show AWP _ _ _ _ _ _;refine AWP_reg_seq tok fun K hK => ?_;refine s_buildSlice rfl rfl rfl rfl ?_;refine mvQ ?_;refine s_append rfl (ap_o (es := []) rfl rfl rfl rfl rfl rfl (by decide) (Nat.le_of_ble_eq_true rfl) rfl (fun e he => by obtain ⟨x, _, rfl⟩ := List.mem_map.1 he; rfl) rfl rfl rfl (by simp [vecW]; omega)) rfl rfl rfl ?_;refine asQ ?_;refine s_end (hK _ ?_); clear hK K;refine a_keep [(2, .val (.one (.own 7 4 0 n)))] [(7, some (.arr 4 (rowD n G)))] ⟨?_, trivial⟩ ⟨?_, trivial⟩ ?_
    · show SV.val (.one (.own 7 4 0 (([] : List (List DC)) ++ (vecW n G).map RW.dc).length)) = _
      rw [List.nil_append, vec_dc, rowD_length]
    · show some (OO.arr 4 (([] : List (List DC)) ++ (vecW n G).map RW.dc)) = _
      rw [List.nil_append, vec_dc]
    refine AWP_ret ?_;exact post_ret (fin_own (by rfl) rfl)

theorem qNeg_z (q : Rat) (h : ql q ≤ 16777216) : Con Tryz.prog 72 [AG (qzW q).cs] { v := AG (qzW (-q)).cs } := by
  have := qNeg_t (qzW q) (qzW_ok h)
  rwa [qzW_v] at this

def detV (m : List (List RW)) : RW × Int := if validM m = true then (qzW (dt m.length (matV m)), 0) else (rw00, 1)
def box0 : OO := .box [.d (.lit (.bool false)), .nil, .d (.lit (.bool false)), .nil]
def gB (n : Nat) : Nat → Option OO
  | 0 => none
  | i + 1 => some (.box (gridC 1000 4 n (i + 1)))
def wV (V : Nat → Nat → RW) (s i j : Nat) (f : Nat → Rat) : Nat → Nat → RW := fun q c => if q = s then (if i ≤ c ∧ c < j then qzW (f c) else V q c) else V q c
theorem wV_0 (V : Nat → Nat → RW) (s i : Nat) (f : Nat → Rat) (q : Nat) : wV V s i i f q = V q := by
  funext c; unfold wV; split
  · rw [if_neg (by omega)]
  · rfl
theorem wV_s (V : Nat → Nat → RW) {n s i j : Nat} (hij : i ≤ j) (f : Nat → Rat) : rowD n (updW (wV V s i j f s) j (qzW (f j))) = rowD n (wV V s i (j + 1) f s) := rowD_congr fun c _ => by
  simp only [updW, wV, if_true]
  by_cases h : c = j
  · subst h; rw [if_pos rfl, if_pos ⟨hij, by omega⟩]
  · rw [if_neg h]
    by_cases h2 : i ≤ c ∧ c < j
    · rw [if_pos h2, if_pos (by omega)]
    · rw [if_neg h2, if_neg (by omega)]
structure EL (n i : Nat) (V : Nat → Nat → RW) (σ : Nat → Nat) (A : Nat → Nat → Rat) : Prop where
  lt : ∀ r, r < n → σ r < n
  inj : ∀ r s, r < n → s < n → σ r = σ s → r = s
  ok : ∀ r c, i ≤ r → r < n → i ≤ c → c < n → (V (σ r) c).OK 65536
  v : ∀ r c, i ≤ r → r < n → i ≤ c → c < n → (V (σ r) c).v = A r c
structure ER (n i k r : Nat) (V : Nat → Nat → RW) (σ : Nat → Nat) (A : Nat → Nat → Rat) : Prop where
  lt : ∀ r, r < n → σ r < n
  inj : ∀ r s, r < n → s < n → σ r = σ s → r = s
  ok : ∀ p c, i ≤ p → p < n → i ≤ c → c < n → (V (σ p) c).OK 65536
  v : ∀ p c, i ≤ p → p < n → i ≤ c → c < n → (V (σ p) c).v = if p < r then stp i k A p c else A (swp i k p) c
theorem EL.swap {n i k : Nat} {V : Nat → Nat → RW} {σ : Nat → Nat} {A : Nat → Nat → Rat} (h : EL n i V σ A) (hi : i < n) (hik : i ≤ k) (hk : k < n) : ER n i k (i + 1) V (fun r => σ (swp i k r)) A := by
  have hs : ∀ p, p < n → swp i k p < n := fun p hp => swp_lt hi hk hp
  have hs2 : ∀ p, i ≤ p → i ≤ swp i k p := fun p hp => by unfold swp; (repeat' split) <;> omega
  refine ⟨fun r hr => h.lt _ (hs r hr), fun r s hr hs' e => ?_, fun p c h1 h2 h3 h4 => h.ok _ c (hs2 p h1) (hs p h2) h3 h4, fun p c h1 h2 h3 h4 => ?_⟩
  · have := h.inj _ _ (hs r hr) (hs s hs') e
    have := congrArg (swp i k) this
    rwa [swp_swp, swp_swp] at this
  · rw [h.v _ c (hs2 p h1) (hs p h2) h3 h4]
    by_cases hp : p < i + 1
    · rw [if_pos hp]; simp only [stp]; rw [if_neg (by omega)]
    · rw [if_neg hp]
theorem ER.row {n i k r : Nat} {V : Nat → Nat → RW} {σ : Nat → Nat} {A : Nat → Nat → Rat} (h : ER n i k r V σ A) (hir : i < r) (hr : r < n) (hq : ∀ c, i ≤ c → c < n → ql (stp i k A r c) ≤ 65536) :
    ER n i k (r + 1) (wV V (σ r) i n (fun c => stp i k A r c)) σ A := by
  refine ⟨h.lt, h.inj, fun p c h1 h2 h3 h4 => ?_, fun p c h1 h2 h3 h4 => ?_⟩
  · by_cases e : p = r
    · subst e; simp only [wV, if_true]; rw [if_pos ⟨h3, h4⟩]; exact qzW_ok (hq c h3 h4)
    · have : σ p ≠ σ r := fun e' => e (h.inj p r h2 hr e')
      simp only [wV]; rw [if_neg this]; exact h.ok p c h1 h2 h3 h4
  · by_cases e : p = r
    · subst e; simp only [wV, if_true]; rw [if_pos ⟨h3, h4⟩, if_pos (by omega), qzW_v]
    · have : σ p ≠ σ r := fun e' => e (h.inj p r h2 hr e')
      simp only [wV]; rw [if_neg this, h.v p c h1 h2 h3 h4]
      by_cases hp : p < r
      · rw [if_pos hp, if_pos (by omega)]
      · rw [if_neg hp, if_neg (by omega)]
theorem ER.done {n i k : Nat} {V : Nat → Nat → RW} {σ : Nat → Nat} {A : Nat → Nat → Rat} (h : ER n i k n V σ A) : EL n (i + 1) V σ (stp i k A) :=
  ⟨h.lt, h.inj, fun r c h1 h2 h3 h4 => h.ok r c (by omega) h2 (by omega) h4, fun r c h1 h2 h3 h4 => by rw [h.v r c (by omega) h2 (by omega) h4, if_pos h2]⟩

set_option maxHeartbeats 2000000 in
theorem sDet_c (m : List (List RW)) (hl : m.length ≤ 9223372036854775806) (hr : ∀ r ∈ m, r.length ≤ 9223372036854775806) (ok : okM 65536 m) (hE : validM m = true → elB m.length m.length 0 (matV m)) :
    Con Tryz.prog 37 [V1 (dMs m)] { v := .tup [.agg (detV m).1.cs, .one (.d (lI (detV m).2))] } := by
  refine con_intro (fn := Tryz.f37) tok Tryz.func37 (by kernel_rfl) rfl ?_
  intro w0 X
  rw [entry_mkE _ _ [(0, V1 (dMs m))] rfl rfl];refine AWP_reg_seq tok fun K hK => ?_;refine s_alloc rfl rfl rfl rfl rfl rfl ?_;refine asQ ?_;refine s_end (hK _ ?_); clear hK K;refine AWP_seq ?_;refine AWP_reg_seq tok fun K hK => ?_;refine mvQ ?_;refine s_call rfl rfl (sValid_c m hl hr ok) rfl rfl rfl rfl ?_;refine s_un rfl rfl rfl ?_;refine s_end (hK _ ?_); clear hK K;refine a_cond rfl (fun hc => ?_) (fun hc => ?_)
  · have e : detV m = (rw00, 1) := by rw [detV, if_neg]; intro h; rw [h] at hc; cases hc
    rw [e];refine AWP_reg_seq tok fun K hK => ?_;refine s_build rfl rfl rfl ?_;refine s_store rfl rfl rfl rfl rfl ?_;refine asQ ?_;refine s_end (hK _ ?_); clear hK K;refine AWP_ret ?_
    repeat (with_reducible refine tq_ret ?_)
    exact post_ret (fin_mk (by rfl) (by rfl) (by rfl))
  have hc : validM m = true := by simpa using hc
  have hE1 := hE hc
  clear hE;rw [detV, if_pos hc]
  obtain ⟨hv1, hv2, _⟩ := of_decide_eq_true hc
  obtain ⟨n, hn⟩ : ∃ n, m.length = n := ⟨_, rfl⟩
  have hm : m = matW n n (mtv m) := matW_of hn (fun r hr => (hv2 r hr).trans hn)
  have oF : ∀ i j, i < n → j < n → (mtv m i j).OK 65536 := fun i j hi hj => by rw [hm] at ok; exact okM_mat ok hi hj
  have hF : ∀ i j, matV m i j = (mtv m i j).v := fun _ _ => rfl
  rw [hn] at hv1 hE1 ⊢;rw [← elS_dt];generalize matV m = A at *;generalize mtv m = F at *;clear hv2 hc hr hl ok hn
  subst hm
  refine AWP_skip ?_;show AWP _ _ _ _ _ _;refine AWP_reg_seq tok fun K hK => ?_;refine asQ ?_;refine s_end (hK _ ?_); clear hK K;refine AWP_seq ?_;refine AWP_reg_seq tok fun K hK => ?_;refine mvQ ?_;refine s_blt rfl (len_mt rfl rfl) rfl ?_;refine mvQ ?_;refine s_end (hK _ ?_); clear hK K;refine AWP_block (a_loop (α := Nat) (fun i => mk 138 [(2, .ptr 2 0), (4, ownN 17 1 i), (19, V1 (dMs (matW n n F))), (20, dI n), (21, dI i)] (((17, gB n i) :: [(2, some box0)]) ++ rowsO 1000 4 i (fun s => rowD n (F s))) [17]) (fun i => i ≤ n) (fun i => n - i) 0 ?_ (Nat.zero_le _) ?_)
  · exact Wk.trans (Wk.mk' (E' := [(2, .ptr 2 0), (4, ownN 17 1 0), (19, V1 (dMs (matW n n F))), (20, dI n), (21, dI (0 : Nat))]) (S' := [(17, none), (2, some box0)]) ⟨rfl, rfl, rfl, rfl, rfl, trivial⟩ ⟨rfl, rfl, trivial⟩) (Wk.rbE (rb := []) rfl)
  intro i hi
  refine AWP_reg_seq tok fun K hK => ?_;refine biQ ?_;refine s_end (hK _ ?_); clear hK K;refine AWP_seq ?_;refine a_cond rfl (fun hg => ?_) (fun hg => ?_)
  · have hg : i < n := by simp at hg; omega
    have cl := sCloneQ_c n (F i) (by omega) (by omega)
    refine AWP_skip ?_;show AWP _ _ _ _ _ _;refine AWP_seq ?_;refine AWP_block ?_;refine AWP_reg_seq tok fun K hK => ?_;refine s_indexAddr rfl (x_mt rfl rfl rfl rfl rfl hg) rfl ?_;refine ldQ ?_;refine asQ ?_;refine s_end (hK _ ?_); clear hK K
    rcases i with _ | i
    · refine AWP_regW fun K hK => ?_;refine w_step tok rfl ?_;refine mvQ ?_;refine s_end ?_;refine w_step tok rfl ?_;refine mvQ ?_;refine s_end ?_;refine w_step tok rfl ?_;refine s_callN rfl rfl (cl) (Or.inl rfl) rfl rfl rfl rfl ?_;refine s_end ?_;refine w_buildB tok rfl rfl rfl rfl rfl rfl rfl rfl rfl ?_;refine w_appB0 (B := 1000) (m := 0) (sz := 4) (id := 17) (R := fun s => rowD n (F s)) tok [(2, .ptr 2 0), (19, V1 (dMs (matW n n F))), (20, dI n), (21, dI (0 : Nat))] [(2, some box0), (27, some (.arr 4 (rowD n (F 0))))] rfl rfl rfl rfl rfl rfl rfl (Nat.le_of_ble_eq_true rfl) rfl rfl rfl rfl (by decide) (by decide) ⟨rfl, rfl, rfl, rfl, trivial⟩ ⟨rfl, rfl, trivial⟩ rfl (fun q hq => ?_) rfl rfl rfl rfl rfl rfl rfl rfl rfl ?_
      · rw [so_cons, if_neg (by omega), so_cons, if_neg (by omega), so_hi rfl hq]
      refine w_step tok rfl ?_;refine asQ ?_;refine s_end ?_;refine w_end rfl (hK _ ?_); clear hK K;show AWP _ _ _ _ _ _;refine AWP_reg tok fun K hK => ?_;refine s_bin rfl (e_add (c := ((0 + 1 : Nat) : Int)) (by omega) (by omega)) rfl ?_;refine mvQ ?_;refine s_end (hK _ ?_); clear hK K;exact ⟨0 + 1, by omega, hg, Wk.gpush0 (B := 1000) (m := 0) (d := 27) (gid := 17) (S1 := [(2, some box0)]) (R := fun s => rowD n (F s)) ⟨rfl, rfl, rfl, rfl, rfl, trivial⟩ rfl rfl ⟨rfl, trivial⟩ rfl (by decide) (by decide) (by decide) rfl rfl rfl rfl (fun q hq => by rw [so_cons, if_neg (by omega), so_hi rfl hq]) (fun a _ => by split <;> rename_i e; rw [e]; rfl)⟩
    · refine AWP_regW fun K hK => ?_;refine w_step tok rfl ?_;refine mvQ ?_;refine s_end ?_;refine w_step tok rfl ?_;refine mvQ ?_;refine s_end ?_;refine w_step tok rfl ?_;refine s_callN rfl rfl (cl) (Or.inl rfl) rfl rfl (nr_grid rfl rfl (gridC_noRef (Or.inl (by decide)))) rfl ?_;refine s_end ?_;refine w_buildB tok rfl rfl rfl rfl rfl rfl rfl rfl (nr_grid rfl rfl (gridC_noRef (Or.inl (by decide)))) ?_;refine w_appB (B := 1000) (m := i + 1) (sz := 4) (id := 17) (R := fun s => rowD n (F s)) tok [(2, .ptr 2 0), (19, V1 (dMs (matW n n F))), (20, dI n), (21, dI (i + 1 : Nat))] [(2, some box0), (27, some (.arr 4 (rowD n (F (i + 1)))))] rfl rfl rfl rfl rfl rfl rfl (Nat.le_of_ble_eq_true rfl) rfl rfl (gridC_length _ _ _ _).symm (by omega) rfl rfl rfl (by decide) (by decide) ⟨rfl, rfl, rfl, rfl, trivial⟩ ⟨rfl, rfl, trivial⟩ rfl (fun q hq => ?_) rfl rfl rfl rfl rfl rfl (gridC_noRef (Or.inl (by decide))) (gridC_noRef (Or.inl (by decide))) rfl rfl rfl rfl ?_
      · rw [so_cons, if_neg (by omega), so_cons, if_neg (by omega), so_hi rfl hq]
      refine w_step tok rfl ?_;refine asQ ?_;refine s_end ?_;refine w_end rfl (hK _ ?_); clear hK K;show AWP _ _ _ _ _ _;refine AWP_reg tok fun K hK => ?_;refine s_bin rfl (e_add (c := ((i + 1 + 1 : Nat) : Int)) (by omega) (by omega)) rfl ?_;refine mvQ ?_;refine s_end (hK _ ?_); clear hK K;exact ⟨i + 1 + 1, by omega, hg, Wk.gpush0 (B := 1000) (m := i + 1) (d := 27) (gid := 17) (S1 := [(2, some box0)]) (R := fun s => rowD n (F s)) ⟨rfl, rfl, rfl, rfl, rfl, trivial⟩ rfl (allE_cons (ptr_nr (by omega)) (allE_cons (own_nr (by omega)) (allE_cons rfl (allE_cons rfl (allE_cons rfl allE_nil))))) ⟨rfl, trivial⟩ rfl (by decide) (by decide) (by decide) rfl rfl rfl rfl (fun q hq => by rw [so_cons, if_neg (by omega), so_hi rfl hq]) (fun a _ => by split <;> rename_i e; rw [e]; rfl)⟩
  have hg : n = i := by simp at hg; omega
  subst hg
  refine AWP_exit ?_;show AWP _ _ _ _ _ _
  rcases n with _ | n
  · refine AWP_wk (Wk.mk' (E' := [(2, .ptr 2 0), (4, .val (.one .nil))]) (S' := [(2, some box0)]) ⟨rfl, rfl, trivial⟩ ⟨rfl, trivial⟩) ?_;refine AWP_wk (Wk.rb (rb' := []) (st := mk 138 _ [(2, some box0)] [17]) fun k hk => Or.inr fun cs hc => ?_) ?_
    · have hk : k ∈ [17] := hk
      simp at hk; subst hk
      have : so [(2, some box0)] 17 = some (.box cs) := hc
      cases this
    refine AWP_reg_seq tok fun K hK => ?_;refine s_call rfl rfl (sOne_c) rfl rfl rfl rfl ?_;refine s_alloc rfl rfl rfl rfl rfl rfl ?_;refine s_store rfl rfl rfl rfl rfl ?_;refine s_end (hK _ ?_); clear hK K;refine AWP_seq ?_;refine AWP_reg_seq tok fun K hK => ?_;refine mvQ ?_;refine s_blt rfl rfl rfl ?_;refine mvQ ?_;refine s_end (hK _ ?_); clear hK K;refine AWP_block (a_loop (α := Unit) (fun _ => mk 138 [(2, .ptr 2 0), (7, .ptr 7 0), (33, dI 0), (34, dI 0)] [(2, some box0), (7, some (.box (qzW 1).cs))] []) (fun _ => True) (fun _ => 0) () ?_ trivial ?_)
    · exact Wk.mk' ⟨rfl, rfl, rfl, rfl, trivial⟩ ⟨rfl, rfl, trivial⟩
    rintro - -
    refine AWP_reg_seq tok fun K hK => ?_;refine biQ ?_;refine s_end (hK _ ?_); clear hK K;refine AWP_seq ?_;refine a_cond rfl (fun h => by cases h) (fun _ => ?_);refine AWP_exit ?_;show AWP _ _ _ _ _ _;refine AWP_reg_seq tok fun K hK => ?_;refine ldQ ?_;refine s_store rfl rfl rfl rfl rfl ?_;refine asQ ?_;refine s_end (hK _ ?_); clear hK K;refine AWP_ret ?_
    repeat (with_reducible refine tq_ret ?_)
    exact post_ret (fin_mk (by rfl) (by rfl) (by rfl))
  have hok0 : EL (n + 1) 0 F (fun r => r) A := ⟨fun _ h => h, fun _ _ _ _ h => h, fun r c _ hr _ hc => oF r c hr hc, fun r c _ hr _ hc => (hF r c).symm⟩
  clear hF oF hg hi;refine AWP_wk (Wk.gkeep (B := 1000) (E' := [(2, .ptr 2 0), (4, .val (.one (.own 17 1 0 (n + 1))))]) (S0 := [(2, some box0), (17, some (.box (permC 1000 4 (n + 1) (n + 1) (fun r => r))))]) ⟨rfl, rfl, trivial⟩ ⟨rfl, rfl, trivial⟩ rfl (fun q hq => so_hi rfl hq)) ?_;generalize n + 1 = n at *
  obtain ⟨D, hD⟩ : ∃ D, D = elS n n 0 A 1 := ⟨_, rfl⟩
  rw [← hD];refine AWP_reg_seq tok fun K hK => ?_;refine s_call rfl rfl (sOne_c) rfl rfl rfl rfl ?_;refine s_alloc rfl rfl rfl rfl rfl (nr_grid rfl rfl (permC_noRef (by decide))) ?_;refine s_store rfl rfl rfl rfl rfl ?_;refine s_end (hK _ ?_); clear hK K;refine AWP_seq ?_;refine AWP_reg_seq tok fun K hK => ?_;refine mvQ ?_;refine s_blt rfl rfl rfl ?_;refine mvQ ?_;refine s_end (hK _ ?_); clear hK K
  refine AWP_block (a_loop (α := Nat × Rat × (Nat → Nat → RW) × (Nat → Nat) × (Nat → Nat → Rat)) (fun p => mk 138 [(2, .ptr 2 0), (4, .val (.one (.own 17 1 0 n))), (7, .ptr 7 0), (33, dI n), (34, dI p.1)] ([(2, some box0), (7, some (.box (qzW p.2.1).cs)), (17, some (.box (permC 1000 4 n n p.2.2.2.1)))] ++ rowsO 1000 4 n (fun s => rowD n (p.2.2.1 s))) [17])
    (fun p => p.1 ≤ n ∧ EL n p.1 p.2.2.1 p.2.2.2.1 p.2.2.2.2 ∧ elB n (n - p.1) p.1 p.2.2.2.2 ∧ elS n (n - p.1) p.1 p.2.2.2.2 p.2.1 = D ∧ ql p.2.1 ≤ 1 + p.1 * 65536) (fun p => n - p.1) (0, 1, F, (fun r => r), A) ?_ ⟨Nat.zero_le _, hok0, hE1, hD.symm, (by show ql (1 : Rat) ≤ 1 + 0 * 65536; decide)⟩ ?_)
  · exact Wk.gkeep (B := 1000) ⟨rfl, rfl, rfl, rfl, rfl, trivial⟩ ⟨rfl, rfl, rfl, trivial⟩ rfl (fun q hq => by rw [so_cons, if_neg (by omega), so_cons, if_neg (by omega), so_hi rfl hq])
  clear hok0 hE1 hD
  rintro ⟨i, det, V, σ, A'⟩ ⟨hi, hEL, hB, hD, hq⟩
  simp only at hi hEL hB hD hq ⊢
  refine AWP_reg_seq tok fun K hK => ?_;refine biQ ?_;refine s_end (hK _ ?_); clear hK K;refine AWP_seq ?_;refine a_cond rfl (fun hg => ?_) (fun hg => ?_)
  · have hg : i < n := by simp at hg; omega
    obtain ⟨d, hd⟩ : ∃ d, n - i = d + 1 := ⟨n - i - 1, by omega⟩
    rw [hd] at hB hD;refine AWP_skip ?_;show AWP _ _ _ _ _ _;refine AWP_seq ?_;refine AWP_block ?_;refine AWP_reg_seq tok fun K hK => ?_;refine mvQ ?_;refine asQ ?_;refine s_end (hK _ ?_); clear hK K;refine AWP_reg_seq tok fun K hK => ?_;refine mvQ ?_;refine asQ ?_;refine s_end (hK _ ?_); clear hK K;refine AWP_seq ?_
    refine AWP_block (a_loop (α := Nat) (fun k => mk 138 [(2, .ptr 2 0), (4, .val (.one (.own 17 1 0 n))), (7, .ptr 7 0), (8, dI i), (9, dI k), (33, dI n), (34, dI i)] ([(2, some box0), (7, some (.box (qzW det).cs)), (17, some (.box (permC 1000 4 n n σ)))] ++ rowsO 1000 4 n (fun s => rowD n (V s))) [17])
      (fun k => i ≤ k ∧ k ≤ n ∧ ∀ r, i ≤ r → r < k → A' r i = 0) (fun k => n - k) i ?_ ⟨Nat.le_refl _, hi, fun r h1 h2 => by omega⟩ ?_)
    · exact Wk.gkeep (B := 1000) ⟨rfl, rfl, rfl, rfl, rfl, rfl, rfl, trivial⟩ ⟨rfl, rfl, rfl, trivial⟩ rfl (fun q hq => so_hi rfl hq)
    rintro k ⟨hik, hkn, hz⟩
    have lt : decide ((k : Int) < n) = true → k < n := fun h => by simp at h; omega
    have okk : decide ((k : Int) < n) = true → (V (σ k) i).OK 16777216 := fun h => (hEL.ok k i hik (lt h) (Nat.le_refl _) hg).mono rfl
    have P1 : decide ((k : Int) < n) = true → ((V (σ k) i).v.num.sign == 0) = decide (k < n ∧ A' k i = 0) := fun h => by
      rw [hEL.v k i hik (lt h) (Nat.le_refl _) hg, Bool.eq_iff_iff, beq_iff_eq, decide_eq_true_eq, qSign_zero];exact ⟨fun e => ⟨lt h, e⟩, fun e => e.2⟩
    have P2 : decide ((k : Int) < n) = false → false = decide (k < n ∧ A' k i = 0) := fun h => (decide_eq_false fun e => by simp at h; omega).symm
    refine AWP_seq ?_;refine a_join (α := Bool) (fun c => mk 138 [(2, .ptr 2 0), (4, .val (.one (.own 17 1 0 n))), (7, .ptr 7 0), (8, dI i), (9, dI k), (33, dI n), (34, dI i), (52, dB c)] ([(2, some box0), (7, some (.box (qzW det).cs)), (17, some (.box (permC 1000 4 n n σ)))] ++ rowsO 1000 4 n (fun s => rowD n (V s))) [17]) (fun c => c = decide (k < n ∧ A' k i = 0)) ?_ ?_
    · refine AWP_regW fun K hK => ?_;refine w_step tok rfl ?_;refine mvQ ?_;refine s_end ?_;refine w_step tok rfl ?_;refine mvQ ?_;refine s_end ?_;refine w_step tok rfl ?_;refine s_blt rfl rfl rfl ?_;refine s_end ?_;refine w_step tok rfl ?_;refine biQ ?_;refine s_end ?_;refine w_step tok rfl ?_;refine mvQ ?_;refine s_end ?_;refine w_split (fun h0 => ?_) (fun h0 => ?_)
      · refine w_step tok rfl ?_;refine mvQ ?_;refine s_end ?_;refine w_step tok rfl ?_;refine mvQ ?_;refine s_end ?_;refine w_step tok rfl ?_;refine s_indexAddr rfl (x_o (i := k) (j := k) rfl rfl rfl rfl rfl (lt h0) (Nat.zero_add _)) rfl ?_;refine s_end ?_;refine w_step tok rfl ?_;refine s_load rfl (l_box rfl rfl rfl rfl (permC_get (lt h0))) rfl ?_;refine s_end ?_;refine w_step tok rfl ?_;refine mvQ ?_;refine s_end ?_;refine w_step tok rfl ?_;refine s_indexAddr rfl (x_o (i := i) (j := i) rfl rfl rfl rfl rfl hg (Nat.zero_add _)) rfl ?_;refine s_end ?_;refine w_step tok rfl ?_;refine s_load rfl (l_q rfl rfl rfl (so_row rfl (hEL.lt k (lt h0))) hg) rfl ?_;refine s_end ?_;refine w_step tok rfl ?_;refine s_call rfl rfl (qSign_t _ (okk h0)) rfl rfl rfl rfl ?_;refine s_end ?_;refine w_step tok rfl ?_;refine biQ ?_;refine s_end ?_;refine w_step tok rfl ?_;refine piQ ?_;refine s_end ?_;refine w_end rfl (hK _ ?_); clear hK K;exact ⟨_, (by first|exact P1 h0|exact P2 h0), Wk.gkeep (B := 1000) ⟨rfl, rfl, rfl, rfl, rfl, rfl, rfl, rfl, trivial⟩ ⟨rfl, rfl, rfl, trivial⟩ rfl (fun q hq => so_hi rfl hq)⟩
      · refine w_skip rfl rfl ?_;refine w_skip rfl rfl ?_;refine w_skip rfl rfl ?_;refine w_skip rfl rfl ?_;refine w_skip rfl rfl ?_;refine w_skip rfl rfl ?_;refine w_skip rfl rfl ?_;refine w_skip rfl rfl ?_;refine w_skip rfl rfl ?_;refine w_step tok rfl ?_;refine piQ ?_;refine s_end ?_;refine w_end rfl (hK _ ?_); clear hK K;exact ⟨_, (by first|exact P1 h0|exact P2 h0), Wk.gkeep (B := 1000) ⟨rfl, rfl, rfl, rfl, rfl, rfl, rfl, rfl, trivial⟩ ⟨rfl, rfl, rfl, trivial⟩ rfl (fun q hq => so_hi rfl hq)⟩
    rintro c rfl
    refine a_cond rfl (fun hc => ?_) (fun hc => ?_)
    · obtain ⟨hc1, hc2⟩ := of_decide_eq_true hc
      refine AWP_skip ?_;show AWP _ _ _ _ _ _;refine AWP_block ?_;refine AWP_reg tok fun K hK => ?_;refine mvQ ?_;refine s_bin rfl (e_add (c := ((k + 1 : Nat) : Int)) (by omega) (by omega)) rfl ?_;refine asQ ?_;refine s_end (hK _ ?_); clear hK K;refine ⟨k + 1, by omega, ⟨by omega, hc1, fun r h1 h2 => ?_⟩, Wk.gkeep (B := 1000) ⟨rfl, rfl, rfl, rfl, rfl, rfl, rfl, trivial⟩ ⟨rfl, rfl, rfl, trivial⟩ rfl (fun q hq => so_hi rfl hq)⟩
      by_cases e : r = k
      · rw [e]; exact hc2
      · exact hz r h1 (by omega)
    have hc := of_decide_eq_false hc
    refine AWP_exit ?_;show AWP _ _ _ _ _ _
    have hpk : piv (fun r => A' r i) n (d + 1) i = k := piv_eq (d + 1) i (by omega) hik hkn hz (by
      by_cases e : k = n
      · exact Or.inl e
      · exact Or.inr fun e' => hc ⟨by omega, e'⟩)
    clear lt okk P1 P2;refine AWP_seq ?_;refine AWP_reg_seq tok fun K hK => ?_;refine mvQ ?_;refine mvQ ?_;refine s_blt rfl rfl rfl ?_;refine biQ ?_;refine s_end (hK _ ?_); clear hK K;refine a_cond rfl (fun hk => ?_) (fun hk => ?_)
    · have hk : k = n := by simp at hk; omega
      have eD : D = 0 := by rw [← hD]; simp only [elS]; rw [hpk, if_pos hk]
      rw [eD];refine AWP_reg_seq tok fun K hK => ?_;refine s_call rfl rfl (sZero_c) rfl rfl rfl rfl ?_;refine s_store rfl rfl rfl rfl rfl ?_;refine asQ ?_;refine s_end (hK _ ?_); clear hK K;refine AWP_ret ?_
      repeat (with_reducible refine tq_ret ?_)
      exact post_ret (fin_mk (by rfl) (by rfl) (by rfl))
    have hk : k < n := by simp at hk; omega
    have hnz : A' k i ≠ 0 := fun e => hc ⟨hk, e⟩
    have hD : elS n d (i + 1) (stp i k A') ((if k = i then det else -det) * A' k i) = D := by rw [← hD]; simp only [elS]; rw [hpk, if_neg (show ¬ k = n by omega)]
    have hB1 := hB.1
    have hB2 := hB.2
    rw [hpk] at hB2
    have hB2 := hB2 hk
    clear hB hpk hc hz
    have hER := hEL.swap hg hik hk
    have qn : ql (-det) ≤ 1 + i * 65536 := ql_neg_le hq
    refine AWP_skip ?_;show AWP _ _ _ _ _ _;refine a_join (α := Unit) (fun _ => mk 138 [(2, .ptr 2 0), (4, .val (.one (.own 17 1 0 n))), (7, .ptr 7 0), (8, dI i), (33, dI n), (34, dI i)] ([(2, some box0), (7, some (.box (qzW (if k = i then det else -det)).cs)), (17, some (.box (permC 1000 4 n n (fun r => σ (swp i k r)))))] ++ rowsO 1000 4 n (fun s => rowD n (V s))) [17]) (fun _ => True) ?_ ?_
    · refine AWP_reg_seq tok fun K hK => ?_;refine mvQ ?_;refine mvQ ?_;refine biQ ?_;refine s_end (hK _ ?_); clear hK K;refine a_cond rfl (fun hx => ?_) (fun hx => ?_)
      · have hx : k ≠ i := by simp at hx; omega
        have cn := qNeg_z det (by omega)
        rw [if_neg hx];refine a_draw tok mixed (A := [[], [], [], [], [], [], [], [4, 5], [], [], [], [8, 9], [8, 9, 10], [8, 9, 10], [], []]) (an := [{}, {}, {}, {}, {}, {}, {}, {}, {}, {}, {}, {}, {}, {}, {}, {}]) rfl (by kernel_rfl) rfl fun K hK => ?_;refine mvQ ?_;refine mvQ ?_;refine mvQ ?_;refine mvQ ?_;refine mvQ ?_;refine mvQ ?_;refine s_indexAddr rfl (x_o (i := k) (j := k) rfl rfl rfl rfl rfl hk (Nat.zero_add _)) rfl ?_;refine s_load rfl (l_box rfl rfl rfl rfl (permC_get hk)) rfl ?_;refine mvQ ?_;refine mvQ ?_;refine s_indexAddr rfl (x_o (i := i) (j := i) rfl rfl rfl rfl rfl hg (Nat.zero_add _)) rfl ?_;refine s_load rfl (l_box rfl rfl rfl rfl (permC_get hg)) rfl ?_;refine s_indexAddr rfl (x_o (i := i) (j := i) rfl rfl rfl rfl rfl hg (Nat.zero_add _)) rfl ?_;refine s_storeB rfl (st_box rfl rfl rfl (by rw [permC_length]; exact hg)) rfl rfl rfl ?_;refine s_indexAddr rfl (x_o (i := k) (j := k) rfl rfl rfl rfl rfl hk (Nat.zero_add _)) rfl ?_;refine s_storeB rfl (st_box rfl rfl rfl (by rw [List.length_set, permC_length]; exact hk)) rfl rfl rfl ?_;refine s_end (hK _ ?_); clear hK K;refine AWP_reg tok fun K hK => ?_;refine ldQ ?_;refine s_call rfl rfl (cn) rfl rfl rfl rfl ?_;refine s_store rfl rfl rfl rfl rfl ?_;refine s_end (hK _ ?_); clear hK K;refine ⟨(), trivial, Wk.trans (Wk.rbE (rb' := [17]) rfl) (Wk.gkeep (B := 1000) ⟨rfl, rfl, rfl, rfl, rfl, rfl, trivial⟩ ⟨rfl, rfl, ?_, trivial⟩ rfl (fun q hq => by rw [so_cons, if_neg (by omega), so_cons, if_neg (by omega), so_cons, if_neg (by omega), so_hi rfl hq]))⟩;exact congrArg (fun l => some (OO.box l)) (permC_set (by show σ (swp i k i) = σ k; unfold swp; rw [if_pos rfl]) (by show σ (swp i k k) = σ i; unfold swp; rw [if_neg hx, if_pos rfl]) (fun r h1 h2 => by show σ (swp i k r) = σ r; unfold swp; rw [if_neg h1, if_neg h2]))
      · have hx : k = i := by simp at hx; omega
        rw [if_pos hx];refine AWP_skip ?_;refine ⟨(), trivial, Wk.gkeep (B := 1000) ⟨rfl, rfl, rfl, rfl, rfl, rfl, trivial⟩ ⟨rfl, rfl, ?_, trivial⟩ rfl (fun q hq => so_hi rfl hq)⟩
        exact congrArg (fun l => some (OO.box l)) (permC_congr fun r _ => by
          have : swp i k r = r := by unfold swp; (repeat' split) <;> omega
          rw [this])
    rintro - -
    have qd : ql (if k = i then det else -det) ≤ 1 + i * 65536 := by split <;> assumption
    generalize (if k = i then det else -det) = det1 at hD qd ⊢;generalize hτ : (fun r => σ (swp i k r)) = τ at hER ⊢
    have hvk : ∀ W, ER n i k (i + 1) W τ A' → (W (τ i) i).v = A' k i := fun W h => by
      rw [h.v i i (Nat.le_refl _) hg (Nat.le_refl _) hg, if_pos (by omega)];simp only [stp]; rw [if_neg (by omega)]
      have : swp i k i = k := by unfold swp; rw [if_pos rfl]
      rw [this]
    have qki : ql (A' k i) ≤ 65536 := hB1 k i hik hk (Nat.le_refl _) hg
    have cm := qMul_t (qzW det1) (V (τ i) i) (det1 * A' k i) ((qzW_ok (Nat.le_trans qd (by omega))).mono (k := 16777216) rfl) ((hER.ok i i (Nat.le_refl _) hg (Nat.le_refl _) hg).mono rfl) (by rw [qzW_v, hvk V hER])
    have qd2 : ql (det1 * A' k i) ≤ 1 + (i + 1) * 65536 := Nat.le_trans (ql_mul_le qd qki) (by rw [Nat.succ_mul]; omega)
    refine a_draw tok mixed (A := [[], [], [], [], [1, 2], [], [1, 2, 3], [1, 2, 3, 4, 5], [1, 2, 3, 4, 5, 6], []]) (an := [{}, {}, {}, {}, {}, {}, {}, {}, {}, {}]) rfl (by kernel_rfl) rfl fun K hK => ?_;refine ldQ ?_;refine mvQ ?_;refine mvQ ?_;refine s_indexAddr rfl (x_o (i := i) (j := i) rfl rfl rfl rfl rfl hg (Nat.zero_add _)) rfl ?_;refine s_load rfl (l_box rfl rfl rfl rfl (permC_get hg)) rfl ?_;refine mvQ ?_;refine s_indexAddr rfl (x_o (i := i) (j := i) rfl rfl rfl rfl rfl hg (Nat.zero_add _)) rfl ?_;refine s_load rfl (l_q rfl rfl rfl (so_row rfl (hER.lt i hg)) hg) rfl ?_;refine s_call rfl rfl (cm) rfl rfl rfl rfl ?_;refine s_store rfl rfl rfl rfl rfl ?_;refine s_end (hK _ ?_); clear hK K;refine AWP_reg_seq tok fun K hK => ?_;refine mvQ ?_;refine mvQ ?_;refine s_bin rfl (e_add (c := ((i + 1 : Nat) : Int)) (by omega) (by omega)) rfl ?_;refine s_slice rfl rfl rfl (sl_tl (i := i) rfl rfl rfl rfl hg rfl rfl) rfl ?_;refine s_blt rfl (len_tl rfl rfl hg) rfl ?_;refine mvQ ?_;refine s_end (hK _ ?_); clear hK K
    refine AWP_block (a_loop (α := Nat × (Nat → Nat → RW)) (fun p => mk 138 [(2, .ptr 2 0), (4, .val (.one (.own 17 1 0 n))), (7, .ptr 7 0), (8, dI i), (33, dI n), (34, dI i), (91, tlS 17 n i), (92, dI (n - (i + 1) : Nat)), (93, dI p.1)] ([(2, some box0), (7, some (.box (qzW (det1 * A' k i)).cs)), (17, some (.box (permC 1000 4 n n τ)))] ++ rowsO 1000 4 n (fun s => rowD n (p.2 s))) [17])
      (fun p => p.1 ≤ n - (i + 1) ∧ ER n i k (i + 1 + p.1) p.2 τ A') (fun p => n - (i + 1) - p.1) (0, V) ?_ ⟨Nat.zero_le _, hER⟩ ?_)
    · exact Wk.gkeep (B := 1000) ⟨rfl, rfl, rfl, rfl, rfl, rfl, rfl, rfl, rfl, trivial⟩ ⟨rfl, rfl, rfl, trivial⟩ rfl (fun q hq => by rw [so_cons, if_neg (by omega), so_hi rfl hq])
    clear cm hEL hER hvk
    rintro ⟨p, W⟩ ⟨hp, hER⟩
    simp only at hp hER ⊢
    refine AWP_reg_seq tok fun K hK => ?_;refine biQ ?_;refine s_end (hK _ ?_); clear hK K;refine AWP_seq ?_;refine a_cond rfl (fun hx => ?_) (fun hx => ?_)
    · have hx : p < n - (i + 1) := by simp at hx; omega
      obtain ⟨r, hr⟩ : ∃ r, r = i + 1 + p := ⟨_, rfl⟩
      have hrn : r < n := by omega
      have hir : i < r := by omega
      rw [← hr] at hER
      have li := hER.lt i hg
      have lr := hER.lt r hrn
      have hne : τ r ≠ τ i := fun e => by have := hER.inj r i hrn hg e; omega
      have vi : ∀ c, i ≤ c → c < n → (W (τ i) c).v = A' k c := fun c h1 h2 => by
        rw [hER.v i c (Nat.le_refl _) hg h1 h2, if_pos hir];simp only [stp]; rw [if_neg (by omega)]
        have : swp i k i = k := by unfold swp; rw [if_pos rfl]
        rw [this]
      have vr : ∀ c, i ≤ c → c < n → (W (τ r) c).v = A' (swp i k r) c := fun c h1 h2 => by
        rw [hER.v r c (by omega) hrn h1 h2, if_neg (by omega)]
      have oi := fun c (h1 : i ≤ c) (h2 : c < n) => hER.ok i c (Nat.le_refl _) hg h1 h2
      have orr := fun c (h1 : i ≤ c) (h2 : c < n) => hER.ok r c (by omega) hrn h1 h2
      have hsr : i ≤ swp i k r ∧ swp i k r < n := by unfold swp; (repeat' split) <;> omega
      have q1 := hB1 (swp i k r) i hsr.1 hsr.2 (Nat.le_refl _) hg
      have qq : ql (A' (swp i k r) i / A' k i) ≤ 131072 := ql_div_le q1 qki
      have cd := qDiv_t (W (τ r) i) (W (τ i) i) (A' (swp i k r) i / A' k i) ((orr i (Nat.le_refl _) hg).mono rfl) ((oi i (Nat.le_refl _) hg).mono rfl) (by rw [vi i (Nat.le_refl _) hg]; exact hnz) (by rw [vi i (Nat.le_refl _) hg, vr i (Nat.le_refl _) hg])
      have hsq : ∀ c, i ≤ c → c < n → ql (stp i k A' r c) ≤ 65536 := fun c h1 h2 => by
        by_cases e : c = i
        · subst e
          have : stp c k A' r c = 0 := by simp only [stp]; rw [if_pos ⟨hir, Nat.le_refl _⟩]; grind
          rw [this]; exact Nat.le_trans ql_zero (by decide)
        · rcases d with _ | d
          · omega
          · exact hB2.1 r c (by omega) hrn (by omega) h2
      refine AWP_skip ?_;show AWP _ _ _ _ _ _;refine AWP_seq ?_;refine AWP_block ?_;refine AWP_reg_seq tok fun K hK => ?_;refine s_indexAddr rfl (x_tl rfl rfl rfl rfl rfl hx) rfl ?_;refine s_load rfl (l_box rfl rfl rfl rfl (by rw [← hr]; exact permC_get hrn)) rfl ?_;refine asQ ?_;refine s_end (hK _ ?_); clear hK K;refine a_draw tok mixed (A := [[], [], [], [0, 1], [], [], [], [4, 5], [], [4, 5, 6], [4, 5, 6, 7, 8], [0, 1, 2, 4, 5, 6, 7, 8, 9], [0, 1, 2, 3, 4, 5, 6, 7, 8, 9, 10], [0, 1, 2, 3, 4, 5, 6, 7, 8, 9, 10, 11], [0, 1, 2, 3, 4, 5, 6, 7, 8, 9, 10, 11], [], [], []]) (an := [{}, {}, {}, {}, {}, {}, {}, {}, {}, {}, {}, {}, {}, {}, {}, { c := [109] }, {}, {}]) rfl (by kernel_rfl) rfl fun K hK => ?_;refine mvQ ?_;refine mvQ ?_;refine s_indexAddr rfl (x_o (i := i) (j := i) rfl rfl rfl rfl rfl hg (Nat.zero_add _)) rfl ?_;refine s_load rfl (l_q rfl rfl rfl (so_row rfl lr) hg) rfl ?_;refine mvQ ?_;refine mvQ ?_;refine s_indexAddr rfl (x_o (i := i) (j := i) rfl rfl rfl rfl rfl hg (Nat.zero_add _)) rfl ?_;refine s_load rfl (l_box rfl rfl rfl rfl (permC_get hg)) rfl ?_;refine mvQ ?_;refine s_indexAddr rfl (x_o (i := i) (j := i) rfl rfl rfl rfl rfl hg (Nat.zero_add _)) rfl ?_;refine s_load rfl (l_q rfl rfl rfl (so_row rfl li) hg) rfl ?_;refine s_call rfl rfl (cd) rfl rfl rfl rfl ?_;refine mvQ ?_;refine s_extract rfl rfl rfl ?_;refine s_extract rfl rfl rfl ?_;refine s_alloc rfl rfl rfl rfl rfl (nr_grid (by repeat (first|exact allE_nil|refine allE_cons rfl ?_|refine allE_cons (own_nr (by omega)) ?_|refine allE_cons (pe_nr (by omega)) ?_|refine allE_cons (tl_nr (by decide)) ?_)) rfl (permC_noRef (by decide))) ?_;refine s_store rfl rfl rfl rfl rfl ?_;refine asQ ?_;refine s_end (hK _ ?_); clear hK K;refine AWP_reg_seq tok fun K hK => ?_;refine mvQ ?_;refine asQ ?_;refine s_end (hK _ ?_); clear hK K
      refine AWP_block (a_loop (α := Nat) (fun j => mk 138 [(2, .ptr 2 0), (4, .val (.one (.own 17 1 0 n))), (7, .ptr 7 0), (8, dI i), (11, .val (.one (.own (1000 + τ r) 4 0 n))), (12, .ptr 12 0), (14, dI j), (33, dI n), (34, dI i), (91, tlS 17 n i), (92, dI (n - (i + 1) : Nat)), (93, dI p)] ([(2, some box0), (7, some (.box (qzW (det1 * A' k i)).cs)), (12, some (.box (qzW (A' (swp i k r) i / A' k i)).cs)), (17, some (.box (permC 1000 4 n n τ)))] ++ rowsO 1000 4 n (fun s => rowD n (wV W (τ r) i j (fun c => stp i k A' r c) s))) [17])
        (fun j => i ≤ j ∧ j ≤ n) (fun j => n - j) i ?_ ⟨Nat.le_refl _, hi⟩ ?_)
      · simp only [wV_0];exact Wk.gkeep (B := 1000) ⟨rfl, rfl, rfl, rfl, rfl, rfl, rfl, rfl, rfl, rfl, rfl, rfl, trivial⟩ ⟨rfl, rfl, rfl, rfl, trivial⟩ rfl (fun q hq => by rw [so_cons, if_neg (by omega), so_cons, if_neg (by omega), so_hi rfl hq])
      rintro j ⟨hij, hjn⟩
      refine AWP_seq ?_;refine AWP_reg_seq tok fun K hK => ?_;refine mvQ ?_;refine mvQ ?_;refine s_blt rfl rfl rfl ?_;refine biQ ?_;refine s_end (hK _ ?_); clear hK K;refine a_cond rfl (fun hy => ?_) (fun hy => ?_)
      · have hy : j < n := by simp at hy; omega
        have cl := sLess_c (W (τ r) j) (qzW (A' (swp i k r) i / A' k i)) (W (τ i) j) (stp i k A' r j) ((orr j hij hy).mono rfl) ((qzW_ok qq).mono rfl) ((oi j hij hy).mono rfl) (by rw [qzW_v, vr j hij hy, vi j hij hy]; simp only [stp]; rw [if_pos ⟨hir, hij⟩])
        refine AWP_skip ?_;show AWP _ _ _ _ _ _;refine AWP_seq ?_;refine AWP_block ?_;refine a_draw1 tok mixed (A := [[], [], [], [], [], [2, 3], [], [], [], [], [7, 8], [], [7, 8, 9], [7, 8, 9, 10, 11], [2, 3, 4, 7, 8, 9, 10, 11, 12], [], []]) (an := [{}, {}, {}, {}, {}, {}, {}, {}, {}, {}, {}, {}, {}, {}, {}, {}, {}]) rfl (by kernel_rfl) rfl fun K hK => ?_;refine mvQ ?_;refine mvQ ?_;refine mvQ ?_;refine mvQ ?_;refine s_indexAddr rfl (x_o (i := j) (j := j) rfl rfl rfl rfl rfl hy (Nat.zero_add _)) rfl ?_;refine s_load rfl (l_qv (x := W (τ r) j) rfl rfl rfl (so_row rfl lr) hy (by simp only [wV, if_true]; rw [if_neg (by omega)])) rfl ?_;refine ldQ ?_;refine mvQ ?_;refine mvQ ?_;refine s_indexAddr rfl (x_o (i := i) (j := i) rfl rfl rfl rfl rfl hg (Nat.zero_add _)) rfl ?_;refine s_load rfl (l_box rfl rfl rfl rfl (permC_get hg)) rfl ?_;refine mvQ ?_;refine s_indexAddr rfl (x_o (i := j) (j := j) rfl rfl rfl rfl rfl hy (Nat.zero_add _)) rfl ?_;refine s_load rfl (l_qv (x := W (τ i) j) rfl rfl rfl (so_row rfl li) hy (by simp only [wV]; rw [if_neg (Ne.symm hne)])) rfl ?_;refine s_call rfl rfl (cl) rfl rfl rfl rfl ?_;refine s_indexAddr rfl (x_o (i := j) (j := j) rfl rfl rfl rfl rfl hy (Nat.zero_add _)) rfl ?_;refine s_store rfl (st_q (qzW (stp i k A' r j)) rfl rfl (so_row rfl lr) hy) rfl rfl rfl ?_;refine s_end (hK _ ?_); clear hK K;refine AWP_wk (Wk.gset (B := 1000) (f := τ r) (R' := fun s => rowD n (wV W (τ r) i (j + 1) (fun c => stp i k A' r c) s)) (S0 := [(2, some box0), (7, some (.box (qzW (det1 * A' k i)).cs)), (12, some (.box (qzW (A' (swp i k r) i / A' k i)).cs)), (17, some (.box (permC 1000 4 n n τ)))]) (E' := [(2, .ptr 2 0), (4, .val (.one (.own 17 1 0 n))), (7, .ptr 7 0), (8, dI i), (11, .val (.one (.own (1000 + τ r) 4 0 n))), (12, .ptr 12 0), (14, dI j), (33, dI n), (34, dI i), (91, tlS 17 n i), (92, dI (n - (i + 1) : Nat)), (93, dI p)]) ⟨rfl, rfl, rfl, rfl, rfl, rfl, rfl, rfl, rfl, rfl, rfl, rfl, trivial⟩ rfl lr (fun s _ => ?_)) ?_
        · by_cases e : s = τ r
          · rw [if_pos e, e]; exact (wV_s W hij (fun c => stp i k A' r c)).symm
          · rw [if_neg e];refine rowD_congr fun c _ => ?_;simp only [wV]; rw [if_neg e, if_neg e]
        show AWP _ _ _ _ _ _;refine AWP_reg tok fun K hK => ?_;refine mvQ ?_;refine s_bin rfl (e_add (c := ((j + 1 : Nat) : Int)) (by omega) (by omega)) rfl ?_;refine asQ ?_;refine s_end (hK _ ?_); clear hK K;exact ⟨j + 1, by omega, ⟨by omega, hy⟩, Wk.gkeep (B := 1000) ⟨rfl, rfl, rfl, rfl, rfl, rfl, rfl, rfl, rfl, rfl, rfl, rfl, trivial⟩ ⟨rfl, rfl, rfl, rfl, trivial⟩ rfl (fun q hq => so_hi rfl hq)⟩
      have hy : j = n := by simp at hy; omega
      subst hy
      refine AWP_exit ?_;show AWP _ _ _ _ _ _;refine AWP_reg tok fun K hK => ?_;refine s_bin rfl (e_add (c := ((p + 1 : Nat) : Int)) (by omega) (by omega)) rfl ?_;refine mvQ ?_;refine s_end (hK _ ?_); clear hK K;exact ⟨(p + 1, wV W (τ r) i j (fun c => stp i k A' r c)), by show j - (i + 1) - (p + 1) < j - (i + 1) - p; omega, ⟨by show p + 1 ≤ j - (i + 1); omega, by show ER j i k (i + 1 + (p + 1)) _ τ A'; rw [show i + 1 + (p + 1) = r + 1 by omega]; exact hER.row hir hrn hsq⟩, Wk.gkeep (B := 1000) ⟨rfl, rfl, rfl, rfl, rfl, rfl, rfl, rfl, rfl, trivial⟩ ⟨rfl, rfl, rfl, trivial⟩ rfl (fun q hq => so_hi rfl hq)⟩
    have hx : i + 1 + p = n := by simp at hx; omega
    rw [hx] at hER;refine AWP_exit ?_;show AWP _ _ _ _ _ _;refine AWP_reg tok fun K hK => ?_;refine s_bin rfl (e_add (c := ((i + 1 : Nat) : Int)) (by omega) (by omega)) rfl ?_;refine mvQ ?_;refine s_end (hK _ ?_); clear hK K
    have hd' : n - (i + 1) = d := by omega
    exact ⟨(i + 1, det1 * A' k i, W, τ, stp i k A'), by show n - (i + 1) < n - i; omega, ⟨hg, hER.done, by show elB n (n - (i + 1)) (i + 1) _; rw [hd']; exact hB2, by show elS n (n - (i + 1)) (i + 1) _ _ = D; rw [hd']; exact hD, qd2⟩, Wk.gkeep (B := 1000) ⟨rfl, rfl, rfl, rfl, rfl, trivial⟩ ⟨rfl, rfl, rfl, trivial⟩ rfl (fun q hq => so_hi rfl hq)⟩
  · have hg : i = n := by simp at hg; omega
    subst hg
    have hD : det = D := by rw [Nat.sub_self] at hD; exact hD
    rw [hD];refine AWP_exit ?_;show AWP _ _ _ _ _ _;refine AWP_reg_seq tok fun K hK => ?_;refine ldQ ?_;refine s_store rfl rfl rfl rfl rfl ?_;refine asQ ?_;refine s_end (hK _ ?_); clear hK K;refine AWP_ret ?_
    repeat (with_reducible refine tq_ret ?_)
    exact post_ret (fin_mk (by rfl) (by rfl) (by rfl))
end Go.Proofs.YtgopibpkgmafiaaGreat

/- Minors. No condition. -/
namespace Go.Proofs.YtgopibpkgmafiaaGreat
attribute [local irreducible] lexA

def kc (d i : Nat) : Nat := if i ≤ d then i else i - 1
theorem sk_kc {d i : Nat} (h : i ≠ d) : sk d (kc d i) = i := by unfold sk kc; split <;> split <;> omega
theorem kc_succ {d i : Nat} (h : i ≠ d) : kc d (i + 1) = kc d i + 1 := by unfold kc; split <;> split <;> omega
theorem kc_same (d : Nat) : kc d (d + 1) = kc d d := by unfold kc; split <;> split <;> omega
theorem kc_le {d n : Nat} (h : d < n) {i : Nat} (hi : i ≤ n) : kc d i ≤ n - 1 := by unfold kc; split <;> omega
theorem kc_n {d n : Nat} (h : d < n) : kc d n = n - 1 := by unfold kc; split <;> omega
def minF (F : Nat → Nat → RW) (d a b : Nat) : RW := qzW (F (sk d a) (sk d b)).v
def minorV (m : List (List RW)) (drop : Int) : List (List RW) × Int :=
  if validM m = true then (if 0 ≤ drop ∧ drop < (m.length : Int) then (matW (m.length - 1) (m.length - 1) (minF (mtv m) drop.toNat), 0) else ([], 2)) else ([], 1)

set_option maxHeartbeats 1000000 in
theorem sMinor_c (m : List (List RW)) (drop : Int) (hl : m.length ≤ 9223372036854775806) (hr : ∀ r ∈ m, r.length ≤ 9223372036854775806) (ok : okM 65536 m) :
    Con Tryz.prog 36 [V1 (dMs m), dI drop] { v := .tup [.one (.d (dMs (minorV m drop).1)), .one (.d (lI (minorV m drop).2))] } := by
  refine con_intro (fn := Tryz.f36) tok Tryz.func36 (by kernel_rfl) rfl ?_
  intro w0 X
  rw [entry_mkE _ _ [(0, V1 (dMs m)), (1, dI drop)] rfl rfl];refine AWP_reg_seq tok fun K hK => ?_;refine asQ ?_;refine asQ ?_;refine s_end (hK _ ?_); clear hK K;refine AWP_seq ?_;refine AWP_block ?_;refine AWP_reg_seq tok fun K hK => ?_;refine mvQ ?_;refine s_call rfl rfl (sValid_c m hl hr ok) rfl rfl rfl rfl ?_;refine s_un rfl rfl rfl ?_;refine asQ ?_;refine s_end (hK _ ?_); clear hK K;refine a_cond rfl (fun hc => ?_) (fun hc => ?_)
  · have e : minorV m drop = ([], 1) := by rw [minorV, if_neg]; intro h; rw [h] at hc; cases hc
    rw [e];refine AWP_reg_seq tok fun K hK => ?_;refine asQ ?_;refine asQ ?_;refine s_end (hK _ ?_); clear hK K;refine AWP_ret ?_
    repeat (with_reducible refine tq_ret ?_)
    exact post_ret (fin_mk (by rfl) (by rfl) (by rfl))
  have hc : validM m = true := by simpa using hc
  rw [minorV, if_pos hc]
  obtain ⟨hv1, hv2, _⟩ := of_decide_eq_true hc
  obtain ⟨n, hn⟩ : ∃ n, m.length = n := ⟨_, rfl⟩
  have hm : m = matW n n (mtv m) := matW_of hn (fun r hr => (hv2 r hr).trans hn)
  have oF : ∀ i j, i < n → j < n → (mtv m i j).OK 65536 := fun i j hi hj => by rw [hm] at ok; exact okM_mat ok hi hj
  rw [hn] at hv1 ⊢;generalize mtv m = F at *;clear hv2 hc hr hl ok hn
  subst hm
  refine a_join (α := Bool) (fun c => mk 57 [(0, V1 (dMs (matW n n F))), (1, dI drop), (16, dB c)] [] []) (fun c => c = !decide (0 ≤ drop ∧ drop < (n : Int))) ?_ ?_
  · refine AWP_regW fun K hK => ?_;refine w_step tok rfl ?_;refine mvQ ?_;refine s_end ?_;refine w_step tok rfl ?_;refine biQ ?_;refine s_end ?_;refine w_step tok rfl ?_;refine mvQ ?_;refine s_end ?_;refine w_split (fun h0 => ?_) (fun h0 => ?_)
    · refine w_skip rfl rfl ?_;refine w_skip rfl rfl ?_;refine w_skip rfl rfl ?_;refine w_skip rfl rfl ?_;refine w_step tok rfl ?_;refine piQ ?_;refine s_end ?_;refine w_step tok rfl ?_;refine asQ ?_;refine s_end ?_;refine w_end rfl (hK _ ?_); clear hK K;exact ⟨_, (by simp only [decide_eq_true_eq, decide_eq_false_iff_not, Int.not_lt] at h0; rw [Bool.eq_iff_iff]; simp only [Bool.not_eq_true', decide_eq_false_iff_not, decide_eq_true_eq, true_iff, ge_iff_le]; omega), Wk.mk' ⟨rfl, rfl, rfl, trivial⟩ trivial⟩
    · refine w_step tok rfl ?_;refine mvQ ?_;refine s_end ?_;refine w_step tok rfl ?_;refine mvQ ?_;refine s_end ?_;refine w_step tok rfl ?_;refine s_blt rfl (len_mt rfl rfl) rfl ?_;refine s_end ?_;refine w_step tok rfl ?_;refine biQ ?_;refine s_end ?_;refine w_step tok rfl ?_;refine piQ ?_;refine s_end ?_;refine w_step tok rfl ?_;refine asQ ?_;refine s_end ?_;refine w_end rfl (hK _ ?_); clear hK K;exact ⟨_, (by simp only [decide_eq_true_eq, decide_eq_false_iff_not, Int.not_lt] at h0; rw [Bool.eq_iff_iff]; simp only [Bool.not_eq_true', decide_eq_false_iff_not, decide_eq_true_eq, true_iff, ge_iff_le]; omega), Wk.mk' ⟨rfl, rfl, rfl, trivial⟩ trivial⟩
  rintro c rfl
  refine a_cond rfl (fun hd => ?_) (fun hd => ?_)
  · rw [Bool.not_eq_true'] at hd
    have hd : ¬ (0 ≤ drop ∧ drop < (n : Int)) := of_decide_eq_false hd
    rw [if_neg hd];refine AWP_reg_seq tok fun K hK => ?_;refine asQ ?_;refine asQ ?_;refine s_end (hK _ ?_); clear hK K;refine AWP_ret ?_
    repeat (with_reducible refine tq_ret ?_)
    exact post_ret (fin_mk (by rfl) (by rfl) (by rfl))
  rw [Bool.not_eq_false'] at hd
  have hd : 0 ≤ drop ∧ drop < (n : Int) := of_decide_eq_true hd
  rw [if_pos hd]
  obtain ⟨d, rfl⟩ : ∃ d : Nat, drop = d := ⟨drop.toNat, by omega⟩
  have hdn : d < n := by omega
  rw [Int.toNat_natCast];refine AWP_skip ?_;show AWP _ _ _ _ _ _;refine AWP_reg_seq tok fun K hK => ?_;refine asQ ?_;refine s_end (hK _ ?_); clear hK K;refine AWP_seq ?_;refine AWP_reg_seq tok fun K hK => ?_;refine mvQ ?_;refine s_blt rfl (len_mt rfl rfl) rfl ?_;refine mvQ ?_;refine s_end (hK _ ?_); clear hK K;refine AWP_block (a_loop (α := Nat) (fun i => mk 57 [(1, dI d), (6, ownN 200 1 (kc d i)), (25, V1 (dMs (matW n n F))), (26, dI n), (27, dI i)] [(200, arrN 1 ((matW (kc d i) (n - 1) (minF F d)).map cM) (kc d i))] []) (fun i => i ≤ n) (fun i => n - i) 0 ?_ (Nat.zero_le _) ?_)
  · have e0 : kc d 0 = 0 := by unfold kc; rw [if_pos (by omega)]
    rw [e0];exact Wk.mk' ⟨rfl, rfl, rfl, rfl, rfl, trivial⟩ ⟨rfl, trivial⟩
  intro i hi
  refine AWP_reg_seq tok fun K hK => ?_;refine biQ ?_;refine s_end (hK _ ?_); clear hK K;refine AWP_seq ?_;refine a_cond rfl (fun hg => ?_) (fun hg => ?_)
  · have hg : i < n := by simp at hg; omega
    have n1 := matW_succ (kc d i) (n - 1) (minF F d)
    have z1 := matW_mlength (kc d i) (n - 1) (minF F d)
    refine AWP_skip ?_;show AWP _ _ _ _ _ _;refine AWP_seq ?_;refine AWP_block ?_;refine AWP_reg_seq tok fun K hK => ?_;refine mvQ ?_;refine s_indexAddr rfl (x_mt rfl rfl rfl rfl rfl hg) rfl ?_;refine ldQ ?_;refine asQ ?_;refine asQ ?_;refine s_end (hK _ ?_); clear hK K;refine AWP_seq ?_;refine AWP_reg_seq tok fun K hK => ?_;refine mvQ ?_;refine mvQ ?_;refine biQ ?_;refine s_end (hK _ ?_); clear hK K;refine a_cond rfl (fun hx => ?_) (fun hx => ?_)
    · have hx : i = d := by simp at hx; omega
      subst hx
      refine AWP_exit ?_;show AWP _ _ _ _ _ _;refine AWP_reg tok fun K hK => ?_;refine s_bin rfl (e_add (c := ((i + 1 : Nat) : Int)) (by omega) (by omega)) rfl ?_;refine mvQ ?_;refine s_end (hK _ ?_); clear hK K;refine ⟨i + 1, by omega, hg, ?_⟩;rw [kc_same];exact Wk.mk' ⟨rfl, rfl, rfl, rfl, rfl, trivial⟩ ⟨rfl, trivial⟩
    have hx : i ≠ d := by simp at hx; omega
    have hsk := sk_kc hx
    have hks := kc_succ hx
    rw [← hks] at n1;generalize (matW (kc d i) (n - 1) (minF F d)).map cM = es at n1 z1 ⊢
    obtain ⟨a, ha⟩ : ∃ a, a = kc d i := ⟨_, rfl⟩
    rw [← ha] at hsk hks n1 z1 ⊢;refine AWP_skip ?_;show AWP _ _ _ _ _ _;refine AWP_reg_seq tok fun K hK => ?_;refine asQ ?_;refine s_end (hK _ ?_); clear hK K;refine AWP_seq ?_;refine AWP_reg_seq tok fun K hK => ?_;refine mvQ ?_;refine s_blt rfl (len_v rfl rfl) rfl ?_;refine mvQ ?_;refine s_end (hK _ ?_); clear hK K;refine AWP_block (a_loop (α := Nat) (fun j => mk 57 [(1, dI d), (6, ownN 200 1 a), (9, ownN 201 4 (kc d j)), (25, V1 (dMs (matW n n F))), (26, dI n), (27, dI i), (35, V1 (dRs (vecW n (F i)))), (36, dI n), (37, dI j)] [(200, arrN 1 es a), (201, arrN 4 (rowD (kc d j) (minF F d a)) (kc d j))] []) (fun j => j ≤ n) (fun j => n - j) 0 ?_ (Nat.zero_le _) ?_)
    · have e0 : kc d 0 = 0 := by unfold kc; rw [if_pos (by omega)]
      rw [e0];exact Wk.mk' ⟨rfl, rfl, rfl, rfl, rfl, rfl, rfl, rfl, rfl, trivial⟩ ⟨rfl, rfl, trivial⟩
    intro j hj
    refine AWP_reg_seq tok fun K hK => ?_;refine biQ ?_;refine s_end (hK _ ?_); clear hK K;refine AWP_seq ?_;refine a_cond rfl (fun hf => ?_) (fun hf => ?_)
    · have hf : j < n := by simp at hf; omega
      have n2 := rowD_succ (kc d j) (minF F d a)
      have z2 := rowD_length (kc d j) (minF F d a)
      obtain ⟨b, hb⟩ : ∃ b, b = kc d j := ⟨_, rfl⟩
      have hb1 := kc_le hdn hj
      rw [← hb] at n2 z2 hb1 ⊢
      have cn := qNorm_t (F i j) ((oF i j hg hf).mono rfl)
      refine AWP_skip ?_;show AWP _ _ _ _ _ _;refine AWP_seq ?_;refine AWP_block ?_;refine AWP_reg_seq tok fun K hK => ?_;refine mvQ ?_;refine s_indexAddr rfl (x_v rfl rfl rfl rfl rfl hf) rfl ?_;refine ldQ ?_;refine s_alloc rfl rfl rfl rfl rfl (by rcases a with _|a <;> rcases b with _|b <;> rfl) ?_;refine asQ ?_;refine s_store rfl rfl rfl rfl rfl ?_;refine s_end (hK _ ?_); clear hK K;refine AWP_reg_seq tok fun K hK => ?_;refine mvQ ?_;refine mvQ ?_;refine biQ ?_;refine s_end (hK _ ?_); clear hK K;refine a_cond rfl (fun hy => ?_) (fun hy => ?_)
      · have hy : j ≠ d := by simp at hy; omega
        have hskj := sk_kc hy
        have hksj := kc_succ hy
        rw [← hb] at hskj hksj
        have ev : minF F d a b = qzW (F i j).v := by unfold minF; rw [hsk, hskj]
        rw [ev, ← hksj] at n2;generalize rowD b (minF F d a) = rs at n2 z2 ⊢
        rcases b with _ | b
        · refine AWP_reg tok fun K hK => ?_;refine mvQ ?_;refine ldQ ?_;refine s_call rfl rfl (cn) rfl rfl rfl rfl ?_;refine s_buildSlice rfl rfl (by rcases a with _|a <;> rfl) rfl ?_;refine s_append rfl (ap_nil rfl rfl rfl rfl rfl (by decide) (Nat.le_of_ble_eq_true rfl) rfl (by simp) rfl (by simp) (by simp)) (by rcases a with _|a <;> rfl) rfl rfl ?_;refine asQ ?_;refine s_end (hK _ ?_); clear hK K;show AWP _ _ _ _ _ _;refine AWP_reg tok fun K hK => ?_;refine s_bin rfl (e_add (c := ((j + 1 : Nat) : Int)) (by omega) (by omega)) rfl ?_;refine mvQ ?_;refine s_end (hK _ ?_); clear hK K;refine ⟨j + 1, by omega, hf, ?_⟩;rw [hksj] at n2 ⊢;refine Wk.rn [1, 6, 9, 25, 26, 27, 35, 36, 37] [200, 49] 49 201 rfl rfl (by rcases a with _|a <;> rfl) ⟨rfl, (by rcases a with _|a <;> rfl), ?_, rfl, rfl, rfl, rfl, rfl, rfl, trivial⟩ ⟨(by rcases a with _|a <;> rfl), ?_, trivial⟩
          · first
              | rfl
              | (show SV.val (.one (.own 201 4 0 _)) = _
                 rw [List.length_append, z2]; rfl)
          · first
              | (rw [← n2, List.length_eq_zero_iff.1 z2]; rfl)
              | (rw [← n2]; rfl)
        · refine AWP_reg tok fun K hK => ?_;refine mvQ ?_;refine ldQ ?_;refine s_call rfl rfl (cn) rfl rfl rfl rfl ?_;refine s_buildSlice rfl rfl (by rcases a with _|a <;> rfl) rfl ?_;refine s_append rfl (ap_o rfl rfl rfl rfl rfl rfl (by decide) (Nat.le_of_ble_eq_true rfl) rfl (by simp) rfl rfl z2.symm (by simp <;> omega)) (by rcases a with _|a <;> rfl) rfl rfl ?_;refine asQ ?_;refine s_end (hK _ ?_); clear hK K;show AWP _ _ _ _ _ _;refine AWP_reg tok fun K hK => ?_;refine s_bin rfl (e_add (c := ((j + 1 : Nat) : Int)) (by omega) (by omega)) rfl ?_;refine mvQ ?_;refine s_end (hK _ ?_); clear hK K;refine ⟨j + 1, by omega, hf, ?_⟩;rw [hksj] at n2 ⊢;refine Wk.rn [1, 6, 9, 25, 26, 27, 35, 36, 37] [200, 49] 49 201 rfl rfl (by rcases a with _|a <;> rfl) ⟨rfl, (by rcases a with _|a <;> rfl), ?_, rfl, rfl, rfl, rfl, rfl, rfl, trivial⟩ ⟨(by rcases a with _|a <;> rfl), ?_, trivial⟩
          · first
              | rfl
              | (show SV.val (.one (.own 201 4 0 _)) = _
                 rw [List.length_append, z2]; rfl)
          · first
              | (rw [← n2, List.length_eq_zero_iff.1 z2]; rfl)
              | (rw [← n2]; rfl)
      · have hy : j = d := by simp at hy; omega
        subst hy
        refine AWP_skip ?_;show AWP _ _ _ _ _ _;refine AWP_reg tok fun K hK => ?_;refine s_bin rfl (e_add (c := ((j + 1 : Nat) : Int)) (by omega) (by omega)) rfl ?_;refine mvQ ?_;refine s_end (hK _ ?_); clear hK K;refine ⟨j + 1, by omega, hf, ?_⟩;rw [kc_same, ← hb];exact Wk.mk' ⟨rfl, rfl, rfl, rfl, rfl, rfl, rfl, rfl, rfl, trivial⟩ ⟨rfl, rfl, trivial⟩
    have hf : j = n := by simp at hf; omega
    subst hf
    refine AWP_exit ?_;show AWP _ _ _ _ _ _;rw [kc_n hdn]
    obtain ⟨p, hp⟩ : ∃ p, j - 1 = p + 1 := ⟨j - 2, by omega⟩
    have ha1 : a ≤ j - 1 := by rw [ha]; exact kc_le hdn (by omega)
    rw [hp] at n1 ⊢
    rcases a with _ | a
    · refine a_fz [1, 6, 9, 25, 26, 27] [200, 201] 201 [(1, dI d), (6, ownN 200 1 (0)), (9, V1 (dRs (vecW (p + 1) (minF F d (0))))), (25, V1 (dMs (matW j j F))), (26, dI j), (27, dI i)] [(200, arrN 1 es (0))] rfl ?_ ⟨rfl, trivial⟩ ?_
      · exact ⟨rfl, rfl, frz_own (vec_dc _ _).symm (by simp [vecW]), rfl, rfl, rfl, trivial⟩
      refine AWP_reg tok fun K hK => ?_;refine mvQ ?_;refine mvQ ?_;refine s_buildSlice rfl rfl rfl rfl ?_;refine s_append rfl (ap_nil rfl rfl rfl rfl rfl (by decide) (Nat.le_of_ble_eq_true rfl) rfl (by simp) rfl (by simp) (by simp)) rfl rfl rfl ?_;refine asQ ?_;refine s_end (hK _ ?_); clear hK K;show AWP _ _ _ _ _ _;refine AWP_reg tok fun K hK => ?_;refine s_bin rfl (e_add (c := ((i + 1 : Nat) : Int)) (by omega) (by omega)) rfl ?_;refine mvQ ?_;refine s_end (hK _ ?_); clear hK K;refine ⟨i + 1, by omega, hg, ?_⟩;rw [hks] at n1 ⊢;refine Wk.rn [1, 6, 25, 26, 27] [54] 54 200 rfl rfl rfl ⟨rfl, ?_, rfl, rfl, rfl, trivial⟩ ⟨?_, trivial⟩
      · first
          | rfl
          | (show SV.val (.one (.own 200 1 0 _)) = _
             rw [List.length_append, z1]; rfl)
      · first
          | (rw [← n1, List.length_eq_zero_iff.1 z1]; rfl)
          | (rw [← n1]; rfl)
    · refine a_fz [1, 6, 9, 25, 26, 27] [200, 201] 201 [(1, dI d), (6, ownN 200 1 (a + 1)), (9, V1 (dRs (vecW (p + 1) (minF F d (a + 1))))), (25, V1 (dMs (matW j j F))), (26, dI j), (27, dI i)] [(200, arrN 1 es (a + 1))] rfl ?_ ⟨rfl, trivial⟩ ?_
      · exact ⟨rfl, rfl, frz_own (vec_dc _ _).symm (by simp [vecW]), rfl, rfl, rfl, trivial⟩
      refine AWP_reg tok fun K hK => ?_;refine mvQ ?_;refine mvQ ?_;refine s_buildSlice rfl rfl rfl rfl ?_;refine s_append rfl (ap_o rfl rfl rfl rfl rfl rfl (by decide) (Nat.le_of_ble_eq_true rfl) rfl (by simp) rfl rfl z1.symm (by simp <;> omega)) rfl rfl rfl ?_;refine asQ ?_;refine s_end (hK _ ?_); clear hK K;show AWP _ _ _ _ _ _;refine AWP_reg tok fun K hK => ?_;refine s_bin rfl (e_add (c := ((i + 1 : Nat) : Int)) (by omega) (by omega)) rfl ?_;refine mvQ ?_;refine s_end (hK _ ?_); clear hK K;refine ⟨i + 1, by omega, hg, ?_⟩;rw [hks] at n1 ⊢;refine Wk.rn [1, 6, 25, 26, 27] [54] 54 200 rfl rfl rfl ⟨rfl, ?_, rfl, rfl, rfl, trivial⟩ ⟨?_, trivial⟩
      · first
          | rfl
          | (show SV.val (.one (.own 200 1 0 _)) = _
             rw [List.length_append, z1]; rfl)
      · first
          | (rw [← n1, List.length_eq_zero_iff.1 z1]; rfl)
          | (rw [← n1]; rfl)
  have hg : i = n := by simp at hg; omega
  subst hg
  refine AWP_exit ?_;show AWP _ _ _ _ _ _;rw [kc_n hdn]
  obtain ⟨p, hp⟩ : ∃ p, p = i - 1 := ⟨_, rfl⟩
  rw [← hp]
  rcases p with _ | p
  · refine AWP_reg_seq tok fun K hK => ?_;refine mvQ ?_;refine asQ ?_;refine asQ ?_;refine s_end (hK _ ?_); clear hK K;refine AWP_ret ?_
    repeat (with_reducible refine tq_ret ?_)
    exact post_ret (fin_mk (by rfl) (by rfl) (by rfl))
  · refine a_fz [6] [200] 200 [(6, V1 (dMs (matW (p + 1) (p + 1) (minF F d))))] [] rfl ?_ trivial ?_
    · exact ⟨frz_own rfl (matW_mlength _ _ _).symm, trivial⟩
    refine AWP_reg_seq tok fun K hK => ?_;refine mvQ ?_;refine asQ ?_;refine asQ ?_;refine s_end (hK _ ?_); clear hK K;refine AWP_ret ?_
    repeat (with_reducible refine tq_ret ?_)
    exact post_ret (fin_mk (by rfl) (by rfl) (by rfl))
end Go.Proofs.YtgopibpkgmafiaaGreat

/- The graph's resistances, plainly. No condition. -/
namespace Go.Proofs.YtgopibpkgmafiaaGreat
attribute [local irreducible] lexA

def wlk (l : LK) : WL := ⟨l.f.toNat, l.t.toNat, ((l.w : Int) : Rat)⟩
def wls (ls : List LK) : List WL := ls.map wlk
theorem lpl_snoc (p : Nat → Nat) (x : WL) (i j : Nat) : ∀ xs : List WL, lpl p (xs ++ [x]) i j = lpl p xs i j + x.w * (uu p x i * uu p x j)
  | [] => by simp only [List.nil_append, lpl]
  | y :: ys => by simp only [List.cons_append, lpl]; rw [lpl_snoc p x i j ys]; grind
theorem lapD_uu {f t : Nat} {w : Int} (h : f ≠ t) (i j : Nat) : ((lapD f t w i j : Int) : Rat) = (w : Rat) * (uu id ⟨f, t, (w : Rat)⟩ i * uu id ⟨f, t, (w : Rat)⟩ j) := by
  unfold lapD uu
  simp only [id]
  repeat' split
  all_goals first
    | (exfalso; omega)
    | (try simp only [Rat.intCast_neg, Rat.intCast_zero]
       grind)
theorem lap_lpl {n : Nat} {ls : List LK} (h : ∀ l ∈ ls, LV n l) (i j : Nat) : ((lapM ls i j : Int) : Rat) = lpl id (wls ls) i j := by
  have : ∀ k, k ≤ ls.length → ((lapM (ls.take k) i j : Int) : Rat) = lpl id (wls (ls.take k)) i j := by
    intro k
    induction k with
    | zero => intro _; rfl
    | succ k ih =>
      intro hk
      have lv := h ls[k] (List.getElem_mem (by omega))
      have hne : ls[k].f.toNat ≠ ls[k].t.toNat := by have := lv.f; have := lv.t; have := lv.ne; omega
      have e : wls (ls.take (k + 1)) = wls (ls.take k) ++ [wlk ls[k]] := by rw [wls, List.take_succ_eq_append_getElem (by omega), List.map_append]; rfl
      rw [lapM_snoc (by omega), lapS_eq hne, e, lpl_snoc, Rat.intCast_add, ih (by omega), lapD_uu hne]
      rfl
  have h := this ls.length (Nat.le_refl _)
  rwa [List.take_length] at h
section
variable {g : GR} (gv : GV g)
include gv
theorem gLV : ∀ l ∈ g.links, LV g.nodes.length l := fun l hl => linkB_iff.1 (gv.lk l hl)
theorem wls_w : ∀ x ∈ wls g.links, 0 < x.w := fun x hx => by
  obtain ⟨l, hl, rfl⟩ := List.mem_map.1 hx
  have := (gLV gv l hl).w
  show (0 : Rat) < ((l.w : Int) : Rat)
  have h : (0 : Int) < l.w := by omega
  exact_mod_cast h
theorem wls_l : ∀ x ∈ wls g.links, x.f < g.nodes.length ∧ x.t < g.nodes.length := fun x hx => by
  obtain ⟨l, hl, rfl⟩ := List.mem_map.1 hx
  have h1 := (gLV gv l hl).f
  have h2 := (gLV gv l hl).t
  exact ⟨by show l.f.toNat < _; omega, by show l.t.toNat < _; omega⟩
end
theorem wls_prs (ls : List LK) : (wls ls).map (fun x => (x.f, x.t)) = prs ls := by rw [wls, List.map_map]; rfl
def lab (g : GR) (v : Nat) : Nat := (partsV g).1.getD v 0
def rootN (g : GR) (v : Nat) : Nat := fd (partsR g) v
section
variable {g : GR} (gv : GV g)
include gv
theorem lab_labF (v : Nat) : lab g v = labF (partsR g) g.nodes.length v := by
  unfold lab labF; rw [partsV, if_pos (validB_iff.2 gv)]
theorem prs_lt : ∀ p ∈ prs g.links, p.1 < g.nodes.length ∧ p.2 < g.nodes.length := fun p hp => by
  rw [← wls_prs] at hp
  obtain ⟨x, hx, rfl⟩ := List.mem_map.1 hp
  exact wls_l gv x hx
theorem lab_iff' {u v : Nat} (hu : u < g.nodes.length) (hv : v < g.nodes.length) : lab g u = lab g v ↔ rootN g u = rootN g v := by
  rw [lab_labF gv, lab_labF gv]; exact lab_iff (partsL_ok _ _).1 hu hv
theorem lab_cnn {u v : Nat} (hu : u < g.nodes.length) (hv : v < g.nodes.length) : lab g u = lab g v ↔ Cnn (prs g.links) u v := by
  rw [lab_iff' gv hu hv]
  unfold rootN partsR
  rw [partsL_uniL];exact uniL_iff _ _ (prs_lt gv) u v hu hv
theorem parts_length : (partsV g).1.length = g.nodes.length := by rw [partsV, if_pos (validB_iff.2 gv)]; exact num_length _ _
theorem lab_link {x : WL} (hx : x ∈ wls g.links) : lab g x.f = lab g x.t := by
  obtain ⟨h1, h2⟩ := wls_l gv x hx
  rw [lab_cnn gv h1 h2, ← wls_prs];exact .one (Or.inl (List.mem_map.2 ⟨x, hx, rfl⟩))
end
def grS (g : GR) (j v : Nat) : Bool := decide (lab g v = lab g j) && decide (v ≠ j)
def grL (g : GR) (j k : Nat) : List Nat := (List.range k).filter (grS g j)
def resRow (g : GR) (j v : Nat) : List RW := (grL g j g.nodes.length).map fun w => qzW ((lapM g.links v w : Int) : Rat)
def resM (g : GR) (j : Nat) : List (List RW) := (grL g j g.nodes.length).map (resRow g j)
def resK (g : GR) (j : Nat) : Nat := kN g.nodes.length (grS g j)
def resA (g : GR) (i j : Nat) : Nat := kN i (grS g j)
def resD (g : GR) (i j : Nat) : List RW := vecW (resK g j) fun t => if t = resA g i j then qzW 1 else qzW 0
def resQ (g : GR) (i j : Nat) : Rat := if i = j then 0 else slv (matV (resM g j)) (rhsV (resD g i j)) (resK g j) (resA g i j)
theorem grS_iff {g : GR} {j v : Nat} : grS g j v = true ↔ lab g v = lab g j ∧ v ≠ j := by simp [grS]
theorem resM_length (g : GR) (j : Nat) : (resM g j).length = resK g j := by simp [resM, resK, grL, kN]
theorem mapD {α β : Type} {l : List α} {f : α → β} {a : Nat} {x : α} {d : β} (h : a < l.length) : (l.map f).getD a d = f (l.getD a x) := by simp [h]
theorem resM_at {g : GR} {j a b : Nat} (ha : a < resK g j) (hb : b < resK g j) : mtv (resM g j) a b = qzW ((lapM g.links (vL g.nodes.length (grS g j) a) (vL g.nodes.length (grS g j) b) : Int) : Rat) := by
  have hl : (grL g j g.nodes.length).length = resK g j := rfl
  unfold mtv resM
  rw [mapD (x := 0) (by omega)]
  unfold resRow
  rw [mapD (x := 0) (by omega)]
  rfl
theorem resD_at {g : GR} {i j a : Nat} (ha : a < resK g j) : rhsV (resD g i j) a = if a = resA g i j then 1 else 0 := by
  unfold rhsV resD vecW
  have : ((List.range (resK g j)).map fun t => if t = resA g i j then qzW 1 else qzW 0).getD a rw00 = if a = resA g i j then qzW 1 else qzW 0 := by simp [ha]
  rw [this]
  split
  · exact qzW_v 1
  · exact qzW_v 0
structure RES (g : GR) (i j : Nat) : Prop where
  val : validM (resM g j) = true
  ok : okM 65536 (resM g j)
  fac : facS (matV (resM g j)) (resK g j)
  pos : posB (matV (resM g j)) (resK g j) = true
  sol : solS (matV (resM g j)) (rhsV (resD g i j)) (resK g j)
  at_ : resA g i j < resK g j
  res : IsR g.nodes.length (wls g.links) i j (resQ g i j)
  bnd : ql (resQ g i j) ≤ 65536
theorem res_all {g : GR} {i j : Nat} (gv : GV g) (hi : i < g.nodes.length) (hj : j < g.nodes.length) (hij : i ≠ j) (hl : lab g i = lab g j) : RES g i j := by
  have n16 := gv.n2
  have hSj : grS g j j = false := by simp [grS]
  have hSi : grS g j i = true := grS_iff.2 ⟨hl, hij⟩
  have hK : resK g j < g.nodes.length := kN_lt hj hSj
  obtain ⟨a1, a2⟩ := vL_at hi hSi
  have hK16 : resK g j ≤ 16 := by omega
  have hM : ∀ a b, -50331648 ≤ lapM g.links a b ∧ lapM g.links a b ≤ 50331648 := fun a b => by
    have h1 := lapM_le g.links (gLV gv) a b
    have h2 := gv.l
    omega
  have hB : ∀ a b, a < resK g j → b < resK g j → matV (resM g j) a b = lpl id (wls g.links) (vL g.nodes.length (grS g j) a) (vL g.nodes.length (grS g j) b) := fun a b ha hb => by
    unfold matV; rw [resM_at ha hb, qzW_v, lap_lpl (gLV gv)]
  have hIB : ∀ a b, a < resK g j → b < resK g j → IB 26 (matV (resM g j) a b) := fun a b ha hb => by
    unfold matV; rw [resM_at ha hb, qzW_v]
    have := hM (vL g.nodes.length (grS g j) a) (vL g.nodes.length (grS g j) b)
    exact ⟨_, rfl, by have e : (2 : Nat) ^ 26 = 67108864 := by decide
                      rw [e]; omega⟩
  have hIb : ∀ a, a < resK g j → IB 26 (rhsV (resD g i j) a) := fun a ha => by
    rw [resD_at ha]; split
    · exact IB_one.mono (by omega)
    · exact IB_zero 26
  have hc : ∀ v, v < g.nodes.length → grS g j v = true → Cnn ((wls g.links).map fun x => (x.f, x.t)) v j := fun v hv hS => by
    rw [wls_prs]; exact (lab_cnn gv hv hj).1 (grS_iff.1 hS).1
  obtain ⟨hs', hD0⟩ := ground_pd (wls_w gv) (wls_l gv) hSj hc hB
  have hs : ∀ a b, a < resK g j → b < resK g j → matV (resM g j) a b = matV (resM g j) b a := hs'
  have hD : ∀ k, k < resK g j → 0 < DD (matV (resM g j)) k := hD0
  have hJ : resK g j * (26 + 4) < 32 * 15 := by omega
  have hD' : ∀ k, k < resK g j → DD (matV (resM g j)) k ≠ 0 := fun k hk => by have := hD k hk; grind
  have qD : ∀ k, k < resK g j → ql (DD (matV (resM g j)) k) ≤ 15 := fun k hk => DD_ql hs hIB hK16 hJ hk fun k' hk' => hD' k' (by omega)
  have qL : ∀ a b, a < resK g j → b < a → ql (LL (matV (resM g j)) a b) ≤ 15 := fun a b ha hb => LL_ql hs hIB hK16 hJ ha hb fun k' hk' => hD' k' (by omega)
  have qb : ∀ a, a < resK g j → ql (rhsV (resD g i j) a) ≤ 1 := fun a ha => by
    rw [resD_at ha]; split <;> decide
  have qS : ∀ a, a < resK g j → ql (slv (matV (resM g j)) (rhsV (resD g i j)) (resK g j) a) ≤ 15 := fun a ha => slv_ql hs hIB hIb hK16 hJ hD' ha
  have eQ : resQ g i j = slv (matV (resM g j)) (rhsV (resD g i j)) (resK g j) (resA g i j) := if_neg hij
  refine ⟨?_, ?_, ?_, decide_eq_true hD, ⟨?_, fun a ha => Nat.le_trans (qS a ha) (by decide)⟩, a1, ?_, ?_⟩
  · refine decide_eq_true ⟨by rw [resM_length]; omega, fun r hr => ?_, fun a ha b hb => ?_⟩
    · obtain ⟨v, _, rfl⟩ := List.mem_map.1 hr
      rw [resM_length]
      simp [resRow, resK, grL, kN]
    · rw [resM_length] at ha;exact hs a b ha (by omega)
  · intro r hr x hx
    obtain ⟨v, _, rfl⟩ := List.mem_map.1 hr
    obtain ⟨w, _, rfl⟩ := List.mem_map.1 hx
    have := hM v w
    exact (qzW_ok (ql_i64 ⟨by omega, by omega⟩)).mono rfl
  · intro a ha _
    exact ⟨Nat.le_trans (qD a ha) (by decide), fun b hb => Nat.le_trans (qL a b ha hb) (by decide)⟩
  · intro a ha
    have h1 := fwv_ql qL qb a ha
    have h2 : 2 ^ a ≤ 2 ^ 14 := Nat.pow_le_pow_right (by decide) (by omega)
    have h3 : (1 + 15 + 1) * 2 ^ a ≤ 17 * 2 ^ 14 := Nat.mul_le_mul_left _ h2
    have h4 : 17 * 2 ^ 14 = 278528 := by decide
    omega
  · rw [eQ]
    obtain ⟨u, u1, u2⟩ := ground_UF (x := slv (matV (resM g j)) (rhsV (resD g i j)) (resK g j)) (wls_l gv) hi hj hSi hSj hB (fun a ha => by
      have := slv_eq (n := resK g j) (b := rhsV (resD g i j)) hs hD' ha
      show sm (resK g j) _ = _
      rw [this, resD_at ha]
      by_cases e : a = resA g i j
      · rw [if_pos e, if_pos (by rw [e]; exact a2)]
      · rw [if_neg e, if_neg (fun e' => e (vL_inj ha a1 (e'.trans a2.symm)))]) (fun y hy => by
      have := lab_link gv hy
      have p : ∀ v, (grS g j v = true ∨ v = j) ↔ lab g v = lab g j := fun v => by
        rw [grS_iff]
        by_cases e : v = j
        · subst e; simp
        · simp [e]
      rw [p, p, this])
    exact ⟨u, u1, u2⟩
  · rw [eQ]; exact Nat.le_trans (qS _ a1) (by decide)
end Go.Proofs.YtgopibpkgmafiaaGreat

/- Resistances. No condition. -/
namespace Go.Proofs.YtgopibpkgmafiaaGreat
attribute [local irreducible] lexA

theorem zeros_c (n : Nat) (hn : n ≤ 1048576) : Con Tryz.prog 52 [dI n] { v := .val (.one (.own 0 4 0 n)), ob := some (4, rowD n (fun _ => qzW 0)) } := by
  have cz := qOfI_c 0 ⟨by decide, by decide⟩
  refine con_intro (fn := Tryz.f52) tok Tryz.func52 (by kernel_rfl) rfl ?_
  intro w0 X
  rw [entry_mkE _ _ [(0, dI n)] rfl rfl];refine AWP_reg_seq tok fun K hK => ?_;refine asQ ?_;refine s_end (hK _ ?_); clear hK K;refine AWP_reg_seq tok fun K hK => ?_;refine mvQ ?_;refine s_makeSlice (sz := _) (es := _) (f := _) (v := _) rfl (mk_a (l := n) rfl rfl rfl rfl rfl (Nat.le_of_ble_eq_true rfl) (by decide) rfl rfl (by omega)) rfl rfl ?_;refine asQ ?_;refine s_end (hK _ ?_); clear hK K;refine AWP_seq ?_;refine AWP_reg_seq tok fun K hK => ?_;refine mvQ ?_;refine s_blt rfl rfl rfl ?_;refine mvQ ?_;refine s_end (hK _ ?_); clear hK K;refine AWP_block (a_loop (α := Nat) (fun s => mk 18 [(3, .val (.one (.own 6 4 0 n))), (8, dI n), (9, dI s)] [(6, some (.arr 4 (rowD n (zG s))))] []) (fun s => s ≤ n) (fun s => n - s) 0 ?_ (Nat.zero_le _) ?_)
  · exact Wk.mk' ⟨rfl, rfl, rfl, trivial⟩ ⟨congrArg (fun x => some (OO.arr 4 x)) (rowD_z0 n), trivial⟩
  intro s hs
  refine AWP_reg_seq tok fun K hK => ?_;refine biQ ?_;refine s_end (hK _ ?_); clear hK K;refine AWP_seq ?_;refine a_cond rfl (fun hf => ?_) (fun hf => ?_)
  · have hf : s < n := by simp at hf; omega
    refine AWP_skip ?_;show AWP _ _ _ _ _ _;refine AWP_seq ?_;refine AWP_block ?_;refine AWP_reg_seq tok fun K hK => ?_;refine mvQ ?_;refine asQ ?_;refine s_end (hK _ ?_); clear hK K;refine AWP_reg tok fun K hK => ?_;refine mvQ ?_;refine mvQ ?_;refine s_call rfl rfl (cz) rfl rfl rfl rfl ?_;refine s_indexAddr rfl (x_o (i := s) (j := s) rfl rfl rfl rfl rfl hf (Nat.zero_add _)) rfl ?_;refine s_store rfl (st_q (qzW 0) rfl rfl rfl hf) rfl rfl rfl ?_;refine s_end (hK _ ?_); clear hK K;rw [rowD_zs];show AWP _ _ _ _ _ _;refine AWP_reg tok fun K hK => ?_;refine s_bin rfl (e_add (c := ((s + 1 : Nat) : Int)) (by omega) (by omega)) rfl ?_;refine mvQ ?_;refine s_end (hK _ ?_); clear hK K;exact ⟨s + 1, by omega, hf, Wk.mk' ⟨rfl, rfl, rfl, trivial⟩ ⟨rfl, trivial⟩⟩
  have hf : s = n := by simp at hf; omega
  subst hf
  refine AWP_exit ?_;show AWP _ _ _ _ _ _
  have e : rowD s (zG s) = rowD s (fun _ => qzW 0) := rowD_congr fun i hi => if_pos hi
  rw [e];refine AWP_reg_seq tok fun K hK => ?_;refine mvQ ?_;refine asQ ?_;refine s_end (hK _ ?_); clear hK K;refine AWP_ret ?_;exact post_ret (fin_own (by rfl) rfl)

theorem dNs_nm (g : GR) (gv : GV g) : dNs (partsV g).1 = .sl (nmD g.nodes.length (lab g)) := by
  have hl := parts_length gv
  unfold dNs nmD
  congr 1
  apply List.ext_getElem?
  intro i
  rcases Nat.lt_or_ge i g.nodes.length with hi | hi
  · have hi' : i < (partsV g).1.length := by omega
    simp [hi, hi', lab]
  · rw [List.getElem?_eq_none (by simp; omega), List.getElem?_eq_none (by simp; omega)]
def rstV (g : GR) (i j : Nat) : RW × Int := if lab g i = lab g j then (qzW (resQ g i j), 0) else (rw00, 10)
theorem e_eqN {T : Tab} {t : TypeId} (a b : Nat) : effBin T .eql t (dI a) (dI b) = .set (dB (decide (a = b))) := by
  show setLit (.bool ((a : Int) == (b : Int))) = _
  have : ((a : Int) == (b : Int)) = decide (a = b) := by rw [Bool.eq_iff_iff]; simp only [beq_iff_eq, decide_eq_true_eq]; omega
  rw [this]; rfl
theorem e_neN {T : Tab} {t : TypeId} (a b : Nat) : effBin T .neq t (dI a) (dI b) = .set (dB (decide (a ≠ b))) := by
  show setLit (.bool (!((a : Int) == (b : Int)))) = _
  have : (!((a : Int) == (b : Int))) = decide (a ≠ b) := by
    rw [Bool.eq_iff_iff]; simp only [Bool.not_eq_true', beq_eq_false_iff_ne, ne_eq, decide_eq_true_eq]; omega
  rw [this]; rfl
theorem grL_succ (g : GR) (j k : Nat) : grL g j (k + 1) = if grS g j k = true then grL g j k ++ [k] else grL g j k := by
  unfold grL
  rw [List.range_succ, List.filter_append]
  by_cases h : grS g j k = true
  · rw [if_pos h]; simp [h]
  · rw [if_neg h]; simp [h]
theorem kN_le (n : Nat) (S : Nat → Bool) : kN n S ≤ n := by
  have := List.length_filter_le S (List.range n)
  rwa [List.length_range] at this
theorem grL_length (g : GR) (j k : Nat) : (grL g j k).length = kN k (grS g j) := rfl
def rowE (g : GR) (j v k : Nat) : List (List DC) := ((grL g j k).map fun w => qzW ((lapM g.links v w : Int) : Rat)).map RW.dc

set_option maxHeartbeats 1000000 in
theorem resistance_c (g : GR) (gv : GV g) (i j : Nat) (hi : i < g.nodes.length) (hj : j < g.nodes.length) :
    Con Tryz.prog 27 [AG g.cs, dI i, dI j] { v := .tup [.agg (rstV g i j).1.cs, .one (.d (lI (rstV g i j).2))] } := by
  have cP := gParts_c g
  have e0 : (partsV g).2 = 0 := by rw [partsV, if_pos (validB_iff.2 gv)]
  rw [dNs_nm g gv, e0] at cP
  have cL := gLap_c g
  have e1 : lapV g = (lapQ g.nodes.length (lapM g.links), 0) := by rw [lapV, if_pos (validB_iff.2 gv)]
  rw [e1] at cL
  have eM : lapQ g.nodes.length (lapM g.links) = matW g.nodes.length g.nodes.length (fun a b => qzW ((lapM g.links a b : Int) : Rat)) := rfl
  simp only [eM] at cL
  have cz := qOfI_c 0 ⟨by decide, by decide⟩
  have co := qOfI_c 1 ⟨by decide, by decide⟩
  have n16 := gv.n2
  refine con_intro (fn := Tryz.f27) tok Tryz.func27 (by kernel_rfl) rfl ?_
  intro w0 X
  rw [entry_mkE _ _ [(0, AG g.cs), (1, dI i), (2, dI j)] rfl rfl];refine AWP_reg_seq tok fun K hK => ?_;refine s_box rfl rfl rfl rfl rfl rfl ?_;refine s_alloc rfl rfl rfl rfl rfl rfl ?_;refine asQ ?_;refine s_end (hK _ ?_); clear hK K;refine AWP_reg_seq tok fun K hK => ?_;refine ldQ ?_;refine s_call rfl rfl (cP) rfl rfl rfl rfl ?_;refine mvQ ?_;refine s_extract rfl rfl rfl ?_;refine s_extract rfl rfl rfl ?_;refine asQ ?_;refine asQ ?_;refine s_end (hK _ ?_); clear hK K;refine AWP_seq ?_;refine a_draw tok mixed (A := [[], [], [], [0, 1], [], [], [], [4, 5], [0, 1, 2, 4, 5, 6]]) (an := [{}, {}, {}, {}, {}, {}, {}, {}, {}]) rfl (by kernel_rfl) rfl fun K hK => ?_;refine mvQ ?_;refine mvQ ?_;refine s_indexAddr rfl (x_n rfl rfl rfl rfl rfl hi) rfl ?_;refine ldQ ?_;refine mvQ ?_;refine mvQ ?_;refine s_indexAddr rfl (x_n rfl rfl rfl rfl rfl hj) rfl ?_;refine ldQ ?_;refine s_bin rfl (e_neN _ _) rfl ?_;refine s_end (hK _ ?_); clear hK K;refine a_cond rfl (fun hc => ?_) (fun hc => ?_)
  · have hc := of_decide_eq_true hc
    have e : rstV g i j = (rw00, 10) := by rw [rstV, if_neg hc]
    rw [e];refine AWP_reg_seq tok fun K hK => ?_;refine s_build rfl rfl rfl ?_;refine s_store rfl rfl rfl rfl rfl ?_;refine asQ ?_;refine s_end (hK _ ?_); clear hK K;refine AWP_ret ?_
    repeat (with_reducible refine tq_ret ?_)
    exact post_ret (fin_mk (by rfl) (by rfl) (by rfl))
  have hc : lab g i = lab g j := Classical.byContradiction fun h => of_decide_eq_false hc h
  have e : rstV g i j = (qzW (resQ g i j), 0) := by rw [rstV, if_pos hc]
  rw [e];refine AWP_skip ?_;show AWP _ _ _ _ _ _;refine AWP_seq ?_;refine AWP_reg_seq tok fun K hK => ?_;refine mvQ ?_;refine mvQ ?_;refine s_bin rfl (e_eqN _ _) rfl ?_;refine s_end (hK _ ?_); clear hK K;refine a_cond rfl (fun hd => ?_) (fun hd => ?_)
  · have hd := of_decide_eq_true hd
    have e : resQ g i j = 0 := if_pos hd
    rw [e];refine AWP_reg_seq tok fun K hK => ?_;refine s_call rfl rfl (cz) rfl rfl rfl rfl ?_;refine s_store rfl rfl rfl rfl rfl ?_;refine asQ ?_;refine s_end (hK _ ?_); clear hK K;refine AWP_ret ?_
    repeat (with_reducible refine tq_ret ?_)
    exact post_ret (fin_mk (by rfl) (by rfl) (by rfl))
  have hd : i ≠ j := of_decide_eq_false hd
  have R := res_all gv hi hj hd hc
  have eQ : resQ g i j = slv (matV (resM g j)) (rhsV (resD g i j)) (resK g j) (resA g i j) := if_neg hd
  have hKn : resK g j ≤ 16 := Nat.le_trans (kN_le _ _) n16
  refine AWP_skip ?_;show AWP _ _ _ _ _ _;refine AWP_reg_seq tok fun K hK => ?_;refine ldQ ?_;refine s_call rfl rfl (cL) rfl rfl rfl rfl ?_;refine mvQ ?_;refine s_extract rfl rfl rfl ?_;refine s_extract rfl rfl rfl ?_;refine asQ ?_;refine asQ ?_;refine s_end (hK _ ?_); clear hK K;refine AWP_reg_seq tok fun K hK => ?_;refine asQ ?_;refine s_end (hK _ ?_); clear hK K;refine AWP_reg_seq tok fun K hK => ?_;refine asQ ?_;refine s_end (hK _ ?_); clear hK K;refine AWP_seq ?_;refine AWP_reg_seq tok fun K hK => ?_;refine faQ ?_;refine ldQ ?_;refine s_blt rfl (len_m RW.dc rfl rfl) rfl ?_;refine mvQ ?_;refine s_end (hK _ ?_); clear hK K;generalize hM : (fun a b => qzW ((lapM g.links a b : Int) : Rat)) = F at *
  have hF : ∀ a b, F a b = qzW ((lapM g.links a b : Int) : Rat) := fun a b => by rw [← hM]
  refine AWP_block (a_loop (α := Nat) (fun v => mk 126 [(1, dI i), (2, dI j), (3, .ptr 3 0), (6, .ptr 6 0), (8, V1 (.sl (nmD g.nodes.length (lab g)))), (10, V1 (dMs (matW g.nodes.length g.nodes.length F))), (12, ownN 200 1 (kN v (grS g j))), (13, dI (if i < v then resA g i j else 0 : Nat)), (46, dI g.nodes.length), (47, dI v)] [(3, some (.box g.cs)), (6, some box0), (200, arrN 1 (((grL g j v).map (resRow g j)).map cM) (kN v (grS g j)))] []) (fun v => v ≤ g.nodes.length) (fun v => g.nodes.length - v) 0 ?_ (Nat.zero_le _) ?_)
  · exact Wk.mk' ⟨rfl, rfl, rfl, rfl, rfl, rfl, rfl, rfl, rfl, rfl, trivial⟩ ⟨rfl, rfl, rfl, trivial⟩
  intro v hv
  refine AWP_reg_seq tok fun K hK => ?_;refine biQ ?_;refine s_end (hK _ ?_); clear hK K;refine AWP_seq ?_;refine a_cond rfl (fun hg => ?_) (fun hg => ?_)
  · have hg : v < g.nodes.length := by simp at hg; omega
    have nk : kN v (grS g j) ≤ 16 := Nat.le_trans (kN_le _ _) (by omega)
    have hs := grL_succ g j v
    have z1 : (((grL g j v).map (resRow g j)).map cM).length = kN v (grS g j) := by rw [List.length_map, List.length_map, grL_length]
    have hkl := grL_length g j (v + 1)
    have hkl0 := grL_length g j v
    refine AWP_skip ?_;show AWP _ _ _ _ _ _;refine AWP_seq ?_;refine AWP_block ?_;refine AWP_reg_seq tok fun K hK => ?_;refine mvQ ?_;refine asQ ?_;refine s_end (hK _ ?_); clear hK K;refine AWP_seq ?_;refine a_join (α := Bool) (fun c => mk 126 [(1, dI i), (2, dI j), (3, .ptr 3 0), (6, .ptr 6 0), (8, V1 (.sl (nmD g.nodes.length (lab g)))), (10, V1 (dMs (matW g.nodes.length g.nodes.length F))), (12, ownN 200 1 (kN v (grS g j))), (13, dI (if i < v then resA g i j else 0 : Nat)), (14, dI v), (46, dI g.nodes.length), (47, dI v), (63, dB c)] [(3, some (.box g.cs)), (6, some box0), (200, arrN 1 (((grL g j v).map (resRow g j)).map cM) (kN v (grS g j)))] []) (fun c => c = !(grS g j v)) ?_ ?_
    · have P1 : decide (v = j) = true → true = !(grS g j v) := fun h => by have := of_decide_eq_true h; simp [grS, this]
      have P2 : decide (v = j) = false → decide (lab g v ≠ lab g j) = !(grS g j v) := fun h => by
        have := of_decide_eq_false h
        rw [Bool.eq_iff_iff]; simp [grS, this]
      refine a_draw1 tok mixed (A := [[], [], [], [0, 1], [0, 1, 2], [0, 1, 2], [0, 1, 2], [0, 1, 2, 4, 5], [0, 1, 2], [0, 1, 2], [0, 1, 2], [0, 1, 2, 8, 9], [0, 1, 2, 4, 5, 6, 8, 9, 10], [0, 1, 2, 4, 5, 6, 7, 8, 9, 10, 11]]) (an := [{}, {}, {}, {}, {}, {}, {}, {}, {}, {}, {}, {}, {}, {}]) rfl (by kernel_rfl) rfl fun K hK => ?_;refine mvQ ?_;refine mvQ ?_;refine s_bin rfl (e_eqN _ _) rfl ?_;refine mvQ ?_;refine s_split (fun h0 => ?_) (fun h0 => ?_)
      · refine s_skip rfl ?_;refine s_skip rfl ?_;refine s_skip rfl ?_;refine s_skip rfl ?_;refine s_skip rfl ?_;refine s_skip rfl ?_;refine s_skip rfl ?_;refine s_skip rfl ?_;refine s_skip rfl ?_;refine piQ ?_;refine s_end (hK _ ?_); clear hK K;exact ⟨_, (by first|exact P1 h0|exact P2 h0), Wk.mk' ⟨rfl, rfl, rfl, rfl, rfl, rfl, rfl, rfl, rfl, rfl, rfl, rfl, trivial⟩ ⟨rfl, rfl, rfl, trivial⟩⟩
      · refine mvQ ?_;refine mvQ ?_;refine s_indexAddr rfl (x_n rfl rfl rfl rfl rfl hg) rfl ?_;refine ldQ ?_;refine mvQ ?_;refine mvQ ?_;refine s_indexAddr rfl (x_n rfl rfl rfl rfl rfl hj) rfl ?_;refine ldQ ?_;refine s_bin rfl (e_neN _ _) rfl ?_;refine piQ ?_;refine s_end (hK _ ?_); clear hK K;exact ⟨_, (by first|exact P1 h0|exact P2 h0), Wk.mk' ⟨rfl, rfl, rfl, rfl, rfl, rfl, rfl, rfl, rfl, rfl, rfl, rfl, trivial⟩ ⟨rfl, rfl, rfl, trivial⟩⟩
    rintro c rfl
    refine a_cond rfl (fun hx => ?_) (fun hx => ?_)
    · have hx : ¬ grS g j v = true := by simpa using hx
      have hiv : i ≠ v := fun e => hx (by rw [← e]; exact grS_iff.2 ⟨hc, hd⟩)
      rw [if_neg hx] at hs;refine AWP_exit ?_;show AWP _ _ _ _ _ _;refine AWP_reg tok fun K hK => ?_;refine s_bin rfl (e_add (c := ((v + 1 : Nat) : Int)) (by omega) (by omega)) rfl ?_;refine mvQ ?_;refine s_end (hK _ ?_); clear hK K
      have ek : kN (v + 1) (grS g j) = kN v (grS g j) := by rw [← hkl, ← hkl0, hs]
      refine ⟨v + 1, by omega, hg, ?_⟩;rw [hs, ek]
      have ei : (if i < v + 1 then resA g i j else 0) = (if i < v then resA g i j else 0) := by
        by_cases h : i < v
        · rw [if_pos h, if_pos (by omega)]
        · rw [if_neg h, if_neg (by omega)]
      rw [ei];exact Wk.mk' ⟨rfl, rfl, rfl, rfl, rfl, rfl, rfl, rfl, rfl, rfl, trivial⟩ ⟨rfl, rfl, rfl, trivial⟩
    have hx : grS g j v = true := by simpa using hx
    rw [if_pos hx] at hs
    have ek : kN (v + 1) (grS g j) = kN v (grS g j) + 1 := by rw [← hkl, ← hkl0, hs, List.length_append]; rfl
    have n1 : ((grL g j v).map (resRow g j)).map cM ++ [cM (resRow g j v)] = ((grL g j (v + 1)).map (resRow g j)).map cM := by rw [hs, List.map_append, List.map_append]; rfl
    have ra : v = i → kN v (grS g j) = resA g i j := fun e => by rw [e]; rfl
    have hKp : 0 < kN g.nodes.length (grS g j) := Nat.lt_of_le_of_lt (Nat.zero_le _) (vL_at hg hx).1
    generalize ((grL g j v).map (resRow g j)).map cM = es at n1 z1 ⊢
    obtain ⟨a, ha⟩ : ∃ a, a = kN v (grS g j) := ⟨_, rfl⟩
    rw [← ha] at z1 ek ra nk ⊢;refine AWP_skip ?_;show AWP _ _ _ _ _ _;refine a_join (α := Unit) (fun _ => mk 126 [(1, dI i), (2, dI j), (3, .ptr 3 0), (6, .ptr 6 0), (8, V1 (.sl (nmD g.nodes.length (lab g)))), (10, V1 (dMs (matW g.nodes.length g.nodes.length F))), (12, ownN 200 1 a), (13, dI (if i < v + 1 then resA g i j else 0 : Nat)), (14, dI v), (46, dI g.nodes.length), (47, dI v)] [(3, some (.box g.cs)), (6, some box0), (200, arrN 1 es a)] []) (fun _ => True) ?_ ?_
    · refine AWP_reg_seq tok fun K hK => ?_;refine mvQ ?_;refine mvQ ?_;refine s_bin rfl (e_eqN _ _) rfl ?_;refine s_end (hK _ ?_); clear hK K;refine a_cond rfl (fun hy => ?_) (fun hy => ?_)
      · have hy := of_decide_eq_true hy
        rw [if_pos (show i < v + 1 by omega), ← ra hy]
        rcases a with _ | a
        · refine AWP_reg tok fun K hK => ?_;refine mvQ ?_;refine s_blt rfl rfl rfl ?_;refine asQ ?_;refine s_end (hK _ ?_); clear hK K;exact ⟨(), trivial, Wk.mk' ⟨rfl, rfl, rfl, rfl, rfl, rfl, rfl, rfl, rfl, rfl, rfl, trivial⟩ ⟨rfl, rfl, rfl, trivial⟩⟩
        · refine AWP_reg tok fun K hK => ?_;refine mvQ ?_;refine s_blt rfl rfl rfl ?_;refine asQ ?_;refine s_end (hK _ ?_); clear hK K;exact ⟨(), trivial, Wk.mk' ⟨rfl, rfl, rfl, rfl, rfl, rfl, rfl, rfl, rfl, rfl, rfl, trivial⟩ ⟨rfl, rfl, rfl, trivial⟩⟩
      · have hy := of_decide_eq_false hy
        refine AWP_skip ?_
        have ei : (if i < v + 1 then resA g i j else 0) = (if i < v then resA g i j else 0) := by
          by_cases h : i < v
          · rw [if_pos h, if_pos (by omega)]
          · rw [if_neg h, if_neg (by omega)]
        rw [ei];exact ⟨(), trivial, Wk.mk' ⟨rfl, rfl, rfl, rfl, rfl, rfl, rfl, rfl, rfl, rfl, rfl, trivial⟩ ⟨rfl, rfl, rfl, trivial⟩⟩
    rintro - -
    refine AWP_reg_seq tok fun K hK => ?_;refine asQ ?_;refine s_end (hK _ ?_); clear hK K;refine AWP_seq ?_;refine AWP_reg_seq tok fun K hK => ?_;refine faQ ?_;refine ldQ ?_;refine s_blt rfl (len_m RW.dc rfl rfl) rfl ?_;refine mvQ ?_;refine s_end (hK _ ?_); clear hK K;refine AWP_block (a_loop (α := Nat) (fun w => mk 126 [(1, dI i), (2, dI j), (3, .ptr 3 0), (6, .ptr 6 0), (8, V1 (.sl (nmD g.nodes.length (lab g)))), (10, V1 (dMs (matW g.nodes.length g.nodes.length F))), (12, ownN 200 1 a), (13, dI (if i < v + 1 then resA g i j else 0 : Nat)), (14, dI v), (15, ownN 201 4 (kN w (grS g j))), (46, dI g.nodes.length), (47, dI v), (71, dI g.nodes.length), (72, dI w)] [(3, some (.box g.cs)), (6, some box0), (200, arrN 1 es a), (201, arrN 4 (rowE g j v w) (kN w (grS g j)))] []) (fun w => w ≤ g.nodes.length) (fun w => g.nodes.length - w) 0 ?_ (Nat.zero_le _) ?_)
    · exact Wk.mk' ⟨rfl, rfl, rfl, rfl, rfl, rfl, rfl, rfl, rfl, rfl, rfl, rfl, rfl, rfl, trivial⟩ ⟨rfl, rfl, rfl, rfl, trivial⟩
    intro w hw
    refine AWP_reg_seq tok fun K hK => ?_;refine biQ ?_;refine s_end (hK _ ?_); clear hK K;refine AWP_seq ?_;refine a_cond rfl (fun hy => ?_) (fun hy => ?_)
    · have hy : w < g.nodes.length := by simp at hy; omega
      have nkw : kN w (grS g j) ≤ 16 := Nat.le_trans (kN_le _ _) (by omega)
      have hsw := grL_succ g j w
      have zw : (rowE g j v w).length = kN w (grS g j) := by unfold rowE; rw [List.length_map, List.length_map, grL_length]
      have hklw := grL_length g j (w + 1)
      have hklw0 := grL_length g j w
      refine AWP_skip ?_;show AWP _ _ _ _ _ _;refine AWP_seq ?_;refine AWP_block ?_;refine AWP_reg_seq tok fun K hK => ?_;refine mvQ ?_;refine asQ ?_;refine s_end (hK _ ?_); clear hK K;refine a_join (α := Bool) (fun c => mk 126 [(1, dI i), (2, dI j), (3, .ptr 3 0), (6, .ptr 6 0), (8, V1 (.sl (nmD g.nodes.length (lab g)))), (10, V1 (dMs (matW g.nodes.length g.nodes.length F))), (12, ownN 200 1 a), (13, dI (if i < v + 1 then resA g i j else 0 : Nat)), (14, dI v), (15, ownN 201 4 (kN w (grS g j))), (16, dI w), (46, dI g.nodes.length), (47, dI v), (71, dI g.nodes.length), (72, dI w), (88, dB c)] [(3, some (.box g.cs)), (6, some box0), (200, arrN 1 es a), (201, arrN 4 (rowE g j v w) (kN w (grS g j)))] []) (fun c => c = grS g j w) ?_ ?_
      · have P1 : decide (w ≠ j) = true → decide (lab g w = lab g j) = grS g j w := fun h => by
          have := of_decide_eq_true h
          rw [Bool.eq_iff_iff]; simp [grS, this]
        have P2 : decide (w ≠ j) = false → false = grS g j w := fun h => by
          have : w = j := Classical.byContradiction (of_decide_eq_false h)
          simp [grS, this]
        refine a_draw1 tok mixed (A := [[], [], [], [0, 1], [0, 1, 2], [0, 1, 2], [0, 1, 2], [0, 1, 2, 4, 5], [0, 1, 2], [0, 1, 2], [0, 1, 2], [0, 1, 2, 8, 9], [0, 1, 2, 4, 5, 6, 8, 9, 10], [0, 1, 2, 4, 5, 6, 7, 8, 9, 10, 11]]) (an := [{}, {}, {}, {}, {}, {}, {}, {}, {}, {}, {}, {}, {}, {}]) rfl (by kernel_rfl) rfl fun K hK => ?_;refine mvQ ?_;refine mvQ ?_;refine s_bin rfl (e_neN _ _) rfl ?_;refine mvQ ?_;refine s_split (fun h0 => ?_) (fun h0 => ?_)
        · refine mvQ ?_;refine mvQ ?_;refine s_indexAddr rfl (x_n rfl rfl rfl rfl rfl hy) rfl ?_;refine ldQ ?_;refine mvQ ?_;refine mvQ ?_;refine s_indexAddr rfl (x_n rfl rfl rfl rfl rfl hj) rfl ?_;refine ldQ ?_;refine s_bin rfl (e_eqN _ _) rfl ?_;refine piQ ?_;refine s_end (hK _ ?_); clear hK K;exact ⟨_, (by first|exact P1 h0|exact P2 h0), Wk.mk' ⟨rfl, rfl, rfl, rfl, rfl, rfl, rfl, rfl, rfl, rfl, rfl, rfl, rfl, rfl, rfl, rfl, trivial⟩ ⟨rfl, rfl, rfl, rfl, trivial⟩⟩
        · refine s_skip rfl ?_;refine s_skip rfl ?_;refine s_skip rfl ?_;refine s_skip rfl ?_;refine s_skip rfl ?_;refine s_skip rfl ?_;refine s_skip rfl ?_;refine s_skip rfl ?_;refine s_skip rfl ?_;refine piQ ?_;refine s_end (hK _ ?_); clear hK K;exact ⟨_, (by first|exact P1 h0|exact P2 h0), Wk.mk' ⟨rfl, rfl, rfl, rfl, rfl, rfl, rfl, rfl, rfl, rfl, rfl, rfl, rfl, rfl, rfl, rfl, trivial⟩ ⟨rfl, rfl, rfl, rfl, trivial⟩⟩
      rintro c rfl
      refine a_cond rfl (fun hz => ?_) (fun hz => ?_)
      · rw [if_pos hz] at hsw
        have ekw : kN (w + 1) (grS g j) = kN w (grS g j) + 1 := by rw [← hklw, ← hklw0, hsw, List.length_append]; rfl
        have nw : rowE g j v w ++ [(qzW ((lapM g.links v w : Int) : Rat)).dc] = rowE g j v (w + 1) := by unfold rowE; rw [hsw, List.map_append, List.map_append]; rfl
        rw [← hF] at nw;generalize rowE g j v w = rs at nw zw ⊢
        obtain ⟨b, hb⟩ : ∃ b, b = kN w (grS g j) := ⟨_, rfl⟩
        rw [← hb] at zw ekw nkw ⊢
        rcases b with _ | b
        · refine AWP_reg tok fun K hK => ?_;refine mvQ ?_;refine mvQ ?_;refine mvQ ?_;refine s_indexAddr rfl (x_mt rfl rfl rfl rfl rfl hg) rfl ?_;refine ldQ ?_;refine mvQ ?_;refine s_indexAddr rfl (x_v rfl rfl rfl rfl rfl hy) rfl ?_;refine ldQ ?_;refine s_buildSlice rfl rfl (by rcases a with _|a <;> rfl) rfl ?_;refine s_append rfl (ap_nil rfl rfl rfl rfl rfl (by decide) (Nat.le_of_ble_eq_true rfl) rfl (by simp) rfl (by simp) (by simp)) (by rcases a with _|a <;> rfl) rfl rfl ?_;refine asQ ?_;refine s_end (hK _ ?_); clear hK K;show AWP _ _ _ _ _ _;refine AWP_reg tok fun K hK => ?_;refine s_bin rfl (e_add (c := ((w + 1 : Nat) : Int)) (by omega) (by omega)) rfl ?_;refine mvQ ?_;refine s_end (hK _ ?_); clear hK K;refine ⟨w + 1, by omega, hy, ?_⟩;rw [ekw];refine Wk.rn [1, 2, 3, 6, 8, 10, 12, 13, 14, 15, 46, 47, 71, 72] [3, 6, 200, 98] 98 201 rfl rfl (by rcases a with _|a <;> rfl) ⟨rfl, rfl, rfl, rfl, rfl, rfl, (by rcases a with _|a <;> rfl), rfl, rfl, ?_, rfl, rfl, rfl, rfl, trivial⟩ ⟨rfl, rfl, (by rcases a with _|a <;> rfl), ?_, trivial⟩
          · first
              | rfl
              | (show SV.val (.one (.own 201 4 0 _)) = _
                 rw [List.length_append, zw]; rfl)
          · first
              | (rw [← nw, List.length_eq_zero_iff.1 zw]; rfl)
              | (rw [← nw]; rfl)
        · refine AWP_reg tok fun K hK => ?_;refine mvQ ?_;refine mvQ ?_;refine mvQ ?_;refine s_indexAddr rfl (x_mt rfl rfl rfl rfl rfl hg) rfl ?_;refine ldQ ?_;refine mvQ ?_;refine s_indexAddr rfl (x_v rfl rfl rfl rfl rfl hy) rfl ?_;refine ldQ ?_;refine s_buildSlice rfl rfl (by rcases a with _|a <;> rfl) rfl ?_;refine s_append rfl (ap_o rfl rfl rfl rfl rfl rfl (by decide) (Nat.le_of_ble_eq_true rfl) rfl (by simp) rfl rfl zw.symm (by simp <;> omega)) (by rcases a with _|a <;> rfl) rfl rfl ?_;refine asQ ?_;refine s_end (hK _ ?_); clear hK K;show AWP _ _ _ _ _ _;refine AWP_reg tok fun K hK => ?_;refine s_bin rfl (e_add (c := ((w + 1 : Nat) : Int)) (by omega) (by omega)) rfl ?_;refine mvQ ?_;refine s_end (hK _ ?_); clear hK K;refine ⟨w + 1, by omega, hy, ?_⟩;rw [ekw];refine Wk.rn [1, 2, 3, 6, 8, 10, 12, 13, 14, 15, 46, 47, 71, 72] [3, 6, 200, 98] 98 201 rfl rfl (by rcases a with _|a <;> rfl) ⟨rfl, rfl, rfl, rfl, rfl, rfl, (by rcases a with _|a <;> rfl), rfl, rfl, ?_, rfl, rfl, rfl, rfl, trivial⟩ ⟨rfl, rfl, (by rcases a with _|a <;> rfl), ?_, trivial⟩
          · first
              | rfl
              | (show SV.val (.one (.own 201 4 0 _)) = _
                 rw [List.length_append, zw]; rfl)
          · first
              | (rw [← nw, List.length_eq_zero_iff.1 zw]; rfl)
              | (rw [← nw]; rfl)
      · have hz : ¬ grS g j w = true := by simp [hz]
        rw [if_neg hz] at hsw
        have ekw : kN (w + 1) (grS g j) = kN w (grS g j) := by rw [← hklw, ← hklw0, hsw]
        have nw : rowE g j v (w + 1) = rowE g j v w := by unfold rowE; rw [hsw]
        refine AWP_skip ?_;show AWP _ _ _ _ _ _;refine AWP_reg tok fun K hK => ?_;refine s_bin rfl (e_add (c := ((w + 1 : Nat) : Int)) (by omega) (by omega)) rfl ?_;refine mvQ ?_;refine s_end (hK _ ?_); clear hK K;refine ⟨w + 1, by omega, hy, ?_⟩;rw [ekw, nw];exact Wk.mk' ⟨rfl, rfl, rfl, rfl, rfl, rfl, rfl, rfl, rfl, rfl, rfl, rfl, rfl, rfl, trivial⟩ ⟨rfl, rfl, rfl, rfl, trivial⟩
    have hy : w = g.nodes.length := by simp at hy; omega
    subst hy
    refine AWP_exit ?_;show AWP _ _ _ _ _ _
    obtain ⟨q, hq⟩ : ∃ q, kN g.nodes.length (grS g j) = q + 1 := ⟨kN g.nodes.length (grS g j) - 1, by omega⟩
    have zn : (resRow g j v).length = q + 1 := by unfold resRow; rw [List.length_map, grL_length, hq]
    rw [hq]
    rcases a with _ | a
    · refine a_fz [1, 2, 3, 6, 8, 10, 12, 13, 15, 46, 47] [3, 6, 200, 201] 201 [(1, dI i), (2, dI j), (3, .ptr 3 0), (6, .ptr 6 0), (8, V1 (.sl (nmD g.nodes.length (lab g)))), (10, V1 (dMs (matW g.nodes.length g.nodes.length F))), (12, ownN 200 1 (0)), (13, dI (if i < v + 1 then resA g i j else 0 : Nat)), (15, V1 (dRs (resRow g j v))), (46, dI g.nodes.length), (47, dI v)] [(3, some (.box g.cs)), (6, some box0), (200, arrN 1 es (0))] rfl ?_ ⟨rfl, rfl, rfl, trivial⟩ ?_
      · exact ⟨rfl, rfl, rfl, rfl, rfl, rfl, rfl, rfl, frz_own rfl (by rw [List.length_map, zn]), rfl, rfl, trivial⟩
      refine AWP_reg tok fun K hK => ?_;refine mvQ ?_;refine mvQ ?_;refine s_buildSlice rfl rfl rfl rfl ?_;refine s_append rfl (ap_nil rfl rfl rfl rfl rfl (by decide) (Nat.le_of_ble_eq_true rfl) rfl (by simp) rfl (by simp) (by simp)) rfl rfl rfl ?_;refine asQ ?_;refine s_end (hK _ ?_); clear hK K;show AWP _ _ _ _ _ _;refine AWP_reg tok fun K hK => ?_;refine s_bin rfl (e_add (c := ((v + 1 : Nat) : Int)) (by omega) (by omega)) rfl ?_;refine mvQ ?_;refine s_end (hK _ ?_); clear hK K;refine ⟨v + 1, by omega, hg, ?_⟩;rw [ek];refine Wk.rn [1, 2, 3, 6, 8, 10, 12, 13, 46, 47] [3, 6, 103] 103 200 rfl rfl rfl ⟨rfl, rfl, rfl, rfl, rfl, rfl, ?_, rfl, rfl, rfl, trivial⟩ ⟨rfl, rfl, ?_, trivial⟩
      · first
          | rfl
          | (show SV.val (.one (.own 200 1 0 _)) = _
             rw [List.length_append, z1]; rfl)
      · first
          | (rw [← n1, List.length_eq_zero_iff.1 z1]; rfl)
          | (rw [← n1]; rfl)
    · refine a_fz [1, 2, 3, 6, 8, 10, 12, 13, 15, 46, 47] [3, 6, 200, 201] 201 [(1, dI i), (2, dI j), (3, .ptr 3 0), (6, .ptr 6 0), (8, V1 (.sl (nmD g.nodes.length (lab g)))), (10, V1 (dMs (matW g.nodes.length g.nodes.length F))), (12, ownN 200 1 (a + 1)), (13, dI (if i < v + 1 then resA g i j else 0 : Nat)), (15, V1 (dRs (resRow g j v))), (46, dI g.nodes.length), (47, dI v)] [(3, some (.box g.cs)), (6, some box0), (200, arrN 1 es (a + 1))] rfl ?_ ⟨rfl, rfl, rfl, trivial⟩ ?_
      · exact ⟨rfl, rfl, rfl, rfl, rfl, rfl, rfl, rfl, frz_own rfl (by rw [List.length_map, zn]), rfl, rfl, trivial⟩
      refine AWP_reg tok fun K hK => ?_;refine mvQ ?_;refine mvQ ?_;refine s_buildSlice rfl rfl rfl rfl ?_;refine s_append rfl (ap_o rfl rfl rfl rfl rfl rfl (by decide) (Nat.le_of_ble_eq_true rfl) rfl (by simp) rfl rfl z1.symm (by simp <;> omega)) rfl rfl rfl ?_;refine asQ ?_;refine s_end (hK _ ?_); clear hK K;show AWP _ _ _ _ _ _;refine AWP_reg tok fun K hK => ?_;refine s_bin rfl (e_add (c := ((v + 1 : Nat) : Int)) (by omega) (by omega)) rfl ?_;refine mvQ ?_;refine s_end (hK _ ?_); clear hK K;refine ⟨v + 1, by omega, hg, ?_⟩;rw [ek];refine Wk.rn [1, 2, 3, 6, 8, 10, 12, 13, 46, 47] [3, 6, 103] 103 200 rfl rfl rfl ⟨rfl, rfl, rfl, rfl, rfl, rfl, ?_, rfl, rfl, rfl, trivial⟩ ⟨rfl, rfl, ?_, trivial⟩
      · first
          | rfl
          | (show SV.val (.one (.own 200 1 0 _)) = _
             rw [List.length_append, z1]; rfl)
      · first
          | (rw [← n1, List.length_eq_zero_iff.1 z1]; rfl)
          | (rw [← n1]; rfl)
  have hg : v = g.nodes.length := by simp at hg; omega
  subst hg
  refine AWP_exit ?_;show AWP _ _ _ _ _ _;rw [if_pos hi]
  have hat := R.at_
  obtain ⟨q, hq⟩ : ∃ q, resK g j = q + 1 := ⟨resK g j - 1, by omega⟩
  have hq' : kN g.nodes.length (grS g j) = q + 1 := hq
  rw [hq'];refine a_fz [3, 6, 12, 13] [3, 6, 200] 200 [(3, .ptr 3 0), (6, .ptr 6 0), (12, V1 (dMs (resM g j))), (13, dI (resA g i j))] [(3, some (.box g.cs)), (6, some box0)] rfl ?_ ⟨rfl, rfl, trivial⟩ ?_
  · exact ⟨rfl, rfl, frz_own rfl (by rw [List.length_map]; exact (resM_length g j).symm ▸ hq.symm), rfl, trivial⟩
  refine AWP_reg_seq tok fun K hK => ?_;refine mvQ ?_;refine s_blt rfl (len_d (n := q + 1) rfl rfl (by rw [List.length_map, resM_length, hq])) rfl ?_;refine s_callN rfl rfl (zeros_c (q + 1) (by omega)) (Or.inl rfl) rfl rfl rfl rfl ?_;refine asQ ?_;refine s_end (hK _ ?_); clear hK K;refine AWP_reg_seq tok fun K hK => ?_;refine mvQ ?_;refine mvQ ?_;refine s_call rfl rfl (co) rfl rfl rfl rfl ?_;refine s_indexAddr rfl (x_o (i := resA g i j) (j := resA g i j) rfl rfl rfl rfl rfl (by omega) (Nat.zero_add _)) rfl ?_;refine s_store rfl (st_q (qzW 1) rfl rfl rfl (by omega)) rfl rfl rfl ?_;refine s_end (hK _ ?_); clear hK K
  have hside : rowD (q + 1) (updW (fun _ => qzW 0) (resA g i j) (qzW 1)) = (resD g i j).map RW.dc := by unfold resD; rw [hq, vec_dc]; rfl
  refine a_fz [3, 6, 12, 13, 17] [3, 6, 107] 107 [(3, .ptr 3 0), (6, .ptr 6 0), (12, V1 (dMs (resM g j))), (13, dI (resA g i j)), (17, V1 (dRs (resD g i j)))] [(3, some (.box g.cs)), (6, some box0)] rfl ?_ ⟨rfl, rfl, trivial⟩ ?_
  · exact ⟨rfl, rfl, rfl, rfl, frz_own hside (by rw [List.length_map]; unfold resD; rw [vecW_length, hq]), trivial⟩
  have hml := resM_length g j
  have hdl : (resD g i j).length = resK g j := by unfold resD; rw [vecW_length]
  have cs := sSolve_c (resM g j) (resD g i j) (by omega) (by omega) (fun r hr => by
      obtain ⟨v, _, rfl⟩ := List.mem_map.1 hr
      show (resRow g j v).length ≤ _
      unfold resRow; rw [List.length_map, grL_length]; have := kN_le g.nodes.length (grS g j); omega) R.ok (fun x hx => by
      obtain ⟨t, _, rfl⟩ := List.mem_map.1 hx
      split
      · exact qzW_ok (by decide)
      · exact qzW_ok (by decide)) (fun _ _ => by rw [hml]; exact ⟨R.fac, fun _ => R.sol⟩)
  have es : solveV (resM g j) (resD g i j) = (slvL (matV (resM g j)) (rhsV (resD g i j)) (resK g j), 0) := by
    rw [solveV, if_pos ⟨R.val, hdl.trans hml.symm⟩, hml, if_pos R.pos]
  rw [es] at cs;simp only [slvL] at cs;refine AWP_reg_seq tok fun K hK => ?_;refine mvQ ?_;refine mvQ ?_;refine s_call rfl rfl (cs) rfl rfl rfl rfl ?_;refine mvQ ?_;refine s_extract rfl rfl rfl ?_;refine s_extract rfl rfl rfl ?_;refine asQ ?_;refine asQ ?_;refine s_end (hK _ ?_); clear hK K;refine AWP_seq ?_;refine AWP_reg_seq tok fun K hK => ?_;refine mvQ ?_;refine biQ ?_;refine s_end (hK _ ?_); clear hK K;refine a_cond rfl (fun h => by cases h) (fun _ => ?_);refine AWP_skip ?_;show AWP _ _ _ _ _ _;refine AWP_reg_seq tok fun K hK => ?_;refine mvQ ?_;refine mvQ ?_;refine s_indexAddr rfl (x_v rfl rfl rfl rfl rfl hat) rfl ?_;refine ldQ ?_;refine s_store rfl rfl rfl rfl rfl ?_;refine asQ ?_;refine s_end (hK _ ?_); clear hK K;rw [← eQ];refine AWP_ret ?_
  repeat (with_reducible refine tq_ret ?_)
  exact post_ret (fin_mk (by rfl) (by rfl) (by rfl))
end Go.Proofs.YtgopibpkgmafiaaGreat

/- Resistance, Leverage, All, Trees. No condition. -/
namespace Go.Proofs.YtgopibpkgmafiaaGreat
attribute [local irreducible] lexA

theorem res_isR {g : GR} (gv : GV g) {i j : Nat} (hi : i < g.nodes.length) (hj : j < g.nodes.length) (hl : lab g i = lab g j) : IsR g.nodes.length (wls g.links) i j (resQ g i j) := by
  by_cases e : i = j
  · have : resQ g i j = 0 := if_pos e
    rw [this, ← e]; exact IsR.same
  · exact (res_all gv hi hj e hl).res
def resistV (g : GR) (i j : Int) : RW × Int :=
  if validB g = true then (if 0 ≤ i ∧ i < (g.nodes.length : Int) ∧ 0 ≤ j ∧ j < (g.nodes.length : Int) then rstV g i.toNat j.toNat else (rw00, 2)) else (rw00, 1)
theorem gResist_c (g : GR) (i j : Int) : Con Tryz.prog 23 [AG g.cs, dI i, dI j] { v := .tup [.agg (resistV g i j).1.cs, .one (.d (lI (resistV g i j).2))] } := by
  refine con_intro (fn := Tryz.f23) tok Tryz.func23 (by kernel_rfl) rfl ?_
  intro w0 X
  rw [entry_mkE _ _ [(0, AG g.cs), (1, dI i), (2, dI j)] rfl rfl];refine AWP_reg_seq tok fun K hK => ?_;refine s_box rfl rfl rfl rfl rfl rfl ?_;refine s_alloc rfl rfl rfl rfl rfl rfl ?_;refine asQ ?_;refine s_end (hK _ ?_); clear hK K;refine AWP_seq ?_;refine AWP_reg_seq tok fun K hK => ?_;refine ldQ ?_;refine s_call rfl rfl (gValid_c g) rfl rfl rfl rfl ?_;refine s_un rfl rfl rfl ?_;refine s_end (hK _ ?_); clear hK K;refine a_cond rfl (fun hc => ?_) (fun hc => ?_)
  · rw [Bool.not_eq_true'] at hc
    have e : resistV g i j = (rw00, 1) := by rw [resistV, if_neg (by rw [hc]; simp)]
    rw [e];refine AWP_reg_seq tok fun K hK => ?_;refine s_build rfl rfl rfl ?_;refine s_store rfl rfl rfl rfl rfl ?_;refine asQ ?_;refine s_end (hK _ ?_); clear hK K;refine AWP_ret ?_
    repeat (with_reducible refine tq_ret ?_)
    exact post_ret (fin_mk (by rfl) (by rfl) (by rfl))
  rw [Bool.not_eq_false'] at hc;rw [resistV, if_pos hc];refine AWP_skip ?_;show AWP _ _ _ _ _ _;refine AWP_seq ?_;refine a_join (α := Bool) (fun c => mk 39 [(1, dI i), (2, dI j), (3, .ptr 3 0), (6, .ptr 6 0), (31, dB c)] [(3, some (.box g.cs)), (6, some box0)] []) (fun c => c = !decide (0 ≤ i ∧ i < (g.nodes.length : Int) ∧ 0 ≤ j ∧ j < (g.nodes.length : Int))) ?_ ?_
  · refine AWP_regW fun K hK => ?_;refine w_step tok rfl ?_;refine mvQ ?_;refine s_end ?_;refine w_step tok rfl ?_;refine biQ ?_;refine s_end ?_;refine w_step tok rfl ?_;refine mvQ ?_;refine s_end ?_;refine w_split (fun h0 => ?_) (fun h0 => ?_)
    · refine w_skip rfl rfl ?_;refine w_skip rfl rfl ?_;refine w_skip rfl rfl ?_;refine w_skip rfl rfl ?_;refine w_skip rfl rfl ?_;refine w_step tok rfl ?_;refine piQ ?_;refine s_end ?_;refine w_step tok rfl ?_;refine mvQ ?_;refine s_end ?_;refine w_skip rfl rfl ?_;refine w_skip rfl rfl ?_;refine w_step tok rfl ?_;refine piQ ?_;refine s_end ?_;refine w_step tok rfl ?_;refine mvQ ?_;refine s_end ?_;refine w_skip rfl rfl ?_;refine w_skip rfl rfl ?_;refine w_skip rfl rfl ?_;refine w_skip rfl rfl ?_;refine w_skip rfl rfl ?_;refine w_step tok rfl ?_;refine piQ ?_;refine s_end ?_;refine w_end rfl (hK _ ?_); clear hK K;exact ⟨_, (by simp only [decide_eq_true_eq, decide_eq_false_iff_not, Int.not_lt, ge_iff_le, Int.not_le] at h0; rw [Bool.eq_iff_iff]; simp only [Bool.not_eq_true', decide_eq_false_iff_not, decide_eq_true_eq, true_iff, ge_iff_le]; omega), Wk.mk' ⟨rfl, rfl, rfl, rfl, rfl, trivial⟩ ⟨rfl, rfl, trivial⟩⟩
    · refine w_step tok rfl ?_;refine mvQ ?_;refine s_end ?_;refine w_step tok rfl ?_;refine faQ ?_;refine s_end ?_;refine w_step tok rfl ?_;refine ldQ ?_;refine s_end ?_;refine w_step tok rfl ?_;refine s_blt rfl (len_m RW.dc rfl rfl) rfl ?_;refine s_end ?_;refine w_step tok rfl ?_;refine biQ ?_;refine s_end ?_;refine w_step tok rfl ?_;refine piQ ?_;refine s_end ?_;refine w_step tok rfl ?_;refine mvQ ?_;refine s_end ?_;refine w_split (fun h1 => ?_) (fun h1 => ?_)
      · refine w_skip rfl rfl ?_;refine w_skip rfl rfl ?_;refine w_step tok rfl ?_;refine piQ ?_;refine s_end ?_;refine w_step tok rfl ?_;refine mvQ ?_;refine s_end ?_;refine w_skip rfl rfl ?_;refine w_skip rfl rfl ?_;refine w_skip rfl rfl ?_;refine w_skip rfl rfl ?_;refine w_skip rfl rfl ?_;refine w_step tok rfl ?_;refine piQ ?_;refine s_end ?_;refine w_end rfl (hK _ ?_); clear hK K;exact ⟨_, (by simp only [decide_eq_true_eq, decide_eq_false_iff_not, Int.not_lt, ge_iff_le, Int.not_le] at h0 h1; rw [Bool.eq_iff_iff]; simp only [Bool.not_eq_true', decide_eq_false_iff_not, decide_eq_true_eq, true_iff, ge_iff_le]; omega), Wk.mk' ⟨rfl, rfl, rfl, rfl, rfl, trivial⟩ ⟨rfl, rfl, trivial⟩⟩
      · refine w_step tok rfl ?_;refine mvQ ?_;refine s_end ?_;refine w_step tok rfl ?_;refine biQ ?_;refine s_end ?_;refine w_step tok rfl ?_;refine piQ ?_;refine s_end ?_;refine w_step tok rfl ?_;refine mvQ ?_;refine s_end ?_;refine w_split (fun h2 => ?_) (fun h2 => ?_)
        · refine w_skip rfl rfl ?_;refine w_skip rfl rfl ?_;refine w_skip rfl rfl ?_;refine w_skip rfl rfl ?_;refine w_skip rfl rfl ?_;refine w_step tok rfl ?_;refine piQ ?_;refine s_end ?_;refine w_end rfl (hK _ ?_); clear hK K;exact ⟨_, (by simp only [decide_eq_true_eq, decide_eq_false_iff_not, Int.not_lt, ge_iff_le, Int.not_le] at h0 h1 h2; rw [Bool.eq_iff_iff]; simp only [Bool.not_eq_true', decide_eq_false_iff_not, decide_eq_true_eq, true_iff, ge_iff_le]; omega), Wk.mk' ⟨rfl, rfl, rfl, rfl, rfl, trivial⟩ ⟨rfl, rfl, trivial⟩⟩
        · refine w_step tok rfl ?_;refine mvQ ?_;refine s_end ?_;refine w_step tok rfl ?_;refine faQ ?_;refine s_end ?_;refine w_step tok rfl ?_;refine ldQ ?_;refine s_end ?_;refine w_step tok rfl ?_;refine s_blt rfl (len_m RW.dc rfl rfl) rfl ?_;refine s_end ?_;refine w_step tok rfl ?_;refine biQ ?_;refine s_end ?_;refine w_step tok rfl ?_;refine piQ ?_;refine s_end ?_;refine w_end rfl (hK _ ?_); clear hK K;exact ⟨_, (by simp only [decide_eq_true_eq, decide_eq_false_iff_not, Int.not_lt, ge_iff_le, Int.not_le] at h0 h1 h2; rw [Bool.eq_iff_iff]; simp only [Bool.not_eq_true', decide_eq_false_iff_not, decide_eq_true_eq, true_iff, ge_iff_le]; omega), Wk.mk' ⟨rfl, rfl, rfl, rfl, rfl, trivial⟩ ⟨rfl, rfl, trivial⟩⟩
  rintro c rfl
  refine a_cond rfl (fun hd => ?_) (fun hd => ?_)
  · rw [Bool.not_eq_true'] at hd;rw [if_neg (of_decide_eq_false hd)];refine AWP_reg_seq tok fun K hK => ?_;refine s_build rfl rfl rfl ?_;refine s_store rfl rfl rfl rfl rfl ?_;refine asQ ?_;refine s_end (hK _ ?_); clear hK K;refine AWP_ret ?_
    repeat (with_reducible refine tq_ret ?_)
    exact post_ret (fin_mk (by rfl) (by rfl) (by rfl))
  rw [Bool.not_eq_false'] at hd
  have hd := of_decide_eq_true hd
  rw [if_pos hd]
  obtain ⟨a, rfl⟩ : ∃ a : Nat, i = a := ⟨i.toNat, by omega⟩
  obtain ⟨b, rfl⟩ : ∃ b : Nat, j = b := ⟨j.toNat, by omega⟩
  simp only [Int.toNat_natCast]
  have cr := resistance_c g (validB_iff.1 hc) a b (by omega) (by omega)
  refine AWP_skip ?_;show AWP _ _ _ _ _ _;refine AWP_reg_seq tok fun K hK => ?_;refine ldQ ?_;refine mvQ ?_;refine mvQ ?_;refine s_call rfl rfl (cr) rfl rfl rfl rfl ?_;refine s_extract rfl rfl rfl ?_;refine s_extract rfl rfl rfl ?_;refine s_store rfl rfl rfl rfl rfl ?_;refine asQ ?_;refine s_end (hK _ ?_); clear hK K;refine AWP_ret ?_
  repeat (with_reducible refine tq_ret ?_)
  exact post_ret (fin_mk (by rfl) (by rfl) (by rfl))

/-! ### Trees -/
def trZ : (Nat → Nat) → Nat → List LK → Int
  | _, 0, _ => 1
  | _, _ + 1, [] => 0
  | p, left + 1, x :: xs => if p x.f.toNat = p x.t.toNat then trZ p (left + 1) xs else trZ p (left + 1) xs + x.w * trZ (mg p (p x.f.toNat) (p x.t.toNat)) left xs
theorem trZ_tr0 : ∀ (ls : List LK) (p : Nat → Nat) (left : Nat), ((trZ p left ls : Int) : Rat) = tr0 p left (wls ls)
  | [], _, 0 => rfl
  | _ :: _, _, 0 => rfl
  | [], _, _ + 1 => rfl
  | x :: xs, p, left + 1 => by
    have e : wls (x :: xs) = wlk x :: wls xs := rfl
    rw [e];simp only [trZ, tr0]
    by_cases h : p x.f.toNat = p x.t.toNat
    · rw [if_pos h, if_pos (show p (wlk x).f = p (wlk x).t from h), trZ_tr0 xs p (left + 1)]
    · rw [if_neg h, if_neg (show ¬ p (wlk x).f = p (wlk x).t from h), Rat.intCast_add, Rat.intCast_mul, trZ_tr0 xs p (left + 1), trZ_tr0 xs _ left]; rfl
def treesV (g : GR) : Int × Int := if validB g = true then (trZ id (g.nodes.length - 1) g.links, 0) else (0, 1)
theorem gTrees_c (g : GR) : Con Tryz.prog 15 [AG g.cs] { v := .tup [.agg (ZC (treesV g).1), .one (.d (lI (treesV g).2))] } := by
  refine con_intro (fn := Tryz.f15) tok Tryz.func15 (by kernel_rfl) rfl ?_
  intro w0 X
  rw [entry_mkE _ _ [(0, AG g.cs)] rfl rfl];refine AWP_reg_seq tok fun K hK => ?_;refine s_box rfl rfl rfl rfl rfl rfl ?_;refine s_alloc rfl rfl rfl rfl rfl rfl ?_;refine asQ ?_;refine s_end (hK _ ?_); clear hK K;refine AWP_seq ?_;refine AWP_reg_seq tok fun K hK => ?_;refine ldQ ?_;refine s_call rfl rfl (gValid_c g) rfl rfl rfl rfl ?_;refine s_un rfl rfl rfl ?_;refine s_end (hK _ ?_); clear hK K;refine a_cond rfl (fun hc => ?_) (fun hc => ?_)
  · rw [Bool.not_eq_true'] at hc
    have e : treesV g = (0, 1) := by rw [treesV, if_neg (by rw [hc]; simp)]
    rw [e];refine AWP_reg_seq tok fun K hK => ?_;refine s_build rfl rfl rfl ?_;refine s_store rfl rfl rfl rfl rfl ?_;refine asQ ?_;refine s_end (hK _ ?_); clear hK K;refine AWP_ret ?_
    repeat (with_reducible refine tq_ret ?_)
    exact post_ret (fin_mk (by rfl) (by rfl) (by rfl))
  rw [Bool.not_eq_false'] at hc
  have gv := validB_iff.1 hc
  rw [treesV, if_pos hc]
  have n1 := gv.n1
  have n16 := gv.n2
  obtain ⟨m, hm⟩ : ∃ m, g.nodes.length = m + 1 := ⟨g.nodes.length - 1, by omega⟩
  have hM : ∀ a b, -50331648 ≤ lapM g.links a b ∧ lapM g.links a b ≤ 50331648 := fun a b => by
    have h1 := lapM_le g.links (gLV gv) a b
    have h2 := gv.l
    omega
  have hq : ∀ a b, ql ((lapM g.links a b : Int) : Rat) ≤ 2 := fun a b => by have := hM a b; exact ql_i64 ⟨by omega, by omega⟩
  have cL := gLap_c g
  have e1 : lapV g = (lapQ g.nodes.length (lapM g.links), 0) := by rw [lapV, if_pos hc]
  rw [e1] at cL
  obtain ⟨L, eL⟩ : ∃ L, L = lapQ g.nodes.length (lapM g.links) := ⟨_, rfl⟩
  have eM : L = matW (m + 1) (m + 1) (fun a b => qzW ((lapM g.links a b : Int) : Rat)) := by rw [eL, hm]; rfl
  rw [← eL] at cL
  have hLl : L.length = m + 1 := by rw [eM, matW_length]
  have hLr : ∀ r ∈ L, r.length = m + 1 := fun r hr => by
    rw [eM] at hr
    obtain ⟨i, _, rfl⟩ := List.mem_map.1 hr
    exact vecW_length _ _
  have okL : okM 65536 L := fun r hr x hx => by
    rw [eM] at hr
    obtain ⟨i, _, rfl⟩ := List.mem_map.1 hr
    obtain ⟨j, _, rfl⟩ := List.mem_map.1 hx
    exact (qzW_ok (hq i j)).mono rfl
  have vL : validM L = true := by
    rw [eM];exact decide_eq_true (VMp_mat.2 ⟨by omega, fun i _ j _ => by rw [qzW_v, qzW_v, lapM_symm (n := g.nodes.length) g.links (gLV gv) i j]⟩)
  have cMn := sMinor_c L 0 (by omega) (fun r hr => by rw [hLr r hr]; omega) okL
  obtain ⟨N, eN⟩ : ∃ N, N = matW m m (fun a b => qzW ((lapM g.links (a + 1) (b + 1) : Int) : Rat)) := ⟨_, rfl⟩
  have eMn : minorV L 0 = (N, 0) := by
    rw [minorV, if_pos vL, if_pos (by rw [hLl]; omega), hLl, eN]
    congr 1
    refine matW_congr fun a b ha hb => ?_
    unfold minF
    rw [eM, show (0 : Int).toNat = 0 from rfl, sk_zero, sk_zero, mtv_mat (by omega) (by omega), qzW_v]
  rw [eMn] at cMn
  have hNl : N.length = m := by rw [eN, matW_length]
  have hNr : ∀ r ∈ N, r.length = m := fun r hr => by
    rw [eN] at hr
    obtain ⟨i, _, rfl⟩ := List.mem_map.1 hr
    exact vecW_length _ _
  have okN : okM 65536 N := fun r hr x hx => by
    rw [eN] at hr
    obtain ⟨i, _, rfl⟩ := List.mem_map.1 hr
    obtain ⟨j, _, rfl⟩ := List.mem_map.1 hx
    exact (qzW_ok (hq _ _)).mono rfl
  have vN : validM N = true := by
    rw [eN];exact decide_eq_true (VMp_mat.2 ⟨by omega, fun i _ j _ => by rw [qzW_v, qzW_v, lapM_symm (n := g.nodes.length) g.links (gLV gv) (i + 1) (j + 1)]⟩)
  have hmv : ∀ a b, a < m → b < m → matV N a b = ((lapM g.links (a + 1) (b + 1) : Int) : Rat) := fun a b ha hb => by
    unfold matV; rw [eN, mtv_mat ha hb, qzW_v]
  have cD := sDet_c N (by omega) (fun r hr => by rw [hNr r hr]; omega) okN (fun _ => by
    rw [hNl]
    exact elB_int (m := 26) (J := 15) (fun a b ha hb => by
      rw [hmv a b ha hb]
      have := hM (a + 1) (b + 1)
      exact ⟨_, rfl, by have e : (2 : Nat) ^ 26 = 67108864 := by decide
                        rw [e]; omega⟩) (by omega) (by omega) (by decide))
  have eD : dt m (matV N) = ((trZ id m g.links : Int) : Rat) := by
    rw [trZ_tr0, ← trees_dt (n := m) (g := 0) (by omega) (fun x hx => hm ▸ wls_l gv x hx), minor_id (p := id) (g := 0) (k := 0) (by omega) (fun e => (act_iff.1 e).2 rfl)];refine dt_congr fun a b ha hb => ?_;rw [hmv a b ha hb, sk_zero, sk_zero, kk_act (act_iff.2 ⟨rfl, by omega⟩) (act_iff.2 ⟨rfl, by omega⟩), lap_lpl (gLV gv)]
  have eV : detV N = (qzW ((trZ id m g.links : Int) : Rat), 0) := by rw [detV, if_pos vN, hNl, eD]
  rw [eV] at cD
  have hqt : ql ((trZ id m g.links : Int) : Rat) ≤ 15 := by
    rw [← eD]
    obtain ⟨z, h1, h2⟩ := IB_dt (m := 26) (n := m) (A := matV N) (by omega) (fun a b ha hb => by
      rw [hmv a b ha hb]
      have := hM (a + 1) (b + 1)
      exact ⟨_, rfl, by have e : (2 : Nat) ^ 26 = 67108864 := by decide
                        rw [e]; omega⟩)
    rw [h1, ql_int]
    have := zl_pow (j := 15) h2 (by omega)
    omega
  have cW := qWhole_t (qzW ((trZ id m g.links : Int) : Rat)) (trZ id m g.links) ((qzW_ok hqt).mono rfl) (qzW_v _)
  rw [hm, Nat.add_sub_cancel];refine AWP_skip ?_;show AWP _ _ _ _ _ _;refine AWP_reg_seq tok fun K hK => ?_;refine ldQ ?_;refine s_call rfl rfl (cL) rfl rfl rfl rfl ?_;refine mvQ ?_;refine s_extract rfl rfl rfl ?_;refine s_extract rfl rfl rfl ?_;refine asQ ?_;refine asQ ?_;refine s_end (hK _ ?_); clear hK K;refine AWP_reg_seq tok fun K hK => ?_;refine mvQ ?_;refine s_call rfl rfl (cMn) rfl rfl rfl rfl ?_;refine mvQ ?_;refine s_extract rfl rfl rfl ?_;refine s_extract rfl rfl rfl ?_;refine asQ ?_;refine asQ ?_;refine s_end (hK _ ?_); clear hK K;refine AWP_seq ?_;refine AWP_reg_seq tok fun K hK => ?_;refine mvQ ?_;refine biQ ?_;refine s_end (hK _ ?_); clear hK K;refine a_cond rfl (fun h => by cases h) (fun _ => ?_);refine AWP_skip ?_;show AWP _ _ _ _ _ _;refine AWP_reg_seq tok fun K hK => ?_;refine mvQ ?_;refine s_call rfl rfl (cD) rfl rfl rfl rfl ?_;refine mvQ ?_;refine s_extract rfl rfl rfl ?_;refine s_extract rfl rfl rfl ?_;refine s_alloc rfl rfl rfl rfl rfl rfl ?_;refine s_store rfl rfl rfl rfl rfl ?_;refine asQ ?_;refine s_end (hK _ ?_); clear hK K;refine AWP_seq ?_;refine AWP_reg_seq tok fun K hK => ?_;refine mvQ ?_;refine biQ ?_;refine s_end (hK _ ?_); clear hK K;refine a_cond rfl (fun h => by cases h) (fun _ => ?_);refine AWP_skip ?_;show AWP _ _ _ _ _ _;refine AWP_reg_seq tok fun K hK => ?_;refine ldQ ?_;refine s_call rfl rfl (cW) rfl rfl rfl rfl ?_;refine mvQ ?_;refine s_extract rfl rfl rfl ?_;refine s_extract rfl rfl rfl ?_;refine s_alloc rfl rfl rfl rfl rfl rfl ?_;refine s_store rfl rfl rfl rfl rfl ?_;refine asQ ?_;refine s_end (hK _ ?_); clear hK K;refine AWP_reg_seq tok fun K hK => ?_;refine ldQ ?_;refine s_store rfl rfl rfl rfl rfl ?_;refine asQ ?_;refine s_end (hK _ ?_); clear hK K;refine AWP_ret ?_
  repeat (with_reducible refine tq_ret ?_)
  exact post_ret (fin_mk (by rfl) (by rfl) (by rfl))
end Go.Proofs.YtgopibpkgmafiaaGreat

/- ref32: numbered, merged, trees, Trees. No condition. -/
namespace Go.Proofs.YtgopibpkgmafiaaGreat
attribute [local irreducible] lexA

def updN (f : Nat → Nat) (a x : Nat) : Nat → Nat := fun i => if i = a then x else f i
theorem nmD_length (n : Nat) (f : Nat → Nat) : (nmD n f).length = n := by simp [nmD]
theorem nmD_get {n i : Nat} {f : Nat → Nat} (h : i < n) : (nmD n f)[i]? = some (cN (f i)) := by simp [nmD, h]
theorem nmD_congr {n : Nat} {f g : Nat → Nat} (h : ∀ i, i < n → f i = g i) : nmD n f = nmD n g := List.map_congr_left fun i hi => by rw [h i (List.mem_range.1 hi)]
theorem nmD_set {n i x : Nat} {f : Nat → Nat} : (nmD n f).set i (cN x) = nmD n (updN f i x) := by
  apply List.ext_getElem?
  intro k
  rw [List.getElem?_set]
  by_cases hk : i = k
  · subst hk
    rw [if_pos rfl, nmD_length]
    by_cases hn : i < n
    · rw [if_pos hn, nmD_get hn]; simp [updN]
    · rw [if_neg hn, List.getElem?_eq_none (by rw [nmD_length]; omega)]
  · rw [if_neg hk]
    rcases Nat.lt_or_ge k n with hn | hn
    · rw [nmD_get hn, nmD_get hn]; simp [updN, Ne.symm hk]
    · rw [List.getElem?_eq_none (by rw [nmD_length]; omega), List.getElem?_eq_none (by rw [nmD_length]; omega)]
section
variable {T : Tab} {t e : TypeId} {ti ei : TI}
theorem st_n {S : Objs} {rb : List Nat} {id i n : Nat} {f : Nat → Nat} (x : Nat) (h1 : T t = some ti) (h4 : ti.size = 1) (hS : S id = some (.arr 1 (nmD n f))) (hi : i < n) :
    effStore T ⟨[], S, rb⟩ t (.pe id 1 i 0) (dI x) = .upd (updO S id (.arr 1 (nmD n (updN f i x)))) rb := by
  rw [← nmD_set];exact st_o (ds := cN x) h1 hS (by rw [nmD_length]; exact hi) (fun el h => by rw [nmD_get hi] at h; cases h; rw [h4]; rfl) rfl (by rw [h4]; rfl) (by rw [h4]; rfl)
theorem l_n {S : Objs} {id i n : Nat} {f : Nat → Nat} (h1 : T t = some ti) (h4 : ti.size = 1) (h5 : ti.agg = false) (hS : S id = some (.arr 1 (nmD n f))) (hi : i < n) :
    effLoad T ⟨[], S, []⟩ t (.pe id 1 i 0) = .set (dI (f i)) :=
  l_o h1 hS (nmD_get hi) (by rw [h4]; rfl) (by rw [h5]; rfl)
end

theorem rNum_c (n : Nat) (hn : n ≤ 1048576) : Con Tryz.prog 43 [dI n] { v := V1 (.sl (nmD n id)) } := by
  refine con_intro (fn := Tryz.f43) tok Tryz.func43 (by kernel_rfl) rfl ?_
  intro w0 X
  rw [entry_mkE _ _ [(0, dI n)] rfl rfl];refine AWP_reg_seq tok fun K hK => ?_;refine asQ ?_;refine s_end (hK _ ?_); clear hK K;refine AWP_reg_seq tok fun K hK => ?_;refine asQ ?_;refine s_end (hK _ ?_); clear hK K;refine AWP_seq ?_;refine AWP_reg_seq tok fun K hK => ?_;refine asQ ?_;refine s_end (hK _ ?_); clear hK K;refine AWP_block (a_loop (α := Nat) (fun i => mk 15 [(0, dI n), (3, ownN 200 1 i), (4, dI i)] [(200, arrN 1 (nmD i id) i)] []) (fun i => i ≤ n) (fun i => n - i) 0 ?_ (Nat.zero_le _) ?_)
  · exact Wk.mk' ⟨rfl, rfl, rfl, trivial⟩ ⟨rfl, trivial⟩
  intro i hi
  refine AWP_seq ?_;refine AWP_reg_seq tok fun K hK => ?_;refine mvQ ?_;refine mvQ ?_;refine biQ ?_;refine s_end (hK _ ?_); clear hK K;refine a_cond rfl (fun hg => ?_) (fun hg => ?_)
  · have hg : i < n := by simp at hg; omega
    have n1 := nmD_succ i id
    have z1 : (nmD i id).length = i := by simp [nmD]
    rw [id_eq] at n1;generalize (nmD i id) = es at n1 z1 ⊢;refine AWP_skip ?_;show AWP _ _ _ _ _ _;refine AWP_seq ?_;refine AWP_block ?_
    rcases i with _ | i
    · refine AWP_reg tok fun K hK => ?_;refine mvQ ?_;refine mvQ ?_;refine s_buildSlice rfl rfl rfl rfl ?_;refine s_append rfl (ap_nil rfl rfl rfl rfl rfl (by decide) (Nat.le_of_ble_eq_true rfl) rfl (by simp) rfl (by simp) (by simp)) rfl rfl rfl ?_;refine asQ ?_;refine s_end (hK _ ?_); clear hK K;show AWP _ _ _ _ _ _;refine AWP_reg tok fun K hK => ?_;refine mvQ ?_;refine s_bin rfl (e_add (c := ((0 + 1 : Nat) : Int)) (by omega) (by omega)) rfl ?_;refine asQ ?_;refine s_end (hK _ ?_); clear hK K;refine ⟨0 + 1, by omega, hg, Wk.rn [0, 3, 4] [13] 13 200 rfl rfl rfl ⟨rfl, ?_, rfl, trivial⟩ ⟨?_, trivial⟩⟩
      · first
          | rfl
          | (show SV.val (.one (.own 200 1 0 _)) = _
             rw [List.length_append, z1]; rfl)
      · first
          | (rw [← n1, List.length_eq_zero_iff.1 z1]; rfl)
          | (rw [← n1]; rfl)
    · refine AWP_reg tok fun K hK => ?_;refine mvQ ?_;refine mvQ ?_;refine s_buildSlice rfl rfl rfl rfl ?_;refine s_append rfl (ap_o rfl rfl rfl rfl rfl rfl (by decide) (Nat.le_of_ble_eq_true rfl) rfl (by simp) rfl rfl z1.symm (by simp <;> omega)) rfl rfl rfl ?_;refine asQ ?_;refine s_end (hK _ ?_); clear hK K;show AWP _ _ _ _ _ _;refine AWP_reg tok fun K hK => ?_;refine mvQ ?_;refine s_bin rfl (e_add (c := ((i + 1 + 1 : Nat) : Int)) (by omega) (by omega)) rfl ?_;refine asQ ?_;refine s_end (hK _ ?_); clear hK K;refine ⟨i + 1 + 1, by omega, hg, Wk.rn [0, 3, 4] [13] 13 200 rfl rfl rfl ⟨rfl, ?_, rfl, trivial⟩ ⟨?_, trivial⟩⟩
      · first
          | rfl
          | (show SV.val (.one (.own 200 1 0 _)) = _
             rw [List.length_append, z1]; rfl)
      · first
          | (rw [← n1, List.length_eq_zero_iff.1 z1]; rfl)
          | (rw [← n1]; rfl)
  · have hg : n = i := by simp at hg; omega
    subst hg
    refine AWP_exit ?_;show AWP _ _ _ _ _ _
    rcases n with _ | n
    · refine AWP_reg_seq tok fun K hK => ?_;refine mvQ ?_;refine asQ ?_;refine s_end (hK _ ?_); clear hK K;refine AWP_ret ?_
      repeat (with_reducible refine tq_ret ?_)
      exact post_ret (fin_mk (by rfl) (by rfl) (by rfl))
    · refine a_fz [3] [200] 200 [(3, V1 (.sl (nmD (n + 1) id)))] [] rfl ?_ trivial ?_
      · exact ⟨frz_own rfl (by simp [nmD]), trivial⟩
      refine AWP_reg_seq tok fun K hK => ?_;refine mvQ ?_;refine asQ ?_;refine s_end (hK _ ?_); clear hK K;refine AWP_ret ?_
      repeat (with_reducible refine tq_ret ?_)
      exact post_ret (fin_mk (by rfl) (by rfl) (by rfl))

def mgS (p : Nat → Nat) (a b i v : Nat) : Nat := if v < i then mg p a b v else p v
theorem rMerged_c (n : Nat) (p : Nat → Nat) (a b : Nat) (hn : n ≤ 1048576) : Con Tryz.prog 46 [V1 (.sl (nmD n p)), dI a, dI b] { v := V1 (.sl (nmD n (mg p a b))) } := by
  refine con_intro (fn := Tryz.f46) tok Tryz.func46 (by kernel_rfl) rfl ?_
  intro w0 X
  rw [entry_mkE _ _ [(0, V1 (.sl (nmD n p))), (1, dI a), (2, dI b)] rfl rfl];refine AWP_reg_seq tok fun K hK => ?_;refine asQ ?_;refine s_end (hK _ ?_); clear hK K;refine AWP_reg_seq tok fun K hK => ?_;refine s_buildSlice rfl rfl rfl rfl ?_;refine mvQ ?_;refine s_append rfl (ap_o rfl rfl rfl rfl rfl rfl (by decide) (Nat.le_of_ble_eq_true rfl) rfl (fun e he => by obtain ⟨j, _, rfl⟩ := List.mem_map.1 he; rfl) rfl rfl rfl (by rw [nmD_length]; exact Nat.le_trans (by omega : 0 + n ≤ 1048576) (by decide))) rfl rfl rfl ?_;refine asQ ?_;refine s_end (hK _ ?_); clear hK K;refine AWP_seq ?_;refine AWP_reg_seq tok fun K hK => ?_;refine asQ ?_;refine s_end (hK _ ?_); clear hK K;refine AWP_block (a_loop (α := Nat) (fun i => mk 29 [(1, dI a), (2, dI b), (7, .val (.one (.own 11 1 0 n))), (8, dI i)] [(11, some (.arr 1 (nmD n (mgS p a b i))))] []) (fun i => i ≤ n) (fun i => n - i) 0 ?_ (Nat.zero_le _) ?_)
  · refine Wk.mk' ⟨rfl, rfl, ?_, rfl, trivial⟩ ⟨?_, trivial⟩
    · show SV.val (.one (.own 11 1 0 _)) = _
      rw [List.replicate_zero, List.nil_append, nmD_length]
    · exact congrArg (fun x => some (OO.arr 1 x)) (nmD_congr fun i _ => rfl)
  intro i hi
  refine AWP_seq ?_;refine AWP_reg_seq tok fun K hK => ?_;refine mvQ ?_;refine mvQ ?_;refine s_blt rfl rfl rfl ?_;refine biQ ?_;refine s_end (hK _ ?_); clear hK K;refine a_cond rfl (fun hg => ?_) (fun hg => ?_)
  · have hg : i < n := by simp at hg; omega
    refine AWP_skip ?_;show AWP _ _ _ _ _ _;refine AWP_seq ?_;refine AWP_block ?_
    have e0 : mgS p a b i i = p i := if_neg (Nat.lt_irrefl i)
    refine AWP_reg_seq tok fun K hK => ?_;refine mvQ ?_;refine mvQ ?_;refine s_indexAddr rfl (x_o (i := i) (j := i) rfl rfl rfl rfl rfl hg (Nat.zero_add _)) rfl ?_;refine s_load rfl (l_n rfl rfl rfl rfl hg) rfl ?_;refine mvQ ?_;refine s_bin rfl (e_eqN _ _) rfl ?_;refine s_end (hK _ ?_); clear hK K;rw [e0];refine a_cond rfl (fun hc => ?_) (fun hc => ?_)
    · have hc := of_decide_eq_true hc
      refine AWP_reg tok fun K hK => ?_;refine mvQ ?_;refine mvQ ?_;refine mvQ ?_;refine s_indexAddr rfl (x_o (i := i) (j := i) rfl rfl rfl rfl rfl hg (Nat.zero_add _)) rfl ?_;refine s_store rfl (st_n a rfl rfl rfl hg) rfl rfl rfl ?_;refine s_end (hK _ ?_); clear hK K;show AWP _ _ _ _ _ _
      have e : nmD n (updN (mgS p a b i) i a) = nmD n (mgS p a b (i + 1)) := nmD_congr fun k hk => by
        unfold updN mgS
        by_cases h : k = i
        · rw [if_pos h, h, if_pos (by omega), mg, if_pos hc]
        · rw [if_neg h]
          by_cases h2 : k < i
          · rw [if_pos h2, if_pos (by omega)]
          · rw [if_neg h2, if_neg (by omega)]
      rw [e];refine AWP_reg tok fun K hK => ?_;refine mvQ ?_;refine s_bin rfl (e_add (c := ((i + 1 : Nat) : Int)) (by omega) (by omega)) rfl ?_;refine asQ ?_;refine s_end (hK _ ?_); clear hK K;exact ⟨i + 1, by omega, hg, Wk.mk' ⟨rfl, rfl, rfl, rfl, trivial⟩ ⟨rfl, trivial⟩⟩
    · have hc := of_decide_eq_false hc
      refine AWP_skip ?_;show AWP _ _ _ _ _ _
      have e : nmD n (mgS p a b i) = nmD n (mgS p a b (i + 1)) := nmD_congr fun k hk => by
        unfold mgS
        by_cases h : k = i
        · rw [h, if_neg (by omega), if_pos (by omega), mg, if_neg hc]
        · by_cases h2 : k < i
          · rw [if_pos h2, if_pos (by omega)]
          · rw [if_neg h2, if_neg (by omega)]
      rw [e];refine AWP_reg tok fun K hK => ?_;refine mvQ ?_;refine s_bin rfl (e_add (c := ((i + 1 : Nat) : Int)) (by omega) (by omega)) rfl ?_;refine asQ ?_;refine s_end (hK _ ?_); clear hK K;exact ⟨i + 1, by omega, hg, Wk.mk' ⟨rfl, rfl, rfl, rfl, trivial⟩ ⟨rfl, trivial⟩⟩
  have hg : n = i := by simp at hg; omega
  subst hg
  have e : nmD n (mgS p a b n) = nmD n (mg p a b) := nmD_congr fun k hk => if_pos hk
  rw [e];refine AWP_exit ?_;show AWP _ _ _ _ _ _;refine a_fz [7] [11] 11 [(7, V1 (.sl (nmD n (mg p a b))))] [] rfl ?_ trivial ?_
  · exact ⟨frz_own rfl (by rw [nmD_length]), trivial⟩
  refine AWP_reg_seq tok fun K hK => ?_;refine mvQ ?_;refine asQ ?_;refine s_end (hK _ ?_); clear hK K;refine AWP_ret ?_
  repeat (with_reducible refine tq_ret ?_)
  exact post_ret (fin_mk (by rfl) (by rfl) (by rfl))

theorem trZ_bd : ∀ (ls : List LK) (p : Nat → Nat) (left : Nat), (∀ l ∈ ls, 0 ≤ l.w ∧ l.w ≤ 1048576) → 0 ≤ trZ p left ls ∧ trZ p left ls ≤ ((2 ^ (21 * ls.length) : Nat) : Int)
  | [], _, 0, _ => by simp [trZ]
  | x :: xs, _, 0, _ => by
    have : 0 < 2 ^ (21 * (x :: xs).length) := Nat.pos_of_ne_zero (by simp)
    simp only [trZ]; omega
  | [], _, _ + 1, _ => by simp [trZ]
  | x :: xs, p, left + 1, h => by
    have hx := h x List.mem_cons_self
    have ht : ∀ l ∈ xs, 0 ≤ l.w ∧ l.w ≤ 1048576 := fun l hl => h l (List.mem_cons_of_mem _ hl)
    have h1 := trZ_bd xs p (left + 1) ht
    have h2 := trZ_bd xs (mg p (p x.f.toNat) (p x.t.toNat)) left ht
    have e : 2 ^ (21 * (x :: xs).length) = 2097152 * 2 ^ (21 * xs.length) := by
      rw [List.length_cons, Nat.mul_succ, Nat.pow_add, Nat.mul_comm]
    rw [e];generalize (2 ^ (21 * xs.length) : Nat) = N at h1 h2 ⊢;simp only [trZ]
    split
    · omega
    · generalize trZ p (left + 1) xs = A at h1 ⊢;generalize trZ (mg p (p x.f.toNat) (p x.t.toNat)) left xs = B at h2 ⊢
      have h3 : 0 ≤ x.w * B := Int.mul_nonneg hx.1 h2.1
      have h4 : x.w * B ≤ 1048576 * (N : Int) := by
        have a1 : x.w * B ≤ 1048576 * B := Int.mul_le_mul_of_nonneg_right hx.2 h2.1
        have a2 : (1048576 : Int) * B ≤ 1048576 * (N : Int) := Int.mul_le_mul_of_nonneg_left h2.2 (by decide)
        omega
      omega
theorem trZ_zl {ls : List LK} (p : Nat → Nat) (left : Nat) (h : ∀ l ∈ ls, 0 ≤ l.w ∧ l.w ≤ 1048576) (hl : ls.length ≤ 48) : zl (trZ p left ls) ≤ 32 := by
  have b := trZ_bd ls p left h
  exact zl_pow (k := 21 * ls.length) (by omega) (by omega)

theorem rTrees_c (g : GR) (n : Nat) (hn : n ≤ 1048576) (hk : g.links.length ≤ 48) (hw : ∀ l ∈ g.links, 0 ≤ l.w ∧ l.w ≤ 1048576)
    (hf : ∀ l ∈ g.links, (∃ a b : Nat, l.f = a ∧ l.t = b ∧ a < n ∧ b < n)) : ∀ d k left p, g.links.length = k + d → left ≤ 1048576 →
    Con Tryz.prog 42 [AG g.cs, V1 (.sl (nmD n p)), dI (left : Nat), dI (k : Nat)] { v := AG (ZC (trZ p left (g.links.drop k))) } := by
  intro d
  induction d with
  | zero =>
    intro k left p hd hleft
    have h0 : g.links.drop k = [] := List.drop_eq_nil_of_le (by omega)
    rw [h0];refine con_intro (fn := Tryz.f42) tok Tryz.func42 (by kernel_rfl) rfl ?_
    intro w0 X
    rw [entry_mkE _ _ [(0, AG g.cs), (1, V1 (.sl (nmD n p))), (2, dI left), (3, dI k)] rfl rfl];refine AWP_reg_seq tok fun K hK => ?_;refine s_box rfl rfl rfl rfl rfl rfl ?_;refine s_alloc rfl rfl rfl rfl rfl rfl ?_;refine s_end (hK _ ?_); clear hK K;refine AWP_seq ?_;refine AWP_reg_seq tok fun K hK => ?_;refine mvQ ?_;refine biQ ?_;refine s_end (hK _ ?_); clear hK K;refine a_cond rfl (fun hc => ?_) (fun hc => ?_)
    · have hc : left = 0 := by simp at hc; omega
      subst hc
      refine AWP_reg_seq tok fun K hK => ?_;refine s_call rfl rfl (r1Of_c 1 ⟨by decide, by decide⟩) rfl rfl rfl rfl ?_;refine s_store rfl rfl rfl rfl rfl ?_;refine s_end (hK _ ?_); clear hK K;refine AWP_ret ?_
      repeat (with_reducible refine tq_ret ?_)
      exact post_ret (fin_mk (by rfl) (by rfl) (by rfl))
    · have hc : left ≠ 0 := by simp at hc; omega
      refine AWP_skip ?_;show AWP _ _ _ _ _ _;refine AWP_seq ?_;refine AWP_reg_seq tok fun K hK => ?_;refine faQ ?_;refine ldQ ?_;refine s_blt rfl (len_m LK.dc rfl rfl) rfl ?_;refine mvQ ?_;refine s_bin rfl (e_sub (c := (0 : Int)) (by omega) (by omega)) rfl ?_;refine mvQ ?_;refine biQ ?_;refine s_end (hK _ ?_); clear hK K;refine a_cond rfl (fun hc => ?_) (fun hc2 => ?_)
      · obtain ⟨m, rfl⟩ : ∃ m, left = m + 1 := ⟨left - 1, by omega⟩
        refine AWP_reg_seq tok fun K hK => ?_;refine s_call rfl rfl (r1Of_c 0 ⟨by decide, by decide⟩) rfl rfl rfl rfl ?_;refine s_store rfl rfl rfl rfl rfl ?_;refine s_end (hK _ ?_); clear hK K;refine AWP_ret ?_
        repeat (with_reducible refine tq_ret ?_)
        exact post_ret (fin_mk (by rfl) (by rfl) (by rfl))
      · simp at hc2; omega
  | succ d ih =>
    intro k left p hd hleft
    have hk' : k < g.links.length := by omega
    refine con_intro (fn := Tryz.f42) tok Tryz.func42 (by kernel_rfl) rfl ?_
    intro w0 X
    rw [entry_mkE _ _ [(0, AG g.cs), (1, V1 (.sl (nmD n p))), (2, dI left), (3, dI k)] rfl rfl];refine AWP_reg_seq tok fun K hK => ?_;refine s_box rfl rfl rfl rfl rfl rfl ?_;refine s_alloc rfl rfl rfl rfl rfl rfl ?_;refine s_end (hK _ ?_); clear hK K;refine AWP_seq ?_;refine AWP_reg_seq tok fun K hK => ?_;refine mvQ ?_;refine biQ ?_;refine s_end (hK _ ?_); clear hK K;refine a_cond rfl (fun hc => ?_) (fun hc => ?_)
    · have hc : left = 0 := by simp at hc; omega
      subst hc
      have e : trZ p 0 (g.links.drop k) = 1 := by
        generalize g.links.drop k = L
        cases L <;> rfl
      rw [e];refine AWP_reg_seq tok fun K hK => ?_;refine s_call rfl rfl (r1Of_c 1 ⟨by decide, by decide⟩) rfl rfl rfl rfl ?_;refine s_store rfl rfl rfl rfl rfl ?_;refine s_end (hK _ ?_); clear hK K;refine AWP_ret ?_
      repeat (with_reducible refine tq_ret ?_)
      exact post_ret (fin_mk (by rfl) (by rfl) (by rfl))
    · have hc : left ≠ 0 := by simp at hc; omega
      obtain ⟨m, rfl⟩ : ∃ m, left = m + 1 := ⟨left - 1, by omega⟩
      refine AWP_skip ?_;show AWP _ _ _ _ _ _;refine AWP_seq ?_;refine AWP_reg_seq tok fun K hK => ?_;refine faQ ?_;refine ldQ ?_;refine s_blt rfl (len_m LK.dc rfl rfl) rfl ?_;refine mvQ ?_;refine s_bin rfl (e_sub (c := ((d + 1 : Nat) : Int)) (by omega) (by omega)) rfl ?_;refine mvQ ?_;refine biQ ?_;refine s_end (hK _ ?_); clear hK K;refine a_cond rfl (fun hc => ?_) (fun hc2 => ?_)
      · have e : trZ p (m + 1) (g.links.drop k) = 0 := by
          have h := trZ_tr0 (g.links.drop k) p (m + 1)
          rw [tr0_few _ _ _ (by
            have : (wls (g.links.drop k)).length = d + 1 := by
              unfold wls; rw [List.length_map, List.length_drop]; omega
            rw [this]; simp at hc; omega)] at h
          exact Rat.intCast_inj.1 h
        rw [e];refine AWP_reg_seq tok fun K hK => ?_;refine s_call rfl rfl (r1Of_c 0 ⟨by decide, by decide⟩) rfl rfl rfl rfl ?_;refine s_store rfl rfl rfl rfl rfl ?_;refine s_end (hK _ ?_); clear hK K;refine AWP_ret ?_
        repeat (with_reducible refine tq_ret ?_)
        exact post_ret (fin_mk (by rfl) (by rfl) (by rfl))
      · obtain ⟨l, el⟩ : ∃ l, l = g.links[k] := ⟨_, rfl⟩
        have hml : l ∈ g.links := el ▸ List.getElem_mem hk'
        obtain ⟨x, y, hx, hy, hxn, hyn⟩ := hf l hml
        have hwl := hw l hml
        have hdr : g.links.drop k = l :: g.links.drop (k + 1) := by rw [List.drop_eq_getElem_cons hk', el]
        have hwd : ∀ l ∈ g.links.drop (k + 1), 0 ≤ l.w ∧ l.w ≤ 1048576 := fun l hl => hw l (List.mem_of_mem_drop hl)
        have hld : (g.links.drop (k + 1)).length ≤ 48 := by rw [List.length_drop]; omega
        have c1 := ih (k + 1) (m + 1) p (by omega) hleft
        have c2 := ih (k + 1) m (mg p (p x) (p y)) (by omega) (by omega)
        have z1 := trZ_zl p (m + 1) hwd hld
        have z2 := trZ_zl (mg p (p x) (p y)) m hwd hld
        have cM := rMerged_c n p (p x) (p y) hn
        have cO := r1Of_c l.w ⟨by omega, by omega⟩
        have cm := r1MulZ_c l.w (trZ (mg p (p x) (p y)) m (g.links.drop (k + 1))) (Nat.le_trans (zl_i64 ⟨by omega, by omega⟩) (by decide)) (by omega)
        have zm : zl (l.w * trZ (mg p (p x) (p y)) m (g.links.drop (k + 1))) ≤ 64 := by
          have b := trZ_bd (g.links.drop (k + 1)) (mg p (p x) (p y)) m hwd
          have b2 : 0 ≤ l.w * trZ (mg p (p x) (p y)) m (g.links.drop (k + 1)) := Int.mul_nonneg hwl.1 b.1
          have b3 : l.w * trZ (mg p (p x) (p y)) m (g.links.drop (k + 1)) ≤ 1048576 * ((2 ^ (21 * (g.links.drop (k + 1)).length) : Nat) : Int) := by
            have a1 : l.w * trZ (mg p (p x) (p y)) m (g.links.drop (k + 1)) ≤ 1048576 * trZ (mg p (p x) (p y)) m (g.links.drop (k + 1)) := Int.mul_le_mul_of_nonneg_right hwl.2 b.1
            have a2 : (1048576 : Int) * trZ (mg p (p x) (p y)) m (g.links.drop (k + 1)) ≤ 1048576 * ((2 ^ (21 * (g.links.drop (k + 1)).length) : Nat) : Int) := Int.mul_le_mul_of_nonneg_left b.2 (by decide)
            omega
          have e2 : 2 ^ (20 + 21 * (g.links.drop (k + 1)).length) = 1048576 * 2 ^ (21 * (g.links.drop (k + 1)).length) := by rw [Nat.pow_add]
          refine zl_pow (k := 20 + 21 * (g.links.drop (k + 1)).length) ?_ (by omega);rw [e2];generalize 2 ^ (21 * (g.links.drop (k + 1)).length) = N at b3 ⊢
          omega
        have ca := r1AddZ_c (trZ p (m + 1) (g.links.drop (k + 1))) (l.w * trZ (mg p (p x) (p y)) m (g.links.drop (k + 1))) (by omega) (by omega)
        have ev : trZ p (m + 1) (g.links.drop k) = if p x = p y then trZ p (m + 1) (g.links.drop (k + 1)) else trZ p (m + 1) (g.links.drop (k + 1)) + l.w * trZ (mg p (p x) (p y)) m (g.links.drop (k + 1)) := by
          rw [hdr, trZ, hx, hy, Int.toNat_natCast, Int.toNat_natCast]
        rw [ev];generalize trZ p (m + 1) (g.links.drop (k + 1)) = A at *;generalize trZ (mg p (p x) (p y)) m (g.links.drop (k + 1)) = B at *;refine AWP_skip ?_;show AWP _ _ _ _ _ _;refine AWP_reg_seq tok fun K hK => ?_;refine ldQ ?_;refine mvQ ?_;refine mvQ ?_;refine mvQ ?_;refine s_bin rfl (e_add (c := ((k + 1 : Nat) : Int)) (by omega) (by omega)) rfl ?_;refine s_call rfl rfl (c1) rfl rfl rfl rfl ?_;refine s_alloc rfl rfl rfl rfl rfl rfl ?_;refine s_store rfl rfl rfl rfl rfl ?_;refine s_end (hK _ ?_); clear hK K;refine AWP_reg_seq tok fun K hK => ?_;refine faQ ?_;refine ldQ ?_;refine mvQ ?_;refine s_indexAddr rfl (x_m LK.dc rfl rfl rfl rfl hk' rfl) rfl ?_;refine ldQ ?_;refine s_alloc rfl rfl rfl rfl rfl rfl ?_;refine s_store rfl rfl rfl rfl rfl ?_;refine s_end (hK _ ?_); clear hK K;rw [← el]
        obtain ⟨lf, lt, lx, ly, lw⟩ := l
        simp only at hx hy
        subst hx hy
        refine a_draw tok mixed (A := [[], [], [], [1], [0, 1, 2], [], [], [], [6], [5, 6, 7], [], []]) (an := [{}, {}, {}, {}, {}, {}, {}, {}, {}, {}, {}, {}]) rfl (by kernel_rfl) rfl fun K hK => ?_;refine mvQ ?_;refine faQ ?_;refine ldQ ?_;refine s_indexAddr rfl (x_n rfl rfl rfl rfl rfl hxn) rfl ?_;refine ldQ ?_;refine mvQ ?_;refine faQ ?_;refine ldQ ?_;refine s_indexAddr rfl (x_n rfl rfl rfl rfl rfl hyn) rfl ?_;refine ldQ ?_;refine asQ ?_;refine asQ ?_;refine s_end (hK _ ?_); clear hK K;refine AWP_seq ?_;refine AWP_reg_seq tok fun K hK => ?_;refine mvQ ?_;refine mvQ ?_;refine s_bin rfl (e_eqN _ _) rfl ?_;refine s_end (hK _ ?_); clear hK K;refine a_cond rfl (fun hc => ?_) (fun hc => ?_)
        · have hc := of_decide_eq_true hc
          rw [if_pos hc];refine AWP_reg_seq tok fun K hK => ?_;refine ldQ ?_;refine s_store rfl rfl rfl rfl rfl ?_;refine s_end (hK _ ?_); clear hK K;refine AWP_ret ?_
          repeat (with_reducible refine tq_ret ?_)
          exact post_ret (fin_mk (by rfl) (by rfl) (by rfl))
        · have hc := of_decide_eq_false hc
          rw [if_neg hc];refine AWP_skip ?_;show AWP _ _ _ _ _ _;refine a_draw tok mixed (A := [[], [], [], [1], [], [], [], [], [1, 2], [], [], [], [], [1, 2, 3, 5, 6, 7, 9, 11], [1, 2, 4, 5, 6, 7, 8, 9, 10, 11, 12], [1, 2, 3, 4, 5, 6, 7, 8, 9, 10, 11, 12, 13], []]) (an := [{}, {}, {}, {}, { c := [52] }, { c := [52] }, { c := [52] }, { c := [52] }, {}, { c := [52, 57] }, { c := [52, 57] }, { c := [52, 57] }, { c := [52, 57] }, {}, {}, {}, {}]) rfl (by kernel_rfl) rfl fun K hK => ?_;refine ldQ ?_;refine faQ ?_;refine ldQ ?_;refine s_call rfl rfl (cO) rfl rfl rfl rfl ?_;refine ldQ ?_;refine mvQ ?_;refine mvQ ?_;refine mvQ ?_;refine s_call rfl rfl (cM) rfl rfl rfl rfl ?_;refine mvQ ?_;refine s_bin rfl (e_sub (c := (m : Int)) (by omega) (by omega)) rfl ?_;refine mvQ ?_;refine s_bin rfl (e_add (c := ((k + 1 : Nat) : Int)) (by omega) (by omega)) rfl ?_;refine s_call rfl rfl (c2) rfl rfl rfl rfl ?_;refine s_call rfl rfl (cm) rfl rfl rfl rfl ?_;refine s_call rfl rfl (ca) rfl rfl rfl rfl ?_;refine s_store rfl rfl rfl rfl rfl ?_;refine s_end (hK _ ?_); clear hK K;refine AWP_ret ?_
          repeat (with_reducible refine tq_ret ?_)
          exact post_ret (fin_mk (by rfl) (by rfl) (by rfl))
theorem rTreesG_c (g : GR) (gv : GV g) : ∀ k left p, k ≤ g.links.length → left ≤ 1048576 → Con Tryz.prog 42 [AG g.cs, V1 (.sl (nmD g.nodes.length p)), dI (left : Nat), dI (k : Nat)] { v := AG (ZC (trZ p left (g.links.drop k))) } := by
  intro k left p h1 h2
  have n2 := gv.n2
  exact rTrees_c g g.nodes.length (by omega) gv.l (fun l hl => by have := (gLV gv l hl).w; omega) (fun l hl => by
    obtain ⟨a, b, ha, hb, e1, e2, _⟩ := (gLV gv l hl).lt
    exact ⟨a, b, e1, e2, ha, hb⟩) (g.links.length - k) k left p (by omega) h2
theorem rTreesAll_c (g : GR) (hm : g.links.length ≤ 9223372036854775806) : Con Tryz.prog 18 [AG g.cs] { v := .tup [.agg (ZC (treesV g).1), .one (.d (lI (treesV g).2))] } := by
  refine con_intro (fn := Tryz.f18) tok Tryz.func18 (by kernel_rfl) rfl ?_
  intro w0 X
  rw [entry_mkE _ _ [(0, AG g.cs)] rfl rfl];refine AWP_reg_seq tok fun K hK => ?_;refine s_box rfl rfl rfl rfl rfl rfl ?_;refine s_alloc rfl rfl rfl rfl rfl rfl ?_;refine asQ ?_;refine s_end (hK _ ?_); clear hK K;refine AWP_seq ?_;refine AWP_reg_seq tok fun K hK => ?_;refine ldQ ?_;refine s_call rfl rfl (r28Valid_c g hm) rfl rfl rfl rfl ?_;refine s_un rfl rfl rfl ?_;refine s_end (hK _ ?_); clear hK K;refine a_cond rfl (fun hc => ?_) (fun hc => ?_)
  · rw [Bool.not_eq_true'] at hc
    have e : treesV g = (0, 1) := by rw [treesV, if_neg (by rw [hc]; simp)]
    rw [e];refine AWP_reg_seq tok fun K hK => ?_;refine s_build rfl rfl rfl ?_;refine s_store rfl rfl rfl rfl rfl ?_;refine asQ ?_;refine s_end (hK _ ?_); clear hK K;refine AWP_ret ?_
    repeat (with_reducible refine tq_ret ?_)
    exact post_ret (fin_mk (by rfl) (by rfl) (by rfl))
  · rw [Bool.not_eq_false'] at hc
    have gv := validB_iff.1 hc
    rw [treesV, if_pos hc]
    have n1 := gv.n1
    have n2 := gv.n2
    have cN := rNum_c g.nodes.length (by omega)
    have cT := rTreesG_c g gv 0 (g.nodes.length - 1) id (Nat.zero_le _) (by omega)
    rw [List.drop_zero] at cT;refine AWP_skip ?_;show AWP _ _ _ _ _ _;refine a_draw tok mixed (A := [[], [], [], [1], [1, 2], [], [], [5], [5, 6], [1, 2, 3, 5, 6, 7], [], []]) (an := [{}, {}, {}, {}, {}, { c := [12] }, { c := [12] }, { c := [12] }, { c := [12] }, {}, {}, {}]) rfl (by kernel_rfl) rfl fun K hK => ?_;refine ldQ ?_;refine faQ ?_;refine ldQ ?_;refine s_blt rfl (len_m RW.dc rfl rfl) rfl ?_;refine s_call rfl rfl (cN) rfl rfl rfl rfl ?_;refine faQ ?_;refine ldQ ?_;refine s_blt rfl (len_m RW.dc rfl rfl) rfl ?_;refine s_bin rfl (e_sub (c := ((g.nodes.length - 1 : Nat) : Int)) (by omega) (by omega)) rfl ?_;refine s_call rfl rfl (cT) rfl rfl rfl rfl ?_;refine s_store rfl rfl rfl rfl rfl ?_;refine asQ ?_;refine s_end (hK _ ?_); clear hK K;refine AWP_ret ?_
    repeat (with_reducible refine tq_ret ?_)
    exact post_ret (fin_mk (by rfl) (by rfl) (by rfl))
end Go.Proofs.YtgopibpkgmafiaaGreat

/- ref32: part. No condition. -/
namespace Go.Proofs.YtgopibpkgmafiaaGreat
attribute [local irreducible] lexA

end Go.Proofs.YtgopibpkgmafiaaGreat

/- ref32: Resistance, Few, Without, Components. No condition. -/
namespace Go.Proofs.YtgopibpkgmafiaaGreat
attribute [local irreducible] lexA

def fwN (r : RW) : Nat := min r.wp.length 100 + min r.wq.length 100
def fwS : List RW → Nat
  | [] => 0
  | r :: l => fwN r + fwS l
theorem fwS_app (a b : List RW) : fwS (a ++ b) = fwS a + fwS b := by
  induction a with
  | nil => simp [fwS]
  | cons x a ih => simp only [List.cons_append, fwS, ih]; omega
theorem fwS_le (a : List RW) : fwS a ≤ 200 * a.length := by
  induction a with
  | nil => simp [fwS]
  | cons x a ih => simp only [List.length_cons, fwS, fwN]; omega
def fewL (g : GR) : Bool := decide (g.nodes.length ≤ 20 ∧ g.links.length ≤ 11 ∧ fwS (g.nodes.take 50) ≤ 200)
theorem rFew_c (g : GR) : Con Tryz.prog 6 [AG g.cs] { v := dB (fewL g) } := by
  refine con_intro (fn := Tryz.f6) tok Tryz.func6 (by kernel_rfl) rfl ?_
  intro w0 X
  rw [entry_mkE _ _ [(0, AG g.cs)] rfl rfl];refine AWP_reg_seq tok fun K hK => ?_;refine s_box rfl rfl rfl rfl rfl rfl ?_;refine asQ ?_;refine s_end (hK _ ?_); clear hK K;refine AWP_reg_seq tok fun K hK => ?_;refine asQ ?_;refine s_end (hK _ ?_); clear hK K;refine AWP_seq ?_;refine AWP_reg_seq tok fun K hK => ?_;refine asQ ?_;refine s_end (hK _ ?_); clear hK K;refine AWP_block (a_loop (α := Nat) (fun i => mk 51 [(1, .ptr 1 0), (3, dI (fwS (g.nodes.take i) : Nat)), (4, dI i)] [(1, some (.box g.cs))] []) (fun i => i ≤ g.nodes.length ∧ i ≤ 50) (fun i => 50 - i) 0 ?_ ⟨Nat.zero_le _, Nat.zero_le _⟩ ?_)
  · exact Wk.mk' ⟨rfl, rfl, rfl, trivial⟩ ⟨rfl, trivial⟩
  rintro i ⟨hi, h50⟩
  refine AWP_seq ?_;refine a_join (α := Bool) (fun c => mk 51 [(1, .ptr 1 0), (3, dI (fwS (g.nodes.take i) : Nat)), (4, dI i), (13, dB c)] [(1, some (.box g.cs))] []) (fun c => c = decide (i < g.nodes.length ∧ i < 50)) ?_ ?_
  · refine AWP_regW fun K hK => ?_;refine w_step tok rfl ?_;refine mvQ ?_;refine s_end ?_;refine w_step tok rfl ?_;refine faQ ?_;refine s_end ?_;refine w_step tok rfl ?_;refine ldQ ?_;refine s_end ?_;refine w_step tok rfl ?_;refine s_blt rfl (len_m RW.dc rfl rfl) rfl ?_;refine s_end ?_;refine w_step tok rfl ?_;refine biQ ?_;refine s_end ?_;refine w_step tok rfl ?_;refine mvQ ?_;refine s_end ?_;refine w_split (fun h0 => ?_) (fun h0 => ?_)
    · refine w_step tok rfl ?_;refine mvQ ?_;refine s_end ?_;refine w_step tok rfl ?_;refine biQ ?_;refine s_end ?_;refine w_step tok rfl ?_;refine piQ ?_;refine s_end ?_;refine w_end rfl (hK _ ?_); clear hK K;exact ⟨_, (by simp only [decide_eq_true_eq, decide_eq_false_iff_not] at h0; rw [Bool.eq_iff_iff]; simp only [decide_eq_true_eq, reduceCtorEq, false_iff]; omega), Wk.mk' ⟨rfl, rfl, rfl, rfl, trivial⟩ ⟨rfl, trivial⟩⟩
    · refine w_skip rfl rfl ?_;refine w_skip rfl rfl ?_;refine w_step tok rfl ?_;refine piQ ?_;refine s_end ?_;refine w_end rfl (hK _ ?_); clear hK K;exact ⟨_, (by simp only [decide_eq_true_eq, decide_eq_false_iff_not] at h0; rw [Bool.eq_iff_iff]; simp only [decide_eq_true_eq, reduceCtorEq, false_iff]; omega), Wk.mk' ⟨rfl, rfl, rfl, rfl, trivial⟩ ⟨rfl, trivial⟩⟩
  rintro c rfl
  refine a_cond rfl (fun hg => ?_) (fun hg => ?_)
  · have hg : i < g.nodes.length ∧ i < 50 := by simpa using hg
    obtain ⟨hg, hg2⟩ := hg
    obtain ⟨r, hr⟩ : ∃ r, r = g.nodes[i] := ⟨_, rfl⟩
    have e1 : fwS (g.nodes.take (i + 1)) = fwS (g.nodes.take i) + (min r.wp.length 100 + min r.wq.length 100) := by
      rw [List.take_succ_eq_append_getElem hg, fwS_app, ← hr]; rfl
    have b1 := fwS_le (g.nodes.take i)
    rw [List.length_take_of_le (by omega)] at b1;refine AWP_skip ?_;show AWP _ _ _ _ _ _;refine AWP_seq ?_;refine AWP_block ?_;refine a_draw1 tok mixed (A := [[], [], [], [], [1], [1, 2, 3], [1, 2, 3, 4], [1, 2, 3, 4, 5], [1, 2, 3, 4, 5, 6], [1, 2, 3, 4, 5, 6, 7], [], [], [], [10], [10, 11, 12], [10, 11, 12, 13], [10, 11, 12, 13, 14], [10, 11, 12, 13, 14, 15], [10, 11, 12, 13, 14, 15, 16], [1, 2, 3, 4, 5, 6, 7, 8, 10, 11, 12, 13, 14, 15, 16, 17], [1, 2, 3, 4, 5, 6, 7, 8, 9, 10, 11, 12, 13, 14, 15, 16, 17, 18], []]) (an := [{}, {}, {}, {}, {}, {}, {}, {}, {}, {}, {}, {}, {}, {}, {}, {}, {}, {}, {}, {}, {}, {}]) rfl (by kernel_rfl) rfl fun K hK => ?_;refine mvQ ?_;refine faQ ?_;refine ldQ ?_;refine mvQ ?_;refine s_indexAddr rfl (x_m RW.dc rfl rfl rfl rfl hg rfl) rfl ?_;refine faQ ?_;refine faQ ?_;refine ldQ ?_;refine s_blt rfl (len_w (ws := g.nodes[i].wp) rfl rfl rfl) rfl ?_;refine s_blt rfl (mm_min _ 100) rfl ?_;refine faQ ?_;refine ldQ ?_;refine mvQ ?_;refine s_indexAddr rfl (x_m RW.dc rfl rfl rfl rfl hg rfl) rfl ?_;refine faQ ?_;refine faQ ?_;refine ldQ ?_;refine s_blt rfl (len_w (ws := g.nodes[i].wq) rfl rfl rfl) rfl ?_;refine s_blt rfl (mm_min _ 100) rfl ?_;refine s_bin rfl (e_add (c := ((min g.nodes[i].wp.length 100 + min g.nodes[i].wq.length 100 : Nat) : Int)) (by omega) (by omega)) rfl ?_;refine s_bin rfl (e_add (c := ((fwS (g.nodes.take i) + (min g.nodes[i].wp.length 100 + min g.nodes[i].wq.length 100) : Nat) : Int)) (by omega) (by omega)) rfl ?_;refine asQ ?_;refine s_end (hK _ ?_); clear hK K;rw [← hr, ← e1];show AWP _ _ _ _ _ _;refine AWP_reg tok fun K hK => ?_;refine mvQ ?_;refine s_bin rfl (e_add rfl (by omega)) rfl ?_;refine asQ ?_;refine s_end (hK _ ?_); clear hK K;exact ⟨i + 1, by omega, ⟨hg, hg2⟩, Wk.mk' ⟨rfl, rfl, rfl, trivial⟩ ⟨rfl, trivial⟩⟩
  · have hg : ¬ (i < g.nodes.length ∧ i < 50) := by simpa using hg
    refine AWP_exit ?_;show AWP _ _ _ _ _ _
    have e : g.nodes.take 50 = g.nodes.take i := by
      by_cases h : i < 50
      · rw [List.take_of_length_le (by omega), List.take_of_length_le (by omega)]
      · have : i = 50 := by omega
        rw [this]
    rw [fewL, e];refine AWP_regW_seq fun K hK => ?_;refine w_step tok rfl ?_;refine faQ ?_;refine s_end ?_;refine w_step tok rfl ?_;refine ldQ ?_;refine s_end ?_;refine w_step tok rfl ?_;refine s_blt rfl (len_m RW.dc rfl rfl) rfl ?_;refine s_end ?_;refine w_step tok rfl ?_;refine biQ ?_;refine s_end ?_;refine w_step tok rfl ?_;refine mvQ ?_;refine s_end ?_;refine w_split (fun h0 => ?_) (fun h0 => ?_)
    · refine w_step tok rfl ?_;refine faQ ?_;refine s_end ?_;refine w_step tok rfl ?_;refine ldQ ?_;refine s_end ?_;refine w_step tok rfl ?_;refine s_blt rfl (len_m LK.dc rfl rfl) rfl ?_;refine s_end ?_;refine w_step tok rfl ?_;refine biQ ?_;refine s_end ?_;refine w_step tok rfl ?_;refine piQ ?_;refine s_end ?_;refine w_step tok rfl ?_;refine mvQ ?_;refine s_end ?_;refine w_split (fun h1 => ?_) (fun h1 => ?_)
      · refine w_step tok rfl ?_;refine mvQ ?_;refine s_end ?_;refine w_step tok rfl ?_;refine biQ ?_;refine s_end ?_;refine w_step tok rfl ?_;refine piQ ?_;refine s_end ?_;refine w_step tok rfl ?_;refine asQ ?_;refine s_end ?_;refine w_end rfl (hK _ ?_); clear hK K;refine AWP_ret ?_
        repeat (with_reducible refine tq_ret ?_)
        exact post_ret (fin_mk (by rfl) (by rfl) (by exact dB_eq (by simp only [decide_eq_true_eq, decide_eq_false_iff_not] at h0 h1; rw [Bool.eq_iff_iff]; simp only [decide_eq_true_eq, reduceCtorEq, iff_false, false_iff]; omega)))
      · refine w_skip rfl rfl ?_;refine w_skip rfl rfl ?_;refine w_step tok rfl ?_;refine piQ ?_;refine s_end ?_;refine w_step tok rfl ?_;refine asQ ?_;refine s_end ?_;refine w_end rfl (hK _ ?_); clear hK K;refine AWP_ret ?_
        repeat (with_reducible refine tq_ret ?_)
        exact post_ret (fin_mk (by rfl) (by rfl) (by exact dB_eq (by simp only [decide_eq_true_eq, decide_eq_false_iff_not] at h0 h1; rw [Bool.eq_iff_iff]; simp only [decide_eq_true_eq, reduceCtorEq, iff_false, false_iff]; omega)))
    · refine w_skip rfl rfl ?_;refine w_skip rfl rfl ?_;refine w_skip rfl rfl ?_;refine w_skip rfl rfl ?_;refine w_step tok rfl ?_;refine piQ ?_;refine s_end ?_;refine w_step tok rfl ?_;refine mvQ ?_;refine s_end ?_;refine w_skip rfl rfl ?_;refine w_skip rfl rfl ?_;refine w_step tok rfl ?_;refine piQ ?_;refine s_end ?_;refine w_step tok rfl ?_;refine asQ ?_;refine s_end ?_;refine w_end rfl (hK _ ?_); clear hK K;refine AWP_ret ?_
      repeat (with_reducible refine tq_ret ?_)
      exact post_ret (fin_mk (by rfl) (by rfl) (by exact dB_eq (by simp only [decide_eq_true_eq, decide_eq_false_iff_not] at h0; rw [Bool.eq_iff_iff]; simp only [decide_eq_true_eq, reduceCtorEq, iff_false, false_iff]; omega)))

def woL (k : Nat) (ls : List LK) (i : Nat) : List LK := (ls.take i).eraseIdx k
def woG (g : GR) (k : Nat) : GR := ⟨g.nodes, g.links.eraseIdx k⟩
theorem woL_succ {k i : Nat} {ls : List LK} (h : i < ls.length) : woL k ls (i + 1) = if i = k then woL k ls i else woL k ls i ++ [ls[i]] := by
  unfold woL
  rw [List.take_succ_eq_append_getElem h]
  have hl : (ls.take i).length = i := List.length_take_of_le (by omega)
  rcases Nat.lt_trichotomy k i with h1 | h1 | h1
  · rw [if_neg (by omega), List.eraseIdx_append_of_lt_length (by omega)]
  · subst h1
    rw [if_pos rfl, List.eraseIdx_append_of_length_le (by omega), hl, Nat.sub_self, List.eraseIdx_of_length_le (l := ls.take k) (by omega)]; simp
  · rw [if_neg (by omega), List.eraseIdx_append_of_length_le (by omega), hl, List.eraseIdx_of_length_le (l := ls.take i) (by omega), List.eraseIdx_of_length_le (by simp; omega)]
theorem rwithout_c (g : GR) (k : Nat) (hk : g.links.length ≤ 1048576) : Con Tryz.prog 45 [AG g.cs, dI k] { v := AG (woG g k).cs } := by
  refine con_intro (fn := Tryz.f45) tok Tryz.func45 (by kernel_rfl) rfl ?_
  intro w0 X
  rw [entry_mkE _ _ [(0, AG g.cs), (1, dI k)] rfl rfl];refine AWP_reg_seq tok fun K hK => ?_;refine s_box rfl rfl rfl rfl rfl rfl ?_;refine s_alloc rfl rfl rfl rfl rfl rfl ?_;refine s_end (hK _ ?_); clear hK K;refine AWP_reg_seq tok fun K hK => ?_;refine faQ ?_;refine ldQ ?_;refine s_build rfl rfl rfl ?_;refine s_alloc rfl rfl rfl rfl rfl rfl ?_;refine s_store rfl rfl rfl rfl rfl ?_;refine s_end (hK _ ?_); clear hK K;refine AWP_seq ?_;refine AWP_reg_seq tok fun K hK => ?_;refine asQ ?_;refine s_end (hK _ ?_); clear hK K;refine AWP_block (a_loop (α := Nat) (fun i => mk 31 [(1, dI k), (2, .ptr 2 0), (4, .ptr 4 0), (5, .ptr 5 0), (6, dI i)] [(2, some (.box g.cs)), (4, some (.box [.nil, .nil])), (5, some (.box [.d (dRs g.nodes), ownC 201 5 (woL k g.links i).length])), (201, arrN 5 ((woL k g.links i).map LK.dc) (woL k g.links i).length)] [5]) (fun i => i ≤ g.links.length) (fun i => g.links.length - i) 0 ?_ (Nat.zero_le _) ?_)
  · exact Wk.trans (Wk.rbE rfl) (Wk.mk' ⟨rfl, rfl, rfl, rfl, rfl, trivial⟩ ⟨rfl, rfl, rfl, rfl, trivial⟩)
  intro i hi
  refine AWP_seq ?_;refine AWP_reg_seq tok fun K hK => ?_;refine mvQ ?_;refine faQ ?_;refine ldQ ?_;refine s_blt rfl (len_m LK.dc rfl rfl) rfl ?_;refine biQ ?_;refine s_end (hK _ ?_); clear hK K;refine a_cond rfl (fun hg => ?_) (fun hg => ?_)
  · have hg : i < g.links.length := by simp at hg; omega
    have n1 := woL_succ (k := k) hg
    obtain ⟨l, el⟩ : ∃ l, l = g.links[i] := ⟨_, rfl⟩
    rw [← el] at n1
    have zl' : (woL k g.links i).length ≤ 1048576 := Nat.le_trans (List.length_eraseIdx_le _ _) (by rw [List.length_take]; omega)
    generalize woL k g.links i = L at n1 zl' ⊢
    have z1 : (L.map LK.dc).length = L.length := List.length_map _
    obtain ⟨es, hes⟩ : ∃ es, es = L.map LK.dc := ⟨_, rfl⟩
    obtain ⟨b, hb⟩ : ∃ b, b = L.length := ⟨_, rfl⟩
    rw [← hes] at z1 ⊢;rw [← hb] at z1 zl' ⊢;refine AWP_skip ?_;show AWP _ _ _ _ _ _;refine AWP_seq ?_;refine AWP_block ?_
    rcases b with _ | b
    · refine AWP_reg_seq tok fun K hK => ?_;refine mvQ ?_;refine mvQ ?_;refine s_bin rfl (e_neN _ _) rfl ?_;refine s_end (hK _ ?_); clear hK K;refine a_cond rfl (fun hc => ?_) (fun hc => ?_)
      · have hc := of_decide_eq_true hc
        rw [if_neg hc] at n1
        have n2 : es ++ [l.dc] = (woL k g.links (i + 1)).map LK.dc := by rw [n1, hes, List.map_append]; rfl
        have k2 : (woL k g.links (i + 1)).length = (0) + 1 := by rw [n1, List.length_append, ← hb]; rfl
        rw [el] at n2;refine a_draw1 tok mixed (A := [[], [], [], [], [], [2], [2, 3, 4], [2, 3, 4, 5], [0, 2, 3, 4, 5, 6], [], []]) (an := [{}, {}, {}, {}, {}, {}, {}, {}, {}, {}, {}]) rfl (by kernel_rfl) rfl fun K hK => ?_;refine faQ ?_;refine ldQ ?_;refine faQ ?_;refine ldQ ?_;refine mvQ ?_;refine s_indexAddr rfl (x_m LK.dc rfl rfl rfl rfl hg rfl) rfl ?_;refine ldQ ?_;refine s_buildSlice rfl rfl rfl rfl ?_;refine s_append rfl (ap_nil rfl rfl rfl rfl rfl (by decide) (Nat.le_of_ble_eq_true rfl) rfl (by simp) rfl (by simp) (by simp)) rfl rfl rfl ?_;refine faQ ?_;refine s_storeB rfl rfl rfl rfl rfl ?_;refine s_end (hK _ ?_); clear hK K;show AWP _ _ _ _ _ _;refine AWP_reg tok fun K hK => ?_;refine mvQ ?_;refine s_bin rfl (e_add (c := ((i + 1 : Nat) : Int)) (by omega) (by omega)) rfl ?_;refine asQ ?_;refine s_end (hK _ ?_); clear hK K;refine ⟨i + 1, by omega, hg, ?_⟩;rw [k2];refine Wk.rnB [1, 2, 4, 5, 6] [2, 4, 5, 28] 28 201 rfl rfl rfl ⟨rfl, rfl, rfl, rfl, rfl, trivial⟩ ⟨rfl, rfl, ?_, ?_, trivial⟩ rfl
        · first
            | rfl
            | (show some (OO.box [_, .own 201 5 0 _]) = _
               rw [List.length_append, z1]; rfl)
        · first
            | (rw [← n2, List.length_eq_zero_iff.1 z1]; rfl)
            | (rw [← n2]; rfl)
      · have hc : i = k := Classical.byContradiction (of_decide_eq_false hc)
        rw [if_pos hc] at n1;refine AWP_skip ?_;show AWP _ _ _ _ _ _;refine AWP_reg tok fun K hK => ?_;refine mvQ ?_;refine s_bin rfl (e_add (c := ((i + 1 : Nat) : Int)) (by omega) (by omega)) rfl ?_;refine asQ ?_;refine s_end (hK _ ?_); clear hK K;refine ⟨i + 1, by omega, hg, ?_⟩;rw [n1, ← hes, ← hb];exact Wk.mk' ⟨rfl, rfl, rfl, rfl, rfl, trivial⟩ ⟨rfl, rfl, rfl, rfl, trivial⟩
    · refine AWP_reg_seq tok fun K hK => ?_;refine mvQ ?_;refine mvQ ?_;refine s_bin rfl (e_neN _ _) rfl ?_;refine s_end (hK _ ?_); clear hK K;refine a_cond rfl (fun hc => ?_) (fun hc => ?_)
      · have hc := of_decide_eq_true hc
        rw [if_neg hc] at n1
        have n2 : es ++ [l.dc] = (woL k g.links (i + 1)).map LK.dc := by rw [n1, hes, List.map_append]; rfl
        have k2 : (woL k g.links (i + 1)).length = (b + 1) + 1 := by rw [n1, List.length_append, ← hb]; rfl
        rw [el] at n2;refine a_draw1 tok mixed (A := [[], [], [], [], [], [2], [2, 3, 4], [2, 3, 4, 5], [0, 2, 3, 4, 5, 6], [], []]) (an := [{}, {}, {}, {}, {}, {}, {}, {}, {}, {}, {}]) rfl (by kernel_rfl) rfl fun K hK => ?_;refine faQ ?_;refine ldQ ?_;refine faQ ?_;refine ldQ ?_;refine mvQ ?_;refine s_indexAddr rfl (x_m LK.dc rfl rfl rfl rfl hg rfl) rfl ?_;refine ldQ ?_;refine s_buildSlice rfl rfl rfl rfl ?_;refine s_append rfl (ap_o rfl rfl rfl rfl rfl rfl (by decide) (Nat.le_of_ble_eq_true rfl) rfl (by simp) rfl rfl z1.symm (by simp <;> omega)) rfl rfl rfl ?_;refine faQ ?_;refine s_storeB rfl rfl rfl rfl rfl ?_;refine s_end (hK _ ?_); clear hK K;show AWP _ _ _ _ _ _;refine AWP_reg tok fun K hK => ?_;refine mvQ ?_;refine s_bin rfl (e_add (c := ((i + 1 : Nat) : Int)) (by omega) (by omega)) rfl ?_;refine asQ ?_;refine s_end (hK _ ?_); clear hK K;refine ⟨i + 1, by omega, hg, ?_⟩;rw [k2];refine Wk.rnB [1, 2, 4, 5, 6] [2, 4, 5, 28] 28 201 rfl rfl rfl ⟨rfl, rfl, rfl, rfl, rfl, trivial⟩ ⟨rfl, rfl, ?_, ?_, trivial⟩ rfl
        · first
            | rfl
            | (show some (OO.box [_, .own 201 5 0 _]) = _
               rw [List.length_append, z1]; rfl)
        · first
            | (rw [← n2, List.length_eq_zero_iff.1 z1]; rfl)
            | (rw [← n2]; rfl)
      · have hc : i = k := Classical.byContradiction (of_decide_eq_false hc)
        rw [if_pos hc] at n1;refine AWP_skip ?_;show AWP _ _ _ _ _ _;refine AWP_reg tok fun K hK => ?_;refine mvQ ?_;refine s_bin rfl (e_add (c := ((i + 1 : Nat) : Int)) (by omega) (by omega)) rfl ?_;refine asQ ?_;refine s_end (hK _ ?_); clear hK K;refine ⟨i + 1, by omega, hg, ?_⟩;rw [n1, ← hes, ← hb];exact Wk.mk' ⟨rfl, rfl, rfl, rfl, rfl, trivial⟩ ⟨rfl, rfl, rfl, rfl, trivial⟩
  have hg : i = g.links.length := by simp at hg; omega
  subst hg
  refine AWP_exit ?_;show AWP _ _ _ _ _ _
  have e : woL k g.links g.links.length = g.links.eraseIdx k := by unfold woL; rw [List.take_length]
  rw [e]
  unfold woG
  generalize g.links.eraseIdx k = L
  rcases L with _ | ⟨l, L⟩
  · skip
    refine AWP_reg_seq tok fun K hK => ?_;refine ldQ ?_;refine s_store rfl rfl rfl rfl rfl ?_;refine s_end (hK _ ?_); clear hK K;refine AWP_ret ?_
    repeat (with_reducible refine tq_ret ?_)
    exact post_ret (fin_mk (by rfl) (by rfl) (by rfl))
  · refine a_fz [4, 5] [4, 5, 201] 201 [(4, .ptr 4 0), (5, .ptr 5 0)] [(4, some (.box [.nil, .nil])), (5, some (.box (GR.mk g.nodes (l :: L)).cs))] rfl ⟨rfl, rfl, trivial⟩ ⟨rfl, (by show some (OO.box [_, frzC 201 5 _ (.own 201 5 0 _)]) = _; rw [frzC_own rfl (by simp)]; rfl), trivial⟩ ?_;refine AWP_reg_seq tok fun K hK => ?_;refine ldQ ?_;refine s_store rfl rfl rfl rfl rfl ?_;refine s_end (hK _ ?_); clear hK K;refine AWP_ret ?_
    repeat (with_reducible refine tq_ret ?_)
    exact post_ret (fin_mk (by rfl) (by rfl) (by rfl))

def mxL (r : List Nat) : Nat := r.foldl (fun m x => max m (x + 1)) 0
def cmpN (g : GR) : Nat := mxL ((List.range g.nodes.length).map (lab g))
theorem cmpN_num {g : GR} (gv : GV g) : cmpN g = (num (partsR g) g.nodes.length).2 := by
  have h : RG (partsR g) := (partsL_ok _ _).1
  have : ∀ i, i ≤ g.nodes.length → mxL ((List.range i).map (lab g)) = (num (partsR g) i).2 := by
    intro i
    induction i with
    | zero => intro _; rfl
    | succ i ih =>
      intro hi
      have e1 : mxL ((List.range (i + 1)).map (lab g)) = max (mxL ((List.range i).map (lab g))) (lab g i + 1) := by
        unfold mxL; rw [List.range_succ, List.map_append, List.foldl_append]; rfl
      rw [e1, ih (by omega), lab_labF gv];simp only [num]
      by_cases hf : fd (partsR g) i = i
      · rw [if_pos hf, lab_fd h (by omega) hf]
        simp only; omega
      · rw [if_neg hf]
        have fv := fd_le h i
        have iv := fd_idem h i
        rw [lab_root h (show i < g.nodes.length by omega), lab_fd h (show fd (partsR g) i < g.nodes.length by omega) iv]
        have := num_root h iv (show fd (partsR g) i < i by omega)
        simp only; omega
  exact this _ (Nat.le_refl _)
theorem rcomps_c (g : GR) (gv : GV g) : Con Tryz.prog 44 [AG g.cs] { v := dI (cmpN g) } := by
  have l48 := gv.l
  have n16 := gv.n2
  have cP := r28Parts_c g (by omega)
  have e0 : (partsV g).2 = 0 := by rw [partsV, if_pos (validB_iff.2 gv)]
  rw [dNs_nm g gv, e0] at cP;refine con_intro (fn := Tryz.f44) tok Tryz.func44 (by kernel_rfl) rfl ?_
  intro w0 X
  rw [entry_mkE _ _ [(0, AG g.cs)] rfl rfl];refine AWP_reg_seq tok fun K hK => ?_;refine s_box rfl rfl rfl rfl rfl rfl ?_;refine asQ ?_;refine s_end (hK _ ?_); clear hK K;refine AWP_reg_seq tok fun K hK => ?_;refine ldQ ?_;refine s_call rfl rfl (cP) rfl rfl rfl rfl ?_;refine mvQ ?_;refine s_extract rfl rfl rfl ?_;refine s_extract rfl rfl rfl ?_;refine asQ ?_;refine asQ ?_;refine s_end (hK _ ?_); clear hK K;refine AWP_reg_seq tok fun K hK => ?_;refine asQ ?_;refine s_end (hK _ ?_); clear hK K;refine AWP_seq ?_;refine AWP_reg_seq tok fun K hK => ?_;refine asQ ?_;refine s_end (hK _ ?_); clear hK K;refine AWP_block (a_loop (α := Nat) (fun i => mk 26 [(3, V1 (.sl (nmD g.nodes.length (lab g)))), (5, dI (mxL ((List.range i).map (lab g)) : Nat)), (6, dI i)] [] []) (fun i => i ≤ g.nodes.length) (fun i => g.nodes.length - i) 0 ?_ (Nat.zero_le _) ?_)
  · exact Wk.mk' ⟨rfl, rfl, rfl, trivial⟩ trivial
  intro i hi
  refine AWP_seq ?_;refine AWP_reg_seq tok fun K hK => ?_;refine mvQ ?_;refine mvQ ?_;refine s_blt rfl (len_n rfl rfl) rfl ?_;refine biQ ?_;refine s_end (hK _ ?_); clear hK K;refine a_cond rfl (fun hg => ?_) (fun hg => ?_)
  · have hg : i < g.nodes.length := by simp at hg; omega
    have hlb : lab g i < 1048576 := by
      rw [lab_labF gv]
      have h1 := lab_lt (r := partsR g) (partsL_ok _ _).1 hg
      have h2 := num_le (partsR g) g.nodes.length
      omega
    have e1 : mxL ((List.range (i + 1)).map (lab g)) = max (mxL ((List.range i).map (lab g))) (lab g i + 1) := by
      unfold mxL; rw [List.range_succ, List.map_append, List.foldl_append]; rfl
    refine AWP_skip ?_;show AWP _ _ _ _ _ _;refine AWP_seq ?_;refine AWP_block ?_;refine AWP_reg tok fun K hK => ?_;refine mvQ ?_;refine mvQ ?_;refine mvQ ?_;refine s_indexAddr rfl (x_n rfl rfl rfl rfl rfl hg) rfl ?_;refine ldQ ?_;refine s_bin rfl (e_add (c := ((lab g i + 1 : Nat) : Int)) (by omega) (by omega)) rfl ?_;refine s_blt rfl (mm_max _ _) rfl ?_;refine asQ ?_;refine s_end (hK _ ?_); clear hK K;rw [← e1];show AWP _ _ _ _ _ _;refine AWP_reg tok fun K hK => ?_;refine mvQ ?_;refine s_bin rfl (e_add (c := ((i + 1 : Nat) : Int)) (by omega) (by omega)) rfl ?_;refine asQ ?_;refine s_end (hK _ ?_); clear hK K;exact ⟨i + 1, by omega, hg, Wk.mk' ⟨rfl, rfl, rfl, trivial⟩ trivial⟩
  · have hg : i = g.nodes.length := by simp at hg; omega
    subst hg
    refine AWP_exit ?_;show AWP _ _ _ _ _ _;refine AWP_reg_seq tok fun K hK => ?_;refine mvQ ?_;refine asQ ?_;refine s_end (hK _ ?_); clear hK K;refine AWP_ret ?_
    repeat (with_reducible refine tq_ret ?_)
    exact post_ret (fin_mk (by rfl) (by rfl) (by rfl))
end Go.Proofs.YtgopibpkgmafiaaGreat

/- ref32's resistance is leverage's. No condition. -/
namespace Go.Proofs.YtgopibpkgmafiaaGreat
attribute [local irreducible] lexA

end Go.Proofs.YtgopibpkgmafiaaGreat

/- law32: small, two, awake; Resists. No condition. -/
namespace Go.Proofs.YtgopibpkgmafiaaGreat
attribute [local irreducible] lexA

def gTwo : GR := ⟨[rw00, rw00], [⟨0, 1, 0, 0, 1⟩, ⟨1, 0, 0, 0, 2⟩]⟩
theorem two_c : Con Tryz.prog 24 [] { v := AG gTwo.cs } := by
  refine con_intro (fn := Tryz.f24) tok Tryz.func24 (by kernel_rfl) rfl ?_
  intro w0 X
  rw [entry_mkE _ _ [] rfl rfl];refine AWP_reg_seq tok fun K hK => ?_;refine s_alloc rfl rfl rfl rfl rfl rfl ?_;refine s_end (hK _ ?_); clear hK K;refine AWP_reg_seq tok fun K hK => ?_;refine s_makeSlice (sz := _) (es := _) (f := _) (v := _) rfl (mk_a (l := 2) (z := rw00.dc) rfl rfl rfl rfl rfl (Nat.le_of_ble_eq_true rfl) (by decide) rfl rfl (by decide)) rfl rfl ?_;refine s_build rfl rfl rfl ?_;refine s_build rfl rfl rfl ?_;refine s_buildSlice rfl rfl rfl rfl ?_;refine s_build rfl rfl rfl ?_;refine s_storeB rfl rfl rfl rfl rfl ?_;refine s_end (hK _ ?_); clear hK K;refine AWP_ret ?_
  repeat (with_reducible refine tq_ret ?_)
  exact post_ret (fin_mk (by rfl) (by rfl) (by rfl))
theorem gTwo_v : validB gTwo = true := by decide
theorem gTwo_res : resQ gTwo 0 1 = 1 / 3 := by
  have gv := validB_iff.1 gTwo_v
  refine (res_isR gv (i := 0) (j := 1) (by decide) (by decide) (by decide)).uniq (wls_l gv) (by decide) (by decide) ⟨fun v => if v = 0 then 1 / 3 else 0, fun v hv => ?_, by decide +kernel⟩
  have : v = 0 ∨ v = 1 := by
    have : gTwo.nodes.length = 2 := rfl
    omega
  rcases this with rfl | rfl <;> decide +kernel
theorem awake_c : Con Tryz.prog 5 [] { v := dB true } := by
  have cR := gResist_c gTwo 0 1
  have e1 : resistV gTwo 0 1 = (qzW (1 / 3), 0) := by
    rw [resistV, if_pos gTwo_v, if_pos (by decide)]
    show rstV gTwo 0 1 = _
    rw [rstV, if_pos (by decide), gTwo_res]
  rw [e1] at cR
  have cT := gTrees_c gTwo
  have e2 : treesV gTwo = (3, 0) := by decide
  rw [e2] at cT
  have c3 : Con Tryz.prog 25 [dI 1, dI 3] { v := AG (qzW (1 / 3)).cs } := by
    have c := r2Of_c 1 3 ⟨by decide, by decide⟩ ⟨by decide, by decide⟩
    have e : Rat.divInt 1 3 = 1 / 3 := by decide +kernel
    rw [e] at c;exact c
  have cB := rat_same (qzW (1 / 3)) ⟨by decide +kernel, by decide +kernel⟩
  have cI := bInt_c false false [3] [3] (by decide)
  refine con_intro (fn := Tryz.f5) tok Tryz.func5 (by kernel_rfl) rfl ?_
  intro w0 X
  rw [entry_mkE _ _ [] rfl rfl];refine AWP_reg_seq tok fun K hK => ?_;refine asQ ?_;refine s_end (hK _ ?_); clear hK K;refine AWP_reg_seq tok fun K hK => ?_;refine s_call rfl rfl (two_c) rfl rfl rfl rfl ?_;refine s_call rfl rfl (cR) rfl rfl rfl rfl ?_;refine mvQ ?_;refine s_extract rfl rfl rfl ?_;refine s_extract rfl rfl rfl ?_;refine s_alloc rfl rfl rfl rfl rfl rfl ?_;refine s_store rfl rfl rfl rfl rfl ?_;refine asQ ?_;refine s_end (hK _ ?_); clear hK K;refine AWP_reg_seq tok fun K hK => ?_;refine s_call rfl rfl (two_c) rfl rfl rfl rfl ?_;refine s_call rfl rfl (cT) rfl rfl rfl rfl ?_;refine mvQ ?_;refine s_extract rfl rfl rfl ?_;refine s_extract rfl rfl rfl ?_;refine s_alloc rfl rfl rfl rfl rfl rfl ?_;refine s_store rfl rfl rfl rfl rfl ?_;refine asQ ?_;refine s_end (hK _ ?_); clear hK K;refine a_draw tok mixed (A := [[], [], [0], [0, 1], [0, 1], [0, 1], [0, 1, 3, 4], [0, 1, 2, 3, 4], [0, 1, 2, 3, 4, 5, 6], [0, 1, 2, 3, 4, 5, 6], [0, 1, 2, 3, 4, 5, 6, 8], [0, 1, 2, 3, 4, 5, 6, 8, 9], [0, 1, 2, 3, 4, 5, 6, 7, 8, 9, 10], [0, 1, 2, 3, 4, 5, 6, 7, 8, 9, 10], [0, 1, 2, 3, 4, 5, 6, 7, 8, 9, 10], [0, 1, 2, 3, 4, 5, 6, 7, 8, 9, 10, 13], [0, 1, 2, 3, 4, 5, 6, 7, 8, 9, 10, 12, 13, 14], []]) (an := [{}, {}, {}, {}, {}, {}, {}, {}, {}, {}, {}, {}, {}, {}, {}, {}, {}, {}]) rfl (by kernel_rfl) rfl fun K hK => ?_;refine mvQ ?_;refine biQ ?_;refine mvQ ?_;refine ldQ ?_;refine s_call rfl rfl (c3) rfl rfl rfl rfl ?_;refine s_call rfl rfl (cB) rfl rfl rfl rfl ?_;refine piQ ?_;refine mvQ ?_;refine mvQ ?_;refine biQ ?_;refine piQ ?_;refine mvQ ?_;refine ldQ ?_;refine s_buildSlice rfl rfl rfl rfl ?_;refine s_build rfl rfl rfl ?_;refine s_callF rfl rfl (cI) ⟨rfl, fun _ _ h => by cases h⟩ rfl rfl rfl ?_;refine piQ ?_;refine asQ ?_;refine s_end (hK _ ?_); clear hK K;refine AWP_ret ?_
  repeat (with_reducible refine tq_ret ?_)
  exact post_ret (fin_mk (by rfl) (by rfl) (by rfl))

end Go.Proofs.YtgopibpkgmafiaaGreat

/- law32: Triangle, More. No condition. -/
namespace Go.Proofs.YtgopibpkgmafiaaGreat
attribute [local irreducible] lexA

theorem trZ_zl8 {ls : List LK} (p : Nat → Nat) (left : Nat) (h : ∀ l ∈ ls, 0 ≤ l.w ∧ l.w ≤ 1048576) (hl : ls.length ≤ 11) : zl (trZ p left ls) ≤ 8 := by
  have b := trZ_bd ls p left h
  exact zl_pow (k := 21 * ls.length) (by omega) (by omega)
end Go.Proofs.YtgopibpkgmafiaaGreat

/- Union-find: root, single, join. No condition. -/
namespace Go.Proofs.YtgopibpkgmafiaaGreat
attribute [local irreducible] lexA
open Go.RowKit

def itS (s : Nat → Nat) : Nat → Nat → Nat
  | 0, v => v
  | k + 1, v => itS s k (s v)
theorem itS_fix {s : Nat → Nat} {v : Nat} (h : s v = v) : ∀ k, itS s k v = v
  | 0 => rfl
  | k + 1 => by rw [itS, h]; exact itS_fix h k
def RT (n : Nat) (s : Nat → Nat) (v r : Nat) : Prop := (∀ x, x < n → s x < n) ∧ v < n ∧ s r = r ∧ ∃ k, itS s k v = r
theorem RT.lt {n : Nat} {s : Nat → Nat} {v r : Nat} (h : RT n s v r) : r < n := by
  obtain ⟨h1, h2, _, k, h4⟩ := h
  have : ∀ k v, v < n → itS s k v < n := by
    intro k
    induction k with
    | zero => intro v h; exact h
    | succ k ih => intro v h; exact ih _ (h1 v h)
  rw [← h4]; exact this k v h2
theorem root_c (n : Nat) (s : Nat → Nat) (v r : Nat) (h : RT n s v r) : Con Tryz.prog 41 [V1 (.sl (nmD n s)), dI v] { v := dI r } := by
  obtain ⟨h1, h2, h3, k, h4⟩ := h
  refine con_intro (fn := Tryz.f41) tok Tryz.func41 (by kernel_rfl) rfl ?_
  intro w0 X
  rw [entry_mkE _ _ [(0, V1 (.sl (nmD n s))), (1, dI v)] rfl rfl];refine AWP_reg_seq tok fun K hK => ?_;refine asQ ?_;refine s_end (hK _ ?_); clear hK K;refine AWP_seq ?_;refine AWP_block (a_loop (α := Nat × Nat) (fun p => mk 16 [(0, V1 (.sl (nmD n s))), (1, dI p.1)] [] []) (fun p => p.1 < n ∧ itS s p.2 p.1 = r) (fun p => p.2) (v, k) ?_ ⟨h2, h4⟩ ?_)
  · exact Wk.mk' ⟨rfl, rfl, trivial⟩ trivial
  rintro ⟨x, k⟩ ⟨hx, hk⟩
  simp only at hx hk ⊢
  refine AWP_seq ?_;refine AWP_reg_seq tok fun K hK => ?_;refine mvQ ?_;refine mvQ ?_;refine s_indexAddr rfl (x_n rfl rfl rfl rfl rfl hx) rfl ?_;refine ldQ ?_;refine mvQ ?_;refine s_bin rfl (e_neN _ _) rfl ?_;refine s_end (hK _ ?_); clear hK K;refine a_cond rfl (fun hc => ?_) (fun hc => ?_)
  · have hc := of_decide_eq_true hc
    refine AWP_skip ?_;show AWP _ _ _ _ _ _;refine AWP_block ?_;refine AWP_reg tok fun K hK => ?_;refine mvQ ?_;refine mvQ ?_;refine s_indexAddr rfl (x_n rfl rfl rfl rfl rfl hx) rfl ?_;refine ldQ ?_;refine asQ ?_;refine s_end (hK _ ?_); clear hK K
    rcases k with _ | k
    · have hk : x = r := hk
      rw [hk] at hc; exact absurd h3 hc
    · exact ⟨(s x, k), Nat.lt_succ_self k, ⟨h1 x hx, hk⟩, Wk.mk' ⟨rfl, rfl, trivial⟩ trivial⟩
  · have hc : s x = x := Classical.byContradiction (of_decide_eq_false hc)
    have e : r = x := by rw [← hk]; exact itS_fix hc k
    subst e
    refine AWP_exit ?_;show AWP _ _ _ _ _ _;refine AWP_reg_seq tok fun K hK => ?_;refine mvQ ?_;refine asQ ?_;refine s_end (hK _ ?_); clear hK K;refine AWP_ret ?_
    repeat (with_reducible refine tq_ret ?_)
    exact post_ret (fin_mk (by rfl) (by rfl) (by rfl))

def sgS (i v : Nat) : Nat := if v < i then v else 0
theorem single_c (n : Nat) (hn : n ≤ 1048576) : Con Tryz.prog 39 [dI n] { v := .val (.one (.own 0 1 0 n)), ob := some (1, nmD n id) } := by
  refine con_intro (fn := Tryz.f39) tok Tryz.func39 (by kernel_rfl) rfl ?_
  intro w0 X
  rw [entry_mkE _ _ [(0, dI n)] rfl rfl];refine AWP_reg_seq tok fun K hK => ?_;refine asQ ?_;refine s_end (hK _ ?_); clear hK K;refine AWP_reg_seq tok fun K hK => ?_;refine mvQ ?_;refine s_makeSlice (sz := _) (es := _) (f := _) (v := _) rfl (mk_a (l := n) rfl rfl rfl rfl rfl (Nat.le_of_ble_eq_true rfl) (by decide) rfl rfl (by omega)) rfl rfl ?_;refine asQ ?_;refine s_end (hK _ ?_); clear hK K;refine AWP_seq ?_;refine AWP_reg_seq tok fun K hK => ?_;refine mvQ ?_;refine s_blt rfl rfl rfl ?_;refine mvQ ?_;refine s_end (hK _ ?_); clear hK K;refine AWP_block (a_loop (α := Nat) (fun s => mk 18 [(3, .val (.one (.own 6 1 0 n))), (8, dI n), (9, dI s)] [(6, some (.arr 1 (nmD n (sgS s))))] []) (fun s => s ≤ n) (fun s => n - s) 0 ?_ (Nat.zero_le _) ?_)
  · exact Wk.mk' ⟨rfl, rfl, rfl, trivial⟩ ⟨congrArg (fun x => some (OO.arr 1 x)) ((show List.replicate n (cN 0) = nmD n (fun _ => 0) by simp [nmD, List.map_const']).trans (nmD_congr fun v _ => by unfold sgS; rw [if_neg (by omega)])), trivial⟩
  intro s hs
  refine AWP_reg_seq tok fun K hK => ?_;refine biQ ?_;refine s_end (hK _ ?_); clear hK K;refine AWP_seq ?_;refine a_cond rfl (fun hf => ?_) (fun hf => ?_)
  · have hf : s < n := by simp at hf; omega
    refine AWP_skip ?_;show AWP _ _ _ _ _ _;refine AWP_seq ?_;refine AWP_block ?_;refine AWP_reg_seq tok fun K hK => ?_;refine mvQ ?_;refine asQ ?_;refine s_end (hK _ ?_); clear hK K;refine AWP_reg tok fun K hK => ?_;refine mvQ ?_;refine mvQ ?_;refine mvQ ?_;refine s_indexAddr rfl (x_o (i := s) (j := s) rfl rfl rfl rfl rfl hf (Nat.zero_add _)) rfl ?_;refine s_store rfl (st_n s rfl rfl rfl hf) rfl rfl rfl ?_;refine s_end (hK _ ?_); clear hK K
    have e : nmD n (updN (sgS s) s s) = nmD n (sgS (s + 1)) := nmD_congr fun v _ => by
      unfold updN sgS
      by_cases h : v = s
      · rw [if_pos h, h, if_pos (by omega)]
      · rw [if_neg h]
        by_cases h2 : v < s
        · rw [if_pos h2, if_pos (by omega)]
        · rw [if_neg h2, if_neg (by omega)]
    rw [e];show AWP _ _ _ _ _ _;refine AWP_reg tok fun K hK => ?_;refine s_bin rfl (e_add (c := ((s + 1 : Nat) : Int)) (by omega) (by omega)) rfl ?_;refine mvQ ?_;refine s_end (hK _ ?_); clear hK K;exact ⟨s + 1, by omega, hf, Wk.mk' ⟨rfl, rfl, rfl, trivial⟩ ⟨rfl, trivial⟩⟩
  have hf : s = n := by simp at hf; omega
  subst hf
  refine AWP_exit ?_;show AWP _ _ _ _ _ _
  have e : nmD s (sgS s) = nmD s id := nmD_congr fun i hi => if_pos hi
  rw [e];refine AWP_reg_seq tok fun K hK => ?_;refine mvQ ?_;refine asQ ?_;refine s_end (hK _ ?_); clear hK K;refine AWP_ret ?_;exact post_ret (fin_own (by rfl) rfl)
end Go.Proofs.YtgopibpkgmafiaaGreat

/- join. No condition. -/
namespace Go.Proofs.YtgopibpkgmafiaaGreat
attribute [local irreducible] lexA
open Go.RowKit

theorem root_run {n : Nat} {s : Nat → Nat} {v r : Nat} (h : RT n s v r) {w1 : World} {b cap : Nat} {cs : Array Value} {E : TypeId} (hh : w1.heap[b]? = some (.cells cs E (0, 0))) (hcap : n ≤ cap) (hcs : ∀ i, i < n → cs[i]? = some (.int .i64 (s i : Nat))) :
    Calls Tryz.prog 41 #[.slice (some ⟨b, 0, none⟩) n cap, .int .i64 (v : Nat)] w1 fun e w' => e = .returned (.int .i64 (r : Nat)) ∧ Below w1.heap.size w1 w' := by
  have c := (root_c n s v r h).2 w1 (fun _ => False) (fun _ => 0) [.slice (some ⟨b, 0, none⟩) n cap, .int .i64 (v : Nat)] (fun _ h => h.elim) rfl (fun i x hx => by
    match i, hx with
    | 0, hx =>
      cases hx
      refine ⟨_, rfl, ?_⟩
      show RdC _ _ _ _
      refine RdC.sl (sz := 1) (fun i _ => .int .i64 (s i : Nat)) hh (fun h => h) (by rw [nmD_length]) hcap (fun i e he => ?_) (fun i j d hd => ?_) (fun i j d hd => ?_)
      · obtain ⟨q, _, rfl⟩ := List.mem_map.1 (List.mem_of_getElem? he); rfl
      · unfold at2 at hd
        by_cases hi : i < n
        · rw [nmD_get hi] at hd
          match j, hd with
          | 0, hd => simpa using hcs i hi
          | j + 1, hd => simp [cN] at hd
        · rw [List.getElem?_eq_none (by rw [nmD_length]; omega)] at hd; cases hd
      · unfold at2 at hd
        by_cases hi : i < n
        · rw [nmD_get hi] at hd
          match j, hd with
          | 0, hd => cases hd; exact RdC.lit rfl
          | j + 1, hd => simp [cN] at hd
        · rw [List.getElem?_eq_none (by rw [nmD_length]; omega)] at hd; cases hd
    | 1, hx => cases hx; exact ⟨_, rfl, RdC.lit rfl⟩)
  refine c.mono fun e w' ⟨v', he, hb, hr⟩ => ⟨?_, hb⟩;rw [he]
  obtain ⟨_, _, hr⟩ := hr
  have hr : RdC _ _ v' (.lit (.int .i64 (r : Nat))) := hr
  cases hr; rfl
theorem join_m {n : Nat} {s : Nat → Nat} {v u rv ru : Nat} (hv : RT n s v rv) (hu : RT n s u ru) : JoinC Tryz.prog 40 n s v u rv ru := by
  refine ⟨⟨_, Tryz.func40, rfl, rfl⟩, fun w b cap cs E hh hcap hcz hcs => ?_⟩
  have hrv := hv.lt
  obtain ⟨fr, r1, r2, r3⟩ := (root_c n s v rv hv).1
  refine calls_of_wp Tryz.func40 rfl ?_
  obtain ⟨A, hA⟩ : ∃ A : Value, A = .slice (some ⟨b, 0, none⟩) n cap := ⟨_, rfl⟩
  obtain ⟨B, hB⟩ : ∃ B : Value, B = .int .i64 (v : Nat) := ⟨_, rfl⟩
  obtain ⟨C, hC⟩ : ∃ C : Value, C = .int .i64 (u : Nat) := ⟨_, rfl⟩
  rw [← hA, ← hB, ← hC]
  have e0 : (#[A, B, C] ++ Array.replicate (Tryz.f40.ntmps - (#[A, B, C] : Array Value).size) undef : Array Value) = #[A, B, C, undef, undef, undef, undef, undef, undef, undef, undef, undef, undef, undef, undef, undef, undef, undef, undef, undef] := by
    apply Array.ext'
    rw [Array.toList_append, Array.toList_replicate]; rfl
  rw [e0]
  have ka : KA 20 { tmps := #[A, B, C, undef, undef, undef, undef, undef, undef, undef, undef, undef, undef, undef, undef, undef, undef, undef, undef, undef], defers := [] } [(0, A), (1, B), (2, C)] := by
    refine ⟨rfl, rfl, fun k x hk => ?_⟩
    match k, hk with
    | 0, hk => cases hk; rfl
    | 1, hk => cases hk; rfl
    | 2, hk => cases hk; rfl
    | k + 3, hk => simp [List.lookup] at hk
  generalize ({ tmps := #[A, B, C, undef, undef, undef, undef, undef, undef, undef, undef, undef, undef, undef, undef, undef, undef, undef, undef, undef], defers := [] } : Act) = a0 at ka ⊢;refine wp_seq (wp_region ?_)
  show wpOps _ _ _ [0] _ _
  refine k_const rfl ka rfl fun a1 ka => ?_
  show Code.wp _ _ _ _ _
  refine wp_seq (wp_region ?_)
  show wpOps _ _ _ [0, 1, 2, 3, 4, 5, 6, 7] _ _
  refine k_move rfl ka rfl rfl fun a2 ka => ?_;refine k_move rfl ka rfl rfl fun a3 ka => ?_;refine k_call2 rfl ka rfl rfl rfl r1 r2 r3 ?_;rw [hA, hB];refine (root_run hv hh hcap hcs).mono fun e w1 ⟨he, hb1⟩ => ⟨_, he, fun a4 ka => ?_⟩;rw [← hA, ← hB] at ka
  have hh1 : w1.heap[b]? = some (.cells cs E (0, 0)) := (hb1.block b (lt_of_heap hh)).trans hh
  refine k_move rfl ka rfl rfl fun a5 ka => ?_;refine k_move rfl ka rfl rfl fun a6 ka => ?_;refine k_call2 rfl ka rfl rfl rfl r1 r2 r3 ?_;rw [hA, hC];refine (root_run hu hh1 hcap hcs).mono fun e w2 ⟨he, hb2⟩ => ⟨_, he, fun a7 ka => ?_⟩;rw [← hA, ← hC] at ka
  have hh2 : w2.heap[b]? = some (.cells cs E (0, 0)) := (hb2.block b (lt_of_heap hh1)).trans hh1
  refine k_assign rfl ka rfl rfl fun a8 ka => ?_;refine k_assign rfl ka rfl rfl fun a9 ka => ?_
  show Code.wp _ _ _ _ _
  refine wp_seq (wp_region ?_)
  show wpOps _ _ _ [0, 1, 2, 3, 4] _ _
  refine k_move rfl ka rfl rfl fun a10 ka => ?_;refine k_move rfl ka rfl rfl fun a11 ka => ?_;refine k_move rfl ka rfl rfl fun a12 ka => ?_
  have hz : rv < cs.size := (Array.getElem?_eq_some_iff.1 (hcs rv hrv)).1
  have ei : (Instr.indexAt 68 A (.int .i64 (rv : Nat))).run Tryz.prog w2 = .ok (.pointer (some ⟨b, rv, none⟩)) w2 := by
    obtain ⟨x, h1, h2⟩ := effIndexAddr_sound (P := Tryz.prog) (T := tab) (w := w2) (X := fun _ => False) (μ := fun _ => b) tok (t := 68) (vx := A) (vi := .int .i64 (rv : Nat)) (x := .val (.one (.own 0 1 0 n))) (i := dI rv) (v := .pe 0 1 rv 0) ⟨cap, cs, E, (0, 0), by rw [hA, Nat.zero_mul], hcap, hh2, by rw [Nat.zero_add, Nat.mul_one]; exact hcz⟩ (RdC.lit rfl) (x_o (i := rv) (j := rv) rfl rfl rfl rfl rfl hrv (Nat.zero_add _))
    rw [h1]
    have h2 : x = .pointer (some ⟨b, rv * 1 + 0, none⟩) := h2
    rw [h2, Nat.mul_one, Nat.add_zero]
  refine k_idx rfl ka rfl rfl rfl ei fun a13 ka => ?_;refine k_store (w' := setRow w2 b (cs.setIfInBounds rv (.int .i64 (ru : Nat)))) rfl ka rfl rfl ?_ ?_
  · obtain ⟨ti, ht, hs⟩ : ∃ ti, tab.ty 3 = some ti ∧ ti.size = 1 := ⟨_, rfl, rfl⟩
    have := run_storeAt (P := Tryz.prog) (X := fun _ => False) (μ := fun _ => 0) (tok.ty _ _ ht) (off := rv) hh2 (v := .int .i64 (ru : Nat)) (x := .one (.d (lI (ru : Nat)))) (RdC.lit rfl) hs.symm (by rw [hs]; exact hz)
    exact this
  show Code.wp _ _ _ _ _
  refine wp_seq (wp_region ?_)
  show wpOps _ _ _ [0, 1, 2, 3] _ _
  refine k_move rfl ka rfl rfl fun a14 ka => ?_;refine k_move rfl ka rfl rfl fun a15 ka => ?_
  obtain ⟨x, h1, h2⟩ := effBin_sound (P := Tryz.prog) (T := tab) (w := setRow w2 b (cs.setIfInBounds rv (.int .i64 (ru : Nat)))) (X := fun _ => False) (μ := fun _ => b) tok (op := .neq) (t := 3) (ox := .tmp 17) (oy := .tmp 18) (x := dI rv) (y := dI ru) (v := dB (decide (rv ≠ ru))) (RdC.lit (v := .int .i64 (rv : Nat)) rfl) (RdC.lit (v := .int .i64 (ru : Nat)) rfl) (e_neN rv ru)
  have h2 : x = .bool (decide (rv ≠ ru)) := by
    have h2 : RdC _ _ x (.lit (.bool (decide (rv ≠ ru)))) := h2
    cases h2; rfl
  rw [h2] at h1;refine k_bin rfl ka rfl rfl rfl (fun a' q1 q2 => by simp only [execOp]; rw [q1, q2]) h1 fun a16 ka => ?_;refine k_assign rfl ka rfl rfl fun a17 ka => ?_
  show Code.wp _ _ _ _ _
  refine wp_ret ?_;refine ⟨ka.2.1, .bool (decide (rv ≠ ru)), ?_, rfl, w2, hb1.trans (hb2.mono hb1.size), hh2.trans hh.symm, rfl⟩
  have e6 := ka.2.2 6 _ rfl
  have e7 : results Tryz.f40 a17.tmps = pure (a17.eval (.tmp 6)) := by
    unfold results
    show _ = pure (a17.tmps.getD 6 undef)
    rw [Array.getD_eq_getD_getElem?];simp only [Tryz.f40]
    simp
  rw [e7, e6]; rfl
end Go.Proofs.YtgopibpkgmafiaaGreat

/- Union-find against connectedness; Forest. No condition. -/
namespace Go.Proofs.YtgopibpkgmafiaaGreat
attribute [local irreducible] lexA
open Go.RowKit

def jR (ρ : Nat → Nat) (f t x : Nat) : Nat := if ρ x = ρ f then ρ t else ρ x
def rhoL : List LK → Nat → Nat := fun ls => ls.foldl (fun ρ l => jR ρ l.f.toNat l.t.toNat) id
theorem rhoL_snoc (ls : List LK) (l : LK) : rhoL (ls ++ [l]) = jR (rhoL ls) l.f.toNat l.t.toNat := by unfold rhoL; rw [List.foldl_append]; rfl
def RTs (n : Nat) (s ρ : Nat → Nat) : Prop := ∀ v, v < n → RT n s v (ρ v)
theorem RTs_id (n : Nat) : RTs n id id := fun v hv => ⟨fun x h => h, hv, rfl, 0, rfl⟩
theorem RTs_join {n : Nat} {s ρ s' : Nat → Nat} {f t : Nat} (h : RTs n s ρ) (hf : f < n) (ht : t < n) (hs' : ∀ i, s' i = if i = ρ f then ρ t else s i) : RTs n s' (jR ρ f t) := by
  have rf := h f hf
  have rt := h t ht
  have cl : ∀ x, x < n → s' x < n := fun x hx => by
    rw [hs']; split
    · exact rt.lt
    · exact rf.1 x hx
  have key : ∀ k x, x < n → ∀ r, itS s k x = r → s r = r → ∃ k', itS s' k' x = (if r = ρ f then ρ t else r) ∧ s' (if r = ρ f then ρ t else r) = (if r = ρ f then ρ t else r) := by
    intro k
    have hroot : ∀ r, s r = r → s' (if r = ρ f then ρ t else r) = (if r = ρ f then ρ t else r) := fun r hr => by
      by_cases e : r = ρ f
      · rw [if_pos e, hs']
        by_cases e2 : ρ t = ρ f
        · rw [if_pos e2]
        · rw [if_neg e2]; exact rt.2.2.1
      · rw [if_neg e, hs', if_neg e]; exact hr
    induction k with
    | zero =>
      intro x hx r hk hr
      have hk : x = r := hk
      subst hk
      by_cases e : x = ρ f
      · refine ⟨1, ?_, hroot x hr⟩
        show s' x = _
        rw [hs', if_pos e, if_pos e]
      · refine ⟨0, ?_, hroot x hr⟩
        show x = _
        rw [if_neg e]
    | succ k ih =>
      intro x hx r hk hr
      by_cases e : x = ρ f
      · have hsx : s x = x := by rw [e]; exact rf.2.2.1
        have : r = x := by rw [← hk, itS, hsx]; exact itS_fix hsx k
        subst this
        refine ⟨1, ?_, hroot r hr⟩
        show s' r = _
        rw [hs', if_pos e, if_pos e]
      · obtain ⟨k', h1, h2⟩ := ih (s x) (rf.1 x hx) r hk hr
        refine ⟨k' + 1, ?_, h2⟩
        show itS s' k' (s' x) = _
        rw [hs', if_neg e]; exact h1
  intro v hv
  obtain ⟨_, _, h3, k, h4⟩ := h v hv
  obtain ⟨k', h5, h6⟩ := key k v hv (ρ v) h4 h3
  exact ⟨cl, hv, h6, k', h5⟩
theorem rho_cnn {n : Nat} : ∀ (d : Nat) (ls : List LK), ls.length = d → (∀ l ∈ ls, l.f.toNat < n ∧ l.t.toNat < n) → ∀ u v, u < n → v < n → (rhoL ls u = rhoL ls v ↔ Cnn (prs ls) u v)
  | 0, ls, h, _ => fun u v _ _ => by
    have : ls = [] := List.length_eq_zero_iff.1 h
    subst this
    exact ⟨fun e => (show u = v from e) ▸ .refl _, Cnn.nil⟩
  | d + 1, ls, h, hl => fun u v hu hv => by
    obtain ⟨ys, l, rfl⟩ : ∃ ys l, ls = ys ++ [l] := by
      have hne : ls ≠ [] := fun e => by rw [e] at h; cases h
      exact ⟨ls.dropLast, ls.getLast hne, (List.dropLast_concat_getLast hne).symm⟩
    have hl' : ∀ x ∈ ys, x.f.toNat < n ∧ x.t.toNat < n := fun x hx => hl x (List.mem_append_left _ hx)
    obtain ⟨hf, ht⟩ := hl l (by simp)
    have ih := rho_cnn d ys (by simpa using h) hl'
    have ep : prs (ys ++ [l]) = prs ys ++ [(l.f.toNat, l.t.toNat)] := by unfold prs; rw [List.map_append]; rfl
    rw [rhoL_snoc, ep, Cnn.snoc, ← ih u v hu hv, ← ih u _ hu hf, ← ih _ v ht hv, ← ih u _ hu ht, ← ih _ v hf hv]
    unfold jR
    generalize rhoL ys u = a;generalize rhoL ys v = b;generalize rhoL ys l.f.toNat = p;generalize rhoL ys l.t.toNat = q
    by_cases h1 : a = p
    · rw [if_pos h1]
      by_cases h2 : b = p
      · rw [if_pos h2]; omega
      · rw [if_neg h2]; omega
    · rw [if_neg h1]
      by_cases h2 : b = p
      · rw [if_pos h2]; omega
      · rw [if_neg h2]; omega
def foB (g : GR) (j : Nat) : Bool := match g.links[j]? with | some l => decide (rhoL (g.links.take j) l.f.toNat ≠ rhoL (g.links.take j) l.t.toNat) | none => false
def foL (g : GR) (k : Nat) : List Nat := (List.range k).filter (foB g)
def forestV (g : GR) : List Nat × Int := if validB g = true then (foL g g.links.length, 0) else ([], 1)
theorem foL_succ (g : GR) (k : Nat) : foL g (k + 1) = if foB g k = true then foL g k ++ [k] else foL g k := by
  unfold foL
  rw [List.range_succ, List.filter_append]
  by_cases h : foB g k = true
  · rw [if_pos h]; simp [h]
  · rw [if_neg h]; simp [h]
theorem foL_len (g : GR) (k : Nat) : (foL g k).length ≤ k := Nat.le_trans (List.length_filter_le _ _) (by simp)

end Go.Proofs.YtgopibpkgmafiaaGreat

/- Forest. No condition. -/
namespace Go.Proofs.YtgopibpkgmafiaaGreat
attribute [local irreducible] lexA
open Go.RowKit

theorem gForest_c (g : GR) : Con Tryz.prog 17 [AG g.cs] { v := .tup [.one (.d (dNs (forestV g).1)), .one (.d (lI (forestV g).2))] } := by
  refine con_intro (fn := Tryz.f17) tok Tryz.func17 (by kernel_rfl) rfl ?_
  intro w0 X
  rw [entry_mkE _ _ [(0, AG g.cs)] rfl rfl];refine AWP_reg_seq tok fun K hK => ?_;refine s_box rfl rfl rfl rfl rfl rfl ?_;refine asQ ?_;refine asQ ?_;refine s_end (hK _ ?_); clear hK K;refine AWP_seq ?_;refine AWP_reg_seq tok fun K hK => ?_;refine ldQ ?_;refine s_call rfl rfl (gValid_c g) rfl rfl rfl rfl ?_;refine s_un rfl rfl rfl ?_;refine s_end (hK _ ?_); clear hK K;refine a_cond rfl (fun hc => ?_) (fun hc => ?_)
  · rw [Bool.not_eq_true'] at hc
    have e : forestV g = ([], 1) := by rw [forestV, if_neg (by rw [hc]; simp)]
    rw [e];refine AWP_reg_seq tok fun K hK => ?_;refine asQ ?_;refine asQ ?_;refine s_end (hK _ ?_); clear hK K;refine AWP_ret ?_
    repeat (with_reducible refine tq_ret ?_)
    exact post_ret (fin_mk (by rfl) (by rfl) (by rfl))
  rw [Bool.not_eq_false'] at hc
  have gv := validB_iff.1 hc
  have n16 := gv.n2
  have l48 := gv.l
  rw [forestV, if_pos hc];refine AWP_skip ?_;show AWP _ _ _ _ _ _;refine AWP_reg_seq tok fun K hK => ?_;refine faQ ?_;refine ldQ ?_;refine s_blt rfl (len_m RW.dc rfl rfl) rfl ?_;refine s_callN rfl rfl (single_c g.nodes.length (by omega)) (Or.inl rfl) rfl rfl rfl rfl ?_;refine asQ ?_;refine s_end (hK _ ?_); clear hK K;refine AWP_reg_seq tok fun K hK => ?_;refine asQ ?_;refine s_end (hK _ ?_); clear hK K;refine AWP_seq ?_;refine AWP_reg_seq tok fun K hK => ?_;refine faQ ?_;refine ldQ ?_;refine s_blt rfl (len_m LK.dc rfl rfl) rfl ?_;refine mvQ ?_;refine s_end (hK _ ?_); clear hK K;refine AWP_block (a_loop (α := Nat × (Nat → Nat)) (fun p => mk 35 [(1, .ptr 1 0), (4, .val (.one (.own 14 1 0 g.nodes.length))), (5, ownN 200 1 (foL g p.1).length), (16, V1 (dLs g.links)), (17, dI g.links.length), (18, dI p.1)] [(1, some (.box g.cs)), (14, some (.arr 1 (nmD g.nodes.length p.2))), (200, arrN 1 ((foL g p.1).map cN) (foL g p.1).length)] []) (fun p => p.1 ≤ g.links.length ∧ RTs g.nodes.length p.2 (rhoL (g.links.take p.1))) (fun p => g.links.length - p.1) (0, id) ?_ ⟨Nat.zero_le _, RTs_id _⟩ ?_)
  · exact Wk.mk' ⟨rfl, rfl, rfl, rfl, rfl, rfl, trivial⟩ ⟨rfl, rfl, rfl, trivial⟩
  rintro ⟨i, s⟩ ⟨hi, hs⟩
  simp only at hi hs ⊢
  refine AWP_reg_seq tok fun K hK => ?_;refine biQ ?_;refine s_end (hK _ ?_); clear hK K;refine AWP_seq ?_;refine a_cond rfl (fun hg => ?_) (fun hg => ?_)
  · have hg : i < g.links.length := by simp at hg; omega
    obtain ⟨l, el⟩ : ∃ l, l = g.links[i] := ⟨_, rfl⟩
    have hml : l ∈ g.links := el ▸ List.getElem_mem hg
    have hget : g.links[i]? = some l := by rw [List.getElem?_eq_getElem hg, el]
    obtain ⟨x, y, hxn, hyn, hx, hy, _⟩ := (gLV gv l hml).lt
    have n1 := foL_succ g i
    have eb : foB g i = decide (rhoL (g.links.take i) l.f.toNat ≠ rhoL (g.links.take i) l.t.toNat) := by unfold foB; rw [hget]
    have er : rhoL (g.links.take (i + 1)) = jR (rhoL (g.links.take i)) l.f.toNat l.t.toNat := by rw [List.take_succ_eq_append_getElem hg, ← el, rhoL_snoc]
    have zl' : (foL g i).length ≤ 48 := Nat.le_trans (foL_len g i) (by omega)
    obtain ⟨lf, lt, lx, ly, lw⟩ := l
    simp only at hx hy
    subst hx hy
    simp only [Int.toNat_natCast] at eb er;generalize rhoL (g.links.take i) = ρ at hs eb er
    have hrx := hs x hxn
    have hry := hs y hyn
    have hs2 := RTs_join (s' := fun j => if j = ρ x then ρ y else s j) hs hxn hyn (fun _ => rfl)
    rw [← er] at hs2;refine AWP_skip ?_;show AWP _ _ _ _ _ _;refine AWP_seq ?_;refine AWP_block ?_;generalize foL g i = L at n1 zl' ⊢
    have z1 : (L.map cN).length = L.length := List.length_map _
    obtain ⟨es, hes⟩ : ∃ es, es = L.map cN := ⟨_, rfl⟩
    obtain ⟨b, hb⟩ : ∃ b, b = L.length := ⟨_, rfl⟩
    rw [← hes] at z1 ⊢;rw [← hb] at z1 zl' ⊢
    rcases b with _ | b
    · refine AWP_reg_seq tok fun K hK => ?_;refine mvQ ?_;refine s_indexAddr rfl (x_m LK.dc rfl rfl rfl rfl hg rfl) rfl ?_;refine ldQ ?_;refine s_alloc rfl rfl rfl rfl rfl rfl ?_;refine asQ ?_;refine s_store rfl rfl rfl rfl rfl ?_;refine s_end (hK _ ?_); clear hK K;rw [← el];refine AWP_regW_seq fun K hK => ?_;refine w_step tok rfl ?_;refine mvQ ?_;refine s_end ?_;refine w_step tok rfl ?_;refine faQ ?_;refine s_end ?_;refine w_step tok rfl ?_;refine ldQ ?_;refine s_end ?_;refine w_step tok rfl ?_;refine faQ ?_;refine s_end ?_;refine w_step tok rfl ?_;refine ldQ ?_;refine s_end ?_;refine w_join (m := g.nodes.length) (s' := fun j => if j = ρ x then ρ y else s j) (join_m hrx hry) rfl rfl rfl rfl rfl hrx.lt (fun _ _ => rfl) ?_;refine w_end rfl (hK _ ?_); clear hK K;refine a_cond rfl (fun hd => ?_) (fun hd => ?_)
      · rw [← eb] at hd;rw [if_pos hd] at n1
        have n2 : es ++ [cN i] = (foL g (i + 1)).map cN := by rw [n1, hes, List.map_append]; rfl
        have k2 : (foL g (i + 1)).length = (0) + 1 := by rw [n1, List.length_append, ← hb]; rfl
        refine AWP_reg tok fun K hK => ?_;refine mvQ ?_;refine mvQ ?_;refine s_buildSlice rfl rfl rfl rfl ?_;refine s_append rfl (ap_nil rfl rfl rfl rfl rfl (by decide) (Nat.le_of_ble_eq_true rfl) rfl (by simp) rfl (by simp) (by simp)) rfl rfl rfl ?_;refine asQ ?_;refine s_end (hK _ ?_); clear hK K;show AWP _ _ _ _ _ _;refine AWP_reg tok fun K hK => ?_;refine s_bin rfl (e_add (c := ((i + 1 : Nat) : Int)) (by omega) (by omega)) rfl ?_;refine mvQ ?_;refine s_end (hK _ ?_); clear hK K;refine ⟨(i + 1, fun j => if j = ρ x then ρ y else s j), (by show g.links.length - (i + 1) < g.links.length - i; omega), ⟨hg, hs2⟩, ?_⟩
        simp only
        rw [k2];refine Wk.rn [1, 4, 5, 16, 17, 18] [1, 14, 32] 32 200 rfl rfl rfl ⟨rfl, rfl, ?_, rfl, rfl, rfl, trivial⟩ ⟨rfl, rfl, ?_, trivial⟩
        · first
            | rfl
            | (show SV.val (.one (.own 200 1 0 _)) = _
               rw [List.length_append, z1]; rfl)
        · first
            | (rw [← n2, List.length_eq_zero_iff.1 z1]; rfl)
            | (rw [← n2]; rfl)
      · rw [← eb] at hd;rw [if_neg (by rw [hd]; simp)] at n1;refine AWP_skip ?_;show AWP _ _ _ _ _ _;refine AWP_reg tok fun K hK => ?_;refine s_bin rfl (e_add (c := ((i + 1 : Nat) : Int)) (by omega) (by omega)) rfl ?_;refine mvQ ?_;refine s_end (hK _ ?_); clear hK K;refine ⟨(i + 1, fun j => if j = ρ x then ρ y else s j), (by show g.links.length - (i + 1) < g.links.length - i; omega), ⟨hg, hs2⟩, ?_⟩
        simp only
        rw [n1, ← hes, ← hb];exact Wk.mk' ⟨rfl, rfl, rfl, rfl, rfl, rfl, trivial⟩ ⟨rfl, rfl, rfl, trivial⟩
    · refine AWP_reg_seq tok fun K hK => ?_;refine mvQ ?_;refine s_indexAddr rfl (x_m LK.dc rfl rfl rfl rfl hg rfl) rfl ?_;refine ldQ ?_;refine s_alloc rfl rfl rfl rfl rfl rfl ?_;refine asQ ?_;refine s_store rfl rfl rfl rfl rfl ?_;refine s_end (hK _ ?_); clear hK K;rw [← el];refine AWP_regW_seq fun K hK => ?_;refine w_step tok rfl ?_;refine mvQ ?_;refine s_end ?_;refine w_step tok rfl ?_;refine faQ ?_;refine s_end ?_;refine w_step tok rfl ?_;refine ldQ ?_;refine s_end ?_;refine w_step tok rfl ?_;refine faQ ?_;refine s_end ?_;refine w_step tok rfl ?_;refine ldQ ?_;refine s_end ?_;refine w_join (m := g.nodes.length) (s' := fun j => if j = ρ x then ρ y else s j) (join_m hrx hry) rfl rfl rfl rfl rfl hrx.lt (fun _ _ => rfl) ?_;refine w_end rfl (hK _ ?_); clear hK K;refine a_cond rfl (fun hd => ?_) (fun hd => ?_)
      · rw [← eb] at hd;rw [if_pos hd] at n1
        have n2 : es ++ [cN i] = (foL g (i + 1)).map cN := by rw [n1, hes, List.map_append]; rfl
        have k2 : (foL g (i + 1)).length = (b + 1) + 1 := by rw [n1, List.length_append, ← hb]; rfl
        refine AWP_reg tok fun K hK => ?_;refine mvQ ?_;refine mvQ ?_;refine s_buildSlice rfl rfl rfl rfl ?_;refine s_append rfl (ap_o rfl rfl rfl rfl rfl rfl (by decide) (Nat.le_of_ble_eq_true rfl) rfl (by simp) rfl rfl z1.symm (by simp <;> omega)) rfl rfl rfl ?_;refine asQ ?_;refine s_end (hK _ ?_); clear hK K;show AWP _ _ _ _ _ _;refine AWP_reg tok fun K hK => ?_;refine s_bin rfl (e_add (c := ((i + 1 : Nat) : Int)) (by omega) (by omega)) rfl ?_;refine mvQ ?_;refine s_end (hK _ ?_); clear hK K;refine ⟨(i + 1, fun j => if j = ρ x then ρ y else s j), (by show g.links.length - (i + 1) < g.links.length - i; omega), ⟨hg, hs2⟩, ?_⟩
        simp only
        rw [k2];refine Wk.rn [1, 4, 5, 16, 17, 18] [1, 14, 32] 32 200 rfl rfl rfl ⟨rfl, rfl, ?_, rfl, rfl, rfl, trivial⟩ ⟨rfl, rfl, ?_, trivial⟩
        · first
            | rfl
            | (show SV.val (.one (.own 200 1 0 _)) = _
               rw [List.length_append, z1]; rfl)
        · first
            | (rw [← n2, List.length_eq_zero_iff.1 z1]; rfl)
            | (rw [← n2]; rfl)
      · rw [← eb] at hd;rw [if_neg (by rw [hd]; simp)] at n1;refine AWP_skip ?_;show AWP _ _ _ _ _ _;refine AWP_reg tok fun K hK => ?_;refine s_bin rfl (e_add (c := ((i + 1 : Nat) : Int)) (by omega) (by omega)) rfl ?_;refine mvQ ?_;refine s_end (hK _ ?_); clear hK K;refine ⟨(i + 1, fun j => if j = ρ x then ρ y else s j), (by show g.links.length - (i + 1) < g.links.length - i; omega), ⟨hg, hs2⟩, ?_⟩
        simp only
        rw [n1, ← hes, ← hb];exact Wk.mk' ⟨rfl, rfl, rfl, rfl, rfl, rfl, trivial⟩ ⟨rfl, rfl, rfl, trivial⟩
  have hg : i = g.links.length := by simp at hg; omega
  subst hg
  refine AWP_exit ?_;show AWP _ _ _ _ _ _;generalize foL g g.links.length = L
  rcases L with _ | ⟨l, L⟩
  · refine AWP_reg_seq tok fun K hK => ?_;refine mvQ ?_;refine asQ ?_;refine asQ ?_;refine s_end (hK _ ?_); clear hK K;refine AWP_ret ?_
    repeat (with_reducible refine tq_ret ?_)
    exact post_ret (fin_mk (by rfl) (by rfl) (by rfl))
  · refine a_fz [5] [200] 200 [(5, V1 (dNs (l :: L)))] [] rfl ?_ trivial ?_
    · exact ⟨frz_own rfl (by simp), trivial⟩
    refine AWP_reg_seq tok fun K hK => ?_;refine mvQ ?_;refine asQ ?_;refine asQ ?_;refine s_end (hK _ ?_); clear hK K;refine AWP_ret ?_
    repeat (with_reducible refine tq_ret ?_)
    exact post_ret (fin_mk (by rfl) (by rfl) (by rfl))
end Go.Proofs.YtgopibpkgmafiaaGreat
