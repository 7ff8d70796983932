/- Part of a proof that a Go function answers true for every input. No condition. -/
import Derived.Test.YtnoildlijhapaaaGreatDoorB4
set_option linter.unusedVariables false
set_option linter.unusedSimpArgs false
set_option linter.unusedSectionVars false
/- law30: Wider. No condition. -/
namespace Go.Proofs.YtnoildlijhapaaaGreatDoor
attribute [local irreducible] ay
open Go.RowKit

theorem yC {T : Tab} {S : b9} (a b : Nat) {ts : List TypeId} : aN T ⟨[], S, []⟩ (.builtin .min) [jv a, jv b] ts = .set (jv (min a b)) := by
 show Eff.set (V1 (.lit (.int .u16 (if (b : Int) < (a : Int) then (b : Int) else (a : Int))))) = _
 congr 5
 split <;> omega
theorem yD {T : Tab} {S : b9} (a b : Nat) {ts : List TypeId} : aN T ⟨[], S, []⟩ (.builtin .max) [jv a, jv b] ts = .set (jv (max a b)) := by
 show Eff.set (V1 (.lit (.int .u16 (if (b : Int) > (a : Int) then (b : Int) else (a : Int))))) = _
 congr 5
 split <;> omega
theorem Dk {g : GR} {s : List SP} {ls : List LK} {t : Int} : (dm g s ls t).2 = (cq g s ls t).2 := by
 unfold dm
 split
 ·rename_i h; exact h.symm
 ·rfl
theorem vE {g : GR} {s : List SP} {ls : List LK} {a b : Int} (h : a <= b) (ta : c8 a = true) (tb : c8 b = true) : (cq g s ls b).2 = (cq g s ls a).2 /\ (∀ z ∈ (cq g s ls a).1, z ∈ (cq g s ls b).1) /\ (dm g s ls a).1.length <= (dm g s ls b).1.length := by
 have hp : ∀ t, c8 t = true -> cq g s ls t = if 16 < ls.length then ([], 6) else if dE g s = false then ([], 1) else if ls.all (gr g) = true then (prP (nrP (bF g s ls) t) ls.length ls.length, 0) else ([], 1) := fun t ht => by
  unfold cq; rw [if_neg (by rw [ht]; simp)]
 unfold dm
 rw [hp a ta, hp b tb]
 split
 ·exact ⟨rfl, fun z hz => hz, Nat.le_refl _⟩
 ·split
  ·exact ⟨rfl, fun z hz => hz, Nat.le_refl _⟩
  ·split
   ·exact ⟨rfl, fun z hz => vX h tb hz, vO h tb⟩
   ·exact ⟨rfl, fun z hz => hz, Nat.le_refl _⟩
set_option maxHeartbeats 4000000 in
theorem yJ (g : GR) (s : List SP) (ls : List LK) (x y : Nat) (hg : ∀ r ∈ g.nodes, r.W) (hs : ∀ p ∈ s, p.W) (hl : s.length <= 9223372036854775807) (hll : ls.length <= 9223372036854775807) (hx : x < 65536) (hy : y < 65536) : Con Tryz.prog 9 [AG g.cs, AG [.d (dSs s), .d (dLs ls)], AG [.d (.lit (.int .u16 (x : Int))), .d (.lit (.int .u16 (y : Int)))]] { v := dB true } := by
 refine Z2 Tryz.func9 ?_
 intro w0 X
 rw [aq _ _ [(0, AG g.cs), (1, AG [.d (dSs s), .d (dLs ls)]), (2, AG [.d (.lit (.int .u16 (x : Int))), .d (.lit (.int .u16 (y : Int)))])] rfl rfl];refine gQ fun _ Z9=>?_;refine aH rfl rfl rfl rfl rfl rfl ?_;refine aH rfl rfl rfl rfl rfl rfl ?_;refine aH rfl rfl rfl rfl rfl rfl ?_;refine Z7 ?_;refine eQ Z9 ?_;clear Z9;refine ae ?_;refine bm (α := Bool) (fun c => mk 136 [(3, .ptr 3 0), (4, .ptr 4 0), (5, .ptr 5 0), (38, dB c)] [(3, some (.box g.cs)), (4, some (.box [.d (dSs s), .d (dLs ls)])), (5, some (.box [.d (.lit (.int .u16 (x : Int))), .d (.lit (.int .u16 (y : Int)))]))] []) (fun c => c = !(oL g && (tc s && decide (ls.length <= 9)))) ?_ ?_
 ·refine cE fun _ Z9=>?_;refine ab tok rfl ?_;refine ac rfl rfl (gf) rfl rfl rfl rfl ?_;refine ag ?_;refine ab tok rfl ?_;refine b7 rfl rfl rfl ?_;refine ag ?_;refine ab tok rfl ?_;refine Z8 ?_;refine ag ?_;refine bc (fun h0 => ?_) (fun h0 => ?_)
  ·refine aj rfl rfl ?_;refine aj rfl rfl ?_;refine aj rfl rfl ?_;refine ab tok rfl ?_;refine Z3 ?_;refine ag ?_;refine ab tok rfl ?_;refine Z8 ?_;refine ag ?_;refine aj rfl rfl ?_;refine aj rfl rfl ?_;refine aj rfl rfl ?_;refine aj rfl rfl ?_;refine ab tok rfl ?_;refine Z3 ?_;refine ag ?_;refine ab tok rfl ?_;refine Z8 ?_;refine ag ?_;refine aj rfl rfl ?_;refine aj rfl rfl ?_;refine aj rfl rfl ?_;refine aj rfl rfl ?_;refine ab tok rfl ?_;refine Z3 ?_;refine ag ?_;refine a7 rfl (Z9 _ ?_); clear Z9
   first|(exact absurd h0 (by decide))|exact ⟨_, (by simp only [decide_eq_true_eq, decide_eq_false_iff_not, Bool.not_eq_true', Bool.not_eq_false'] at h0; rw [Bool.eq_iff_iff]; simp only [h0, decide_eq_true_eq, Bool.not_eq_true', Bool.and_eq_false_iff, decide_eq_false_iff_not, reduceCtorEq, false_or, true_or, or_true, false_iff, true_iff, iff_true] <;> omega), Wk.mk' ⟨rfl, rfl, rfl, rfl, trivial⟩ ⟨rfl, rfl, rfl, trivial⟩⟩
  ·refine ab tok rfl ?_;refine Z6 ?_;refine ag ?_;refine ab tok rfl ?_;refine ac rfl rfl (u6 g) rfl rfl rfl rfl ?_;refine ag ?_;refine ab tok rfl ?_;refine b7 rfl rfl rfl ?_;refine ag ?_;refine ab tok rfl ?_;refine Z3 ?_;refine ag ?_;refine ab tok rfl ?_;refine Z8 ?_;refine ag ?_;refine bc (fun h1 => ?_) (fun h1 => ?_)
   ·refine aj rfl rfl ?_;refine aj rfl rfl ?_;refine aj rfl rfl ?_;refine aj rfl rfl ?_;refine ab tok rfl ?_;refine Z3 ?_;refine ag ?_;refine ab tok rfl ?_;refine Z8 ?_;refine ag ?_;refine aj rfl rfl ?_;refine aj rfl rfl ?_;refine aj rfl rfl ?_;refine aj rfl rfl ?_;refine ab tok rfl ?_;refine Z3 ?_;refine ag ?_;refine a7 rfl (Z9 _ ?_); clear Z9
    first|(exact absurd h0 (by decide))|exact ⟨_, (by simp only [decide_eq_true_eq, decide_eq_false_iff_not, Bool.not_eq_true', Bool.not_eq_false'] at h0 h1; rw [Bool.eq_iff_iff]; simp only [h0, h1, decide_eq_true_eq, Bool.not_eq_true', Bool.and_eq_false_iff, decide_eq_false_iff_not, reduceCtorEq, false_or, true_or, or_true, false_iff, true_iff, iff_true] <;> omega), Wk.mk' ⟨rfl, rfl, rfl, rfl, trivial⟩ ⟨rfl, rfl, rfl, trivial⟩⟩
   ·refine ab tok rfl ?_;refine Z4 ?_;refine ag ?_;refine ab tok rfl ?_;refine Z6 ?_;refine ag ?_;refine ab tok rfl ?_;refine ac rfl rfl (xr s hl) rfl rfl rfl rfl ?_;refine ag ?_;refine ab tok rfl ?_;refine b7 rfl rfl rfl ?_;refine ag ?_;refine ab tok rfl ?_;refine Z3 ?_;refine ag ?_;refine ab tok rfl ?_;refine Z8 ?_;refine ag ?_;refine bc (fun h2 => ?_) (fun h2 => ?_)
    ·refine aj rfl rfl ?_;refine aj rfl rfl ?_;refine aj rfl rfl ?_;refine aj rfl rfl ?_;refine ab tok rfl ?_;refine Z3 ?_;refine ag ?_;refine a7 rfl (Z9 _ ?_); clear Z9
     first|(exact absurd h0 (by decide))|exact ⟨_, (by simp only [decide_eq_true_eq, decide_eq_false_iff_not, Bool.not_eq_true', Bool.not_eq_false'] at h0 h1 h2; rw [Bool.eq_iff_iff]; simp only [h0, h1, h2, decide_eq_true_eq, Bool.not_eq_true', Bool.and_eq_false_iff, decide_eq_false_iff_not, reduceCtorEq, false_or, true_or, or_true, false_iff, true_iff, iff_true] <;> omega), Wk.mk' ⟨rfl, rfl, rfl, rfl, trivial⟩ ⟨rfl, rfl, rfl, trivial⟩⟩
    ·refine ab tok rfl ?_;refine Z4 ?_;refine ag ?_;refine ab tok rfl ?_;refine Z6 ?_;refine ag ?_;refine ab tok rfl ?_;refine ax rfl (aQ LK.dc rfl rfl) rfl ?_;refine ag ?_;refine ab tok rfl ?_;refine ah rfl (iw _ 9) rfl ?_;refine ag ?_;refine ab tok rfl ?_;refine Z3 ?_;refine ag ?_;refine a7 rfl (Z9 _ ?_); clear Z9
     first|(exact absurd h0 (by decide))|exact ⟨_, (by simp only [decide_eq_true_eq, decide_eq_false_iff_not, Bool.not_eq_true', Bool.not_eq_false'] at h0 h1 h2; rw [Bool.eq_iff_iff]; simp only [h0, h1, h2, decide_eq_true_eq, Bool.not_eq_true', Bool.and_eq_false_iff, decide_eq_false_iff_not, reduceCtorEq, false_or, true_or, or_true, false_iff, true_iff, iff_true] <;> omega), Wk.mk' ⟨rfl, rfl, rfl, rfl, trivial⟩ ⟨rfl, rfl, rfl, trivial⟩⟩
 rintro c rfl
 refine al rfl (fun hc => ?_) (fun hc => ?_)
 ·refine gQ fun _ Z9=>?_;refine ac rfl rfl (gf) rfl rfl rfl rfl ?_;refine Z7 ?_;refine eQ Z9 ?_;clear Z9;exact ak aG
 rw [Bool.not_eq_false', Bool.and_eq_true, Bool.and_eq_true] at hc
 obtain ⟨hf, hsh, hn⟩ := hc
 have hn := of_decide_eq_true hn
 obtain ⟨ok2, hgl, hgn, _⟩ := sE hg hf
 obtain ⟨os2, _⟩ := uC hs hsh
 have ok : ∀ r ∈ g.nodes, r.OK 4096 := fun r hr => (ok2 r hr).mono rfl
 have os : ∀ p ∈ s, p.OK 4096 := fun p hp => (os2 p hp).mono rfl
 refine ai ?_;show AWP _ _ _ _ _ _;refine aD tok mixed (A := [[], [], [], [], [0, 2], [0, 1, 2, 3], [], [], [], [], [6, 8], [6, 7, 8, 9], [], []]) (an := [{}, {}, {}, {}, {}, {}, {}, {}, {}, {}, {}, {}, {}, {}]) rfl (by kernel_rfl) rfl fun _ Z9=>?_;refine aa rfl rfl rfl ?_;refine Z6 ?_;refine aa rfl rfl rfl ?_;refine Z6 ?_;refine ax rfl (yC x y) rfl ?_;refine aM rfl (aO (m := ((min x y : Nat) : Int)) rfl rfl rfl (by exact IntWalk.i64_in _ (by omega))) rfl ?_;refine aa rfl rfl rfl ?_;refine Z6 ?_;refine aa rfl rfl rfl ?_;refine Z6 ?_;refine ax rfl (yD x y) rfl ?_;refine aM rfl (aO (m := ((max x y : Nat) : Int)) rfl rfl rfl (by exact IntWalk.i64_in _ (by omega))) rfl ?_;refine Z7 ?_;refine Z7 ?_;refine eQ Z9 ?_;clear Z9
 obtain ⟨a, ha⟩ : ∃ a : Int, a = ((min x y : Nat) : Int) := ⟨_, rfl⟩
 obtain ⟨b, hb⟩ : ∃ b : Int, b = ((max x y : Nat) : Int) := ⟨_, rfl⟩
 rw [<- ha, <- hb]
 have ta : c8 a = true := decide_eq_true (by omega)
 have tb : c8 b = true := decide_eq_true (by omega)
 obtain ⟨w1, w2, w3⟩ := vE (g := g) (s := s) (ls := ls) (show a <= b by omega) ta tb
 have cSa := pg g s ls a ok os
 have cSb := pg g s ls b ok os
 have cPa := ue g s ls a ok os
 have cPb := ue g s ls b ok os
 rw [Dk] at cSa cSb;rw [w1] at cSb cPb
 have l1 := uM (g := g) (s := s) (ls := ls) (t := a)
 have l2 := uM (g := g) (s := s) (ls := ls) (t := b)
 clear w1;generalize (cq g s ls a).2 = e at *;generalize (cq g s ls a).1 = p at *;generalize (cq g s ls b).1 = q at *;generalize (dm g s ls a).1 = k at *;generalize (dm g s ls b).1 = l at *;refine gQ fun _ Z9=>?_;refine Z6 ?_;refine Z4 ?_;refine Z6 ?_;refine Z4 ?_;refine Z6 ?_;refine Z8 ?_;refine ac rfl rfl (cSa) rfl rfl rfl rfl ?_;refine Z8 ?_;refine am rfl rfl rfl ?_;refine am rfl rfl rfl ?_;refine Z7 ?_;refine Z7 ?_;refine eQ Z9 ?_;clear Z9;refine gQ fun _ Z9=>?_;refine Z6 ?_;refine Z4 ?_;refine Z6 ?_;refine Z4 ?_;refine Z6 ?_;refine Z8 ?_;refine ac rfl rfl (cSb) rfl rfl rfl rfl ?_;refine Z8 ?_;refine am rfl rfl rfl ?_;refine am rfl rfl rfl ?_;refine Z7 ?_;refine Z7 ?_;refine eQ Z9 ?_;clear Z9;refine gQ fun _ Z9=>?_;refine Z6 ?_;refine Z4 ?_;refine Z6 ?_;refine Z4 ?_;refine Z6 ?_;refine Z8 ?_;refine ac rfl rfl (cPa) rfl rfl rfl rfl ?_;refine Z8 ?_;refine am rfl rfl rfl ?_;refine am rfl rfl rfl ?_;refine Z7 ?_;refine Z7 ?_;refine eQ Z9 ?_;clear Z9;refine gQ fun _ Z9=>?_;refine Z6 ?_;refine Z4 ?_;refine Z6 ?_;refine Z4 ?_;refine Z6 ?_;refine Z8 ?_;refine ac rfl rfl (cPb) rfl rfl rfl rfl ?_;refine Z8 ?_;refine am rfl rfl rfl ?_;refine am rfl rfl rfl ?_;refine Z7 ?_;refine Z7 ?_;refine eQ Z9 ?_;clear Z9;refine ae ?_;refine gQ fun _ Z9=>?_;refine Z8 ?_;refine Z8 ?_;refine ah rfl (eV (c := false) (by simp)) rfl ?_;refine Z8 ?_;refine Z8 ?_;refine Z8 ?_;refine ah rfl (eV (c := false) (by simp)) rfl ?_;refine Z3 ?_;refine Z8 ?_;refine Z8 ?_;refine Z8 ?_;refine ah rfl (eV (c := false) (by simp)) rfl ?_;refine Z3 ?_;refine eQ Z9 ?_;clear Z9;refine al rfl (fun h => by cases h) (fun _ => ?_);refine ai ?_;show AWP _ _ _ _ _ _;refine ae ?_;refine gQ fun _ Z9=>?_;refine Z7 ?_;refine eQ Z9 ?_;clear Z9;refine ap (aK (α := Nat) (fun i => mk 136 [(9, V1 (dNs k)), (11, V1 (dNs l)), (13, V1 (.sl (p.map prD))), (15, V1 (.sl (q.map prD))), (17, dI i)] [] []) (fun i => i <= p.length) (fun i => p.length - i) 0 ?_ (Nat.zero_le _) ?_)
 ·exact Wk.mk' ⟨rfl, rfl, rfl, rfl, rfl, trivial⟩ trivial
 intro i hi
 refine ae ?_;refine gQ fun _ Z9=>?_;refine Z8 ?_;refine Z8 ?_;refine ax rfl (aQ prD rfl rfl) rfl ?_;refine Z5 ?_;refine eQ Z9 ?_;clear Z9;refine al rfl (fun hg => ?_) (fun hg => ?_)
 ·have hg : i < p.length := by simp at hg; omega
  have hin := w2 _ (List.getElem_mem hg)
  refine ai ?_;show AWP _ _ _ _ _ _;refine ae ?_;refine ap ?_;refine gQ fun _ Z9=>?_;refine Z7 ?_;refine eQ Z9 ?_;clear Z9;refine ae ?_;refine gQ fun _ Z9=>?_;refine Z7 ?_;refine eQ Z9 ?_;clear Z9;refine ap (aK (α := Nat) (fun j => mk 136 [(9, V1 (dNs k)), (11, V1 (dNs l)), (13, V1 (.sl (p.map prD))), (15, V1 (.sl (q.map prD))), (17, dI i), (18, dB ((q.take j).any fun z => decide (p[i] = z))), (19, dI j)] [] []) (fun j => j <= q.length) (fun j => q.length - j) 0 ?_ (Nat.zero_le _) ?_)
  ·exact Wk.mk' ⟨rfl, rfl, rfl, rfl, rfl, rfl, rfl, trivial⟩ trivial
  intro j hj
  refine ae ?_;refine gQ fun _ Z9=>?_;refine Z8 ?_;refine Z8 ?_;refine ax rfl (aQ prD rfl rfl) rfl ?_;refine Z5 ?_;refine eQ Z9 ?_;clear Z9;refine al rfl (fun hq => ?_) (fun hq => ?_)
  ·have hq : j < q.length := by simp at hq; omega
   have es : (q.take (j + 1)).any (fun z => decide (p[i] = z)) = ((q.take j).any (fun z => decide (p[i] = z)) || decide (p[i] = q[j])) := by
    rw [List.take_succ_eq_append_getElem hq, List.any_append]; simp
   generalize (q.take j).any (fun z => decide (p[i] = z)) = c at es ⊢;refine ai ?_;show AWP _ _ _ _ _ _;refine ae ?_;refine ap ?_
   cases c with
   | true =>
    rw [Bool.true_or] at es;refine cU tok mixed (A := [[], [], [0], [0], [0], [0, 2, 3], [0], [0], [0], [0, 6, 7], [0, 2, 3, 4, 6, 7, 8], [0, 2, 3, 4, 5, 6, 7, 8, 9], []]) (an := [{}, {}, {}, {}, {}, {}, {}, {}, {}, {}, {}, {}, {}]) rfl (by kernel_rfl) rfl fun _ Z9=>?_;refine Z8 ?_;refine Z8 ?_;refine au rfl ?_;refine au rfl ?_;refine au rfl ?_;refine au rfl ?_;refine au rfl ?_;refine au rfl ?_;refine au rfl ?_;refine au rfl ?_;refine au rfl ?_;refine Z3 ?_;refine Z7 ?_;refine eQ Z9 ?_;clear Z9;show AWP _ _ _ _ _ _;refine gR fun _ Z9=>?_;refine Z8 ?_;refine ah rfl (aI (c := ((j + 1 : Nat) : Int)) (by omega) (by omega)) rfl ?_;refine Z7 ?_;refine eQ Z9 ?_;clear Z9;exact ⟨j + 1, by omega, hq, Wk.mk' ⟨rfl, rfl, rfl, rfl, rfl, (by rw [es]; rfl), rfl, trivial⟩ trivial⟩
   | false =>
    rw [Bool.false_or] at es;refine cU De mixed (A := [[], [], [0], [0], [0], [0, 2, 3], [0], [0], [0], [0, 6, 7], [0, 2, 3, 4, 6, 7, 8], [0, 2, 3, 4, 5, 6, 7, 8, 9], []]) (an := [{}, {}, {}, {}, {}, {}, {}, {}, {}, {}, {}, {}, {}]) rfl (by kernel_rfl) rfl fun _ Z9=>?_;refine Z8 ?_;refine Z8 ?_;refine Z8 ?_;refine Z8 ?_;refine aa rfl (x_m prD rfl rfl rfl rfl hg rfl) rfl ?_;refine Z6 ?_;refine Z8 ?_;refine Z8 ?_;refine aa rfl (x_m prD rfl rfl rfl rfl hq rfl) rfl ?_;refine Z6 ?_;refine ah rfl (CV (a := p[i]) (b := q[j]) rfl) rfl ?_;refine Z3 ?_;refine Z7 ?_;refine eQ Z9 ?_;clear Z9;show AWP _ _ _ _ _ _;refine gR fun _ Z9=>?_;refine Z8 ?_;refine ah rfl (aI (c := ((j + 1 : Nat) : Int)) (by omega) (by omega)) rfl ?_;refine Z7 ?_;refine eQ Z9 ?_;clear Z9;exact ⟨j + 1, by omega, hq, Wk.mk' ⟨rfl, rfl, rfl, rfl, rfl, (by rw [es]; rfl), rfl, trivial⟩ trivial⟩
  have hq : j = q.length := by simp at hq; omega
  subst hq
  have et : (q.take q.length).any (fun z => decide (p[i] = z)) = true := by
   rw [List.take_length, List.any_eq_true];exact ⟨_, hin, decide_eq_true rfl⟩
  rw [et];refine aA ?_;show AWP _ _ _ _ _ _;refine gQ fun _ Z9=>?_;refine Z8 ?_;refine b7 rfl rfl rfl ?_;refine eQ Z9 ?_;clear Z9;refine al rfl (fun h => by cases h) (fun _ => ?_);refine ai ?_;show AWP _ _ _ _ _ _;refine gR fun _ Z9=>?_;refine Z8 ?_;refine ah rfl (aI (c := ((i + 1 : Nat) : Int)) (by omega) (by omega)) rfl ?_;refine Z7 ?_;refine eQ Z9 ?_;clear Z9;exact ⟨i + 1, by omega, hg, Wk.mk' ⟨rfl, rfl, rfl, rfl, rfl, trivial⟩ trivial⟩
 ·refine aA ?_;show AWP _ _ _ _ _ _;refine gQ fun _ Z9=>?_;refine Z8 ?_;refine ax rfl (aQ cN rfl rfl) rfl ?_;refine Z8 ?_;refine ax rfl (aQ cN rfl rfl) rfl ?_;refine ah rfl (qc (c := true) (decide_eq_true (Int.ofNat_le.2 w3))) rfl ?_;refine Z7 ?_;refine eQ Z9 ?_;clear Z9;exact ak aG
end Go.Proofs.YtnoildlijhapaaaGreatDoor

/- law30: Truth. No condition. -/
namespace Go.Proofs.YtnoildlijhapaaaGreatDoor
attribute [local irreducible] ay
open Go.RowKit

/-! ### Plainly -/
theorem rU {q : Nat -> Nat -> Bool} {m : Nat} (h : ∀ a b, a < m -> b < m -> q a b = true) : (List.range m).Pairwise fun u v => q u v = true :=
 List.pairwise_lt_range.imp_of_mem fun {a b} ha hb _ => h a b (List.mem_range.1 ha) (List.mem_range.1 hb)
theorem xu {g : GR} {s : List SP} {ls : List LK} {t : Int} (ht : c8 t = true) (h16 : ls.length <= 16) (hc : dE g s = true) (hf : ls.all (gr g) = true) : dm g s ls t = (mxC (i8 (prP (nrP (bF g s ls) t) ls.length ls.length)) ls.length, 0) := by
 unfold dm
 rw [uN ht (by omega) hc hf, if_pos rfl]
theorem yu {g : GR} {s : List SP} {ls : List LK} (hO : ∀ l ∈ ls, iJ g s l = szW 0 0) (i : Nat) (h : i < ls.length) : (bF g s ls).getD i sp0 = szW 0 0 := by
 rw [nm h, hO _ (List.getElem_mem h)]
theorem xt {g : GR} {s : List SP} {ls : List LK} {t : Int} (ht : c8 t = true) (h16 : ls.length <= 16) (hc : dE g s = true) (hf : ls.all (gr g) = true) (hO : ∀ l ∈ ls, iJ g s l = szW 0 0) : dm g s ls t = (List.range ls.length, 0) := by
 rw [xu ht h16 hc hf, AO ((iz (List.Sublist.refl _)).2 (rU fun a b ha hb => by unfold nrP; rw [yu hO a ha, yu hO b hb]; exact yB ht))]
theorem Ar {g : GR} {s : List SP} {ls : List LK} {bd : LK} {t : Int} (ht : c8 t = true) (h15 : ls.length <= 15) (hc : dE g s = true) (hf : ls.all (gr g) = true) (hb : gr g bd = true) (hO : ∀ l ∈ ls, iJ g s l = szW 0 0) (hn : gG (szW 0 0) (iJ g s bd) t = false) :
  (dm g s (ls ++ [bd]) t).2 = 0 /\ (2 <= ls.length -> (dm g s (ls ++ [bd]) t).1 = List.range ls.length) := by
 have hl : (ls ++ [bd]).length = ls.length + 1 := by simp
 rw [xu ht (by omega) hc (by rw [List.all_append, hf]; simp [hb])];refine ⟨rfl, fun h2 => ?_⟩;rw [hl]
 have gu : ∀ i, i < ls.length -> (bF g s (ls ++ [bd])).getD i sp0 = szW 0 0 := fun i h => by
  rw [nm (by omega), List.getElem_append_left h, hO _ (List.getElem_mem h)]
 have gm : (bF g s (ls ++ [bd])).getD ls.length sp0 = iJ g s bd := by
  rw [nm (by omega), List.getElem_append_right (Nat.le_refl _)]
  simp
 refine AN h2 ?_ fun u hu => ?_
 ·refine (iz (List.range_sublist.2 (by omega))).2 (rU fun a b ha hb => ?_)
  unfold nrP; rw [gu a ha, gu b hb]; exact yB ht
 ·rw [n9 hu (by omega)]
  unfold nrP; rw [gu u hu, gm]; exact hn
def prB (n : Nat) (p : PT) : Nat × Nat := ((p.x % (n : Int)).toNat, if (p.x % (n : Int)).toNat = (p.y % (n : Int)).toNat then ((p.x % (n : Int)).toNat + 1) % n else (p.y % (n : Int)).toNat)
theorem yk {n : Nat} (h : 2 <= n) (p : PT) : (prB n p).1 < n /\ (prB n p).2 < n /\ (prB n p).1 ≠ (prB n p).2 := by
 have a0 := Int.emod_nonneg p.x (b := (n : Int)) (by omega)
 have a1 := Int.emod_lt_of_pos p.x (b := (n : Int)) (by omega)
 have b0 := Int.emod_nonneg p.y (b := (n : Int)) (by omega)
 have b1 := Int.emod_lt_of_pos p.y (b := (n : Int)) (by omega)
 unfold prB
 generalize p.x % (n : Int) = a at *;generalize p.y % (n : Int) = b at *;refine ⟨by simp only; omega, ?_, ?_⟩
 ·simp only
  split
  ·exact Nat.mod_lt _ (by omega)
  ·omega
 ·simp only
  split
  ·rcases Nat.lt_or_ge (a.toNat + 1) n with h1 | h1
   ·rw [Nat.mod_eq_of_lt h1]; omega
   ·rw [show a.toNat + 1 = n by omega, Nat.mod_self]; omega
  ·assumption
def gy (P : Nat -> PT) (ts : List Nat) (n : Nat) (pr : List PT) : List LK := pr.map fun p => exK P ts (prB n p).1 (prB n p).2 1
theorem A8 {P : Nat -> PT} {ts : List Nat} {n : Nat} (h : 2 <= n) (pr : List PT) : ExL P ts n (gy P ts n pr) := fun l hl => by
 obtain ⟨p, _, rfl⟩ := List.mem_map.1 hl
 obtain ⟨h1, h2, h3⟩ := yk h p
 exact ⟨_, _, 1, rfl, h1, h2, h3, by decide, by decide⟩
section
variable {P : Nat -> PT} {ts : List Nat} {n : Nat} {pr : List PT}
theorem vI (hP : BdP P) (h2 : 2 <= n) (h6 : n <= 6) (hn : n <= ts.length) (hp6 : pr.length <= 6) :
  (ca (exG ts n (ch1 P ts (n - 1))) = true /\ alP (exG ts n (ch1 P ts (n - 1))) = true) /\
  (∀ v, v < n -> (rkL (exG ts n (ch1 P ts (n - 1)))).getD v sp0 = szW (((P v).x - (P 0).x : Int) : Rat) (((P v).y - (P 0).y : Int) : Rat)) /\
  dm (exG ts n (ch1 P ts (n - 1))) (rkL (exG ts n (ch1 P ts (n - 1)))) (gy P ts n pr) 0 = (List.range pr.length, 0) /\
  (dm (exG ts n (ch1 P ts (n - 1))) (rkL (exG ts n (ch1 P ts (n - 1)))) (gy P ts n pr ++ [e9]) 3).2 = 0 /\
  (2 <= pr.length -> (dm (exG ts n (ch1 P ts (n - 1))) (rkL (exG ts n (ch1 P ts (n - 1)))) (gy P ts n pr ++ [e9]) 3).1 = List.range pr.length) := by
 have hx : ExL P ts n (ch1 P ts (n - 1)) := C2 (by omega)
 have gv : GV (exG ts n (ch1 P ts (n - 1))) := CO (by omega) (by omega) hn (by rw [Bl]; omega) (vd hP hx)
 have cn : cnB (exG ts n (ch1 P ts (n - 1))) = true := zw (by omega) hn gv fun v hv => ⟨exK P ts v (v + 1) 1, List.mem_map.2 ⟨v, List.mem_range.2 (by omega), rfl⟩, rfl, rfl⟩
 have e := iO (ls := ch1 P ts (n - 1)) hn
 have hc : dE (exG ts n (ch1 P ts (n - 1))) (rkL (exG ts n (ch1 P ts (n - 1)))) = true := mm.2 ⟨gv, kg _⟩
 have hpx := A8 (P := P) (ts := ts) h2 pr
 have hlp : (gy P ts n pr).length = pr.length := by simp [gy]
 have hf : (gy P ts n pr).all (gr (exG ts n (ch1 P ts (n - 1)))) = true := by
  rw [List.all_eq_true]
  intro l hl
  rw [lj gv, e];exact vd hP hpx l hl
 have hO : ∀ l ∈ gy P ts n pr, iJ (exG ts n (ch1 P ts (n - 1))) (rkL (exG ts n (ch1 P ts (n - 1)))) l = szW 0 0 := fun l hl => by
  obtain ⟨a, b, w, rfl, ha, hb, _⟩ := hpx l hl
  exact A7 (by omega) hn gv hx cn ha hb
 have hb : gr (exG ts n (ch1 P ts (n - 1))) e9 = true := by
  rw [lj gv, e];refine gd.2 ⟨?_, ?_, by decide, by decide, by decide, by decide⟩
  ·show (0 : Int) <= 0 /\ (0 : Int) < n; omega
  ·show (0 : Int) <= 1 /\ (1 : Int) < n; omega
 have hfar := Bp hP h2 hn gv hx cn
 have s1 := xt (t := 0) (by decide) (by omega) hc hf hO
 have s2 := Ar (t := 3) (by decide) (by omega) hc hf hb hO hfar
 rw [hlp] at s1 s2;refine ⟨⟨cu.2 gv, by rw [zK gv]; exact cn⟩, fun v hv => ?_, s1, s2⟩;rw [nX (by omega), (p8 (by omega) hn gv hx cn hv).1, (p8 (by omega) hn gv hx cn hv).2]
end
theorem zx (P : Nat -> PT) (ts : List Nat) (k : Nat) : (ch1 P ts k).map LK.dc ++ [(exK P ts k (k + 1) 1).dc] = (ch1 P ts (k + 1)).map LK.dc := by
 unfold ch1; rw [List.range_succ, List.map_append, List.map_append]; rfl
theorem wx (P : Nat -> PT) (ts : List Nat) (n : Nat) {pr : List PT} {k : Nat} (hk : k < pr.length) : (gy P ts n (pr.take k)).map LK.dc ++ [(exK P ts (prB n pr[k]).1 (prB n pr[k]).2 1).dc] = (gy P ts n (pr.take (k + 1))).map LK.dc := by
 unfold gy; rw [List.take_succ_eq_append_getElem hk, List.map_append, List.map_append]; rfl

/-! ### The walk -/
set_option maxHeartbeats 4000000 in
theorem tJ (pa : List PT) (ts : List Nat) (pr : List PT) (hts : ∀ t ∈ ts, t < 256) (hpr : ∀ p ∈ pr, p.I) : Con Tryz.prog 10 [V1 (dPs pa), V1 (dB8 ts), V1 (dPs pr)] { v := dB true } := by
 obtain ⟨n, hn⟩ : ∃ n, n = min pa.length ts.length := ⟨_, rfl⟩
 refine Z2 Tryz.func10 ?_
 intro w0 X
 rw [aq _ _ [(0, V1 (dPs pa)), (1, V1 (dB8 ts)), (2, V1 (dPs pr))] rfl rfl];refine gQ fun _ Z9=>?_;refine Z7 ?_;refine eQ Z9 ?_;clear Z9;refine gQ fun _ Z9=>?_;refine Z8 ?_;refine ax rfl (aQ PT.dc rfl rfl) rfl ?_;refine Z8 ?_;refine ax rfl (aQ b8 rfl rfl) rfl ?_;refine ax rfl (Cw _ _) rfl ?_;refine Z7 ?_;refine eQ Z9 ?_;clear Z9;rw [<- hn];refine ae ?_;refine bm (α := Bool) (fun c => mk 264 [(0, V1 (dPs pa)), (1, V1 (dB8 ts)), (2, V1 (dPs pr)), (7, dI n), (48, dB c)] [] []) (fun c => c = !decide (2 <= n /\ n <= 6 /\ pr.length <= 6)) ?_ ?_
 ·refine cE fun _ Z9=>?_;refine ab tok rfl ?_;refine ac rfl rfl (gf) rfl rfl rfl rfl ?_;refine ag ?_;refine ab tok rfl ?_;refine b7 rfl rfl rfl ?_;refine ag ?_;refine ab tok rfl ?_;refine Z8 ?_;refine ag ?_;refine bc (fun h0 => ?_) (fun h0 => ?_)
  ·refine aj rfl rfl ?_;refine aj rfl rfl ?_;refine ab tok rfl ?_;refine Z3 ?_;refine ag ?_;refine ab tok rfl ?_;refine Z8 ?_;refine ag ?_;refine aj rfl rfl ?_;refine aj rfl rfl ?_;refine ab tok rfl ?_;refine Z3 ?_;refine ag ?_;refine ab tok rfl ?_;refine Z8 ?_;refine ag ?_;refine aj rfl rfl ?_;refine aj rfl rfl ?_;refine aj rfl rfl ?_;refine ab tok rfl ?_;refine Z3 ?_;refine ag ?_;refine a7 rfl (Z9 _ ?_); clear Z9
   first|(exact absurd h0 (by decide))|exact ⟨_, (by simp only [decide_eq_true_eq, decide_eq_false_iff_not] at h0; rw [Bool.eq_iff_iff]; simp only [decide_eq_true_eq, Bool.not_eq_true', decide_eq_false_iff_not, reduceCtorEq, false_iff, true_iff]; omega), Wk.mk' ⟨rfl, rfl, rfl, rfl, rfl, trivial⟩ trivial⟩
  ·refine ab tok rfl ?_;refine Z8 ?_;refine ag ?_;refine ab tok rfl ?_;refine ah rfl (DL (c := decide (n < 2)) (by rw [Bool.eq_iff_iff, decide_eq_true_eq, decide_eq_true_eq]; omega)) rfl ?_;refine ag ?_;refine ab tok rfl ?_;refine Z3 ?_;refine ag ?_;refine ab tok rfl ?_;refine Z8 ?_;refine ag ?_;refine bc (fun h1 => ?_) (fun h1 => ?_)
   ·refine aj rfl rfl ?_;refine aj rfl rfl ?_;refine ab tok rfl ?_;refine Z3 ?_;refine ag ?_;refine ab tok rfl ?_;refine Z8 ?_;refine ag ?_;refine aj rfl rfl ?_;refine aj rfl rfl ?_;refine aj rfl rfl ?_;refine ab tok rfl ?_;refine Z3 ?_;refine ag ?_;refine a7 rfl (Z9 _ ?_); clear Z9
    first|(exact absurd h0 (by decide))|exact ⟨_, (by simp only [decide_eq_true_eq, decide_eq_false_iff_not] at h0 h1; rw [Bool.eq_iff_iff]; simp only [decide_eq_true_eq, Bool.not_eq_true', decide_eq_false_iff_not, reduceCtorEq, false_iff, true_iff]; omega), Wk.mk' ⟨rfl, rfl, rfl, rfl, rfl, trivial⟩ trivial⟩
   ·refine ab tok rfl ?_;refine Z8 ?_;refine ag ?_;refine ab tok rfl ?_;refine ah rfl (iw _ 6) rfl ?_;refine ag ?_;refine ab tok rfl ?_;refine Z3 ?_;refine ag ?_;refine ab tok rfl ?_;refine Z8 ?_;refine ag ?_;refine bc (fun h2 => ?_) (fun h2 => ?_)
    ·refine aj rfl rfl ?_;refine aj rfl rfl ?_;refine aj rfl rfl ?_;refine ab tok rfl ?_;refine Z3 ?_;refine ag ?_;refine a7 rfl (Z9 _ ?_); clear Z9
     first|(exact absurd h0 (by decide))|exact ⟨_, (by simp only [decide_eq_true_eq, decide_eq_false_iff_not] at h0 h1 h2; rw [Bool.eq_iff_iff]; simp only [decide_eq_true_eq, Bool.not_eq_true', decide_eq_false_iff_not, reduceCtorEq, false_iff, true_iff]; omega), Wk.mk' ⟨rfl, rfl, rfl, rfl, rfl, trivial⟩ trivial⟩
    ·refine ab tok rfl ?_;refine Z8 ?_;refine ag ?_;refine ab tok rfl ?_;refine ax rfl (aQ PT.dc rfl rfl) rfl ?_;refine ag ?_;refine ab tok rfl ?_;refine ah rfl (iw _ 6) rfl ?_;refine ag ?_;refine ab tok rfl ?_;refine Z3 ?_;refine ag ?_;refine a7 rfl (Z9 _ ?_); clear Z9
     first|(exact absurd h0 (by decide))|exact ⟨_, (by simp only [decide_eq_true_eq, decide_eq_false_iff_not] at h0 h1 h2; rw [Bool.eq_iff_iff]; simp only [decide_eq_true_eq, Bool.not_eq_true', decide_eq_false_iff_not, reduceCtorEq, false_iff, true_iff]; omega), Wk.mk' ⟨rfl, rfl, rfl, rfl, rfl, trivial⟩ trivial⟩
 rintro c rfl
 refine al rfl (fun hd => ?_) (fun hd => ?_)
 ·refine gQ fun _ Z9=>?_;refine ac rfl rfl (gf) rfl rfl rfl rfl ?_;refine Z7 ?_;refine eQ Z9 ?_;clear Z9;exact ak aG
 rw [Bool.not_eq_false'] at hd
 obtain ⟨h2, h6, hp6⟩ := of_decide_eq_true hd
 have hna : n <= pa.length := by omega
 have hnt : n <= ts.length := by omega
 clear hn
 have cQ := vV (ts.take n) (fun t ht => hts t (List.mem_of_mem_take ht)) (by simp; omega)
 refine ai ?_;show AWP _ _ _ _ _ _;refine gQ fun _ Z9=>?_;refine Z8 ?_;refine bq (sz := _) (es := _) (f := _) (v := _) rfl (yE (l := n) rfl rfl rfl rfl rfl (Nat.le_of_ble_eq_true rfl) (by decide) rfl rfl (by omega)) rfl rfl ?_;refine Z7 ?_;refine eQ Z9 ?_;clear Z9;refine ae ?_;refine gQ fun _ Z9=>?_;refine Z7 ?_;refine eQ Z9 ?_;clear Z9;refine ap (aK (α := Nat) (fun i => mk 264 [(0, V1 (dPs pa)), (1, V1 (dB8 ts)), (2, V1 (dPs pr)), (7, dI n), (8, .val (.one (.own 51 2 0 n))), (9, dI i)] [(51, some (.arr 2 ((List.range i).map (fun j => (ptF pa j).dc) ++ List.replicate (n - i) p00.dc)))] []) (fun i => i <= n) (fun i => n - i) 0 ?_ (Nat.zero_le _) ?_)
 ·exact Wk.mk' ⟨rfl, rfl, rfl, rfl, rfl, rfl, trivial⟩ ⟨rfl, trivial⟩
 intro i hi
 refine ae ?_;refine gQ fun _ Z9=>?_;refine Z8 ?_;refine Z8 ?_;refine Z5 ?_;refine eQ Z9 ?_;clear Z9;refine al rfl (fun hg => ?_) (fun hg => ?_)
 ·have hg : i < n := by simp at hg; omega
  have hga : i < pa.length := by omega
  have hel : ∀ el ∈ (List.range i).map (fun j => (ptF pa j).dc) ++ List.replicate (n - i) p00.dc, el.length = 2 := by
   intro el h
   rcases List.mem_append.1 h with h | h
   ·obtain ⟨_, _, rfl⟩ := List.mem_map.1 h; rfl
   ·rw [List.eq_of_mem_replicate h]; rfl
  have hlen : i < ((List.range i).map (fun j => (ptF pa j).dc) ++ List.replicate (n - i) p00.dc).length := by simp; omega
  have hset : ((List.range i).map (fun j => (ptF pa j).dc) ++ List.replicate (n - i) p00.dc).set i (ptF pa i).dc = (List.range (i + 1)).map (fun j => (ptF pa j).dc) ++ List.replicate (n - (i + 1)) p00.dc := by
   obtain ⟨k, hk⟩ : ∃ k, n - i = k + 1 := ⟨n - i - 1, by omega⟩
   rw [hk, List.replicate_succ, Ap (by simp), show n - (i + 1) = k by omega, List.range_succ, List.map_append, List.append_assoc]; rfl
  have ep : ptF pa i = ⟨clp pa[i].x (-1000) 1000, clp pa[i].y (-1000) 1000⟩ := by
   unfold ptF; rw [List.getD_eq_getElem?_getD, List.getElem?_eq_getElem hga]; rfl
  rw [ep] at hset
  have c1 := uc pa[i].x (-1000) 1000
  have c2 := uc pa[i].y (-1000) 1000
  generalize (List.range i).map (fun j => (ptF pa j).dc) ++ List.replicate (n - i) p00.dc = es at hel hlen hset ⊢;refine ai ?_;show AWP _ _ _ _ _ _;refine ae ?_;refine ap ?_;refine cU tok mixed (A := [[], [], [], [], [], [2, 3], [2, 3, 4], [2, 3, 4, 5], [], [], [], [8, 9], [8, 9, 10], [2, 3, 4, 5, 6, 8, 9, 10, 11], [2, 3, 4, 5, 6, 8, 9, 10, 11, 12], [], []]) (an := [{}, {}, {}, {}, {}, {}, {}, {}, { c := [64] }, { c := [64] }, { c := [64] }, { c := [64] }, { c := [64] }, {}, {}, {}, {}]) rfl (by kernel_rfl) rfl fun _ Z9=>?_;refine Z8 ?_;refine Z8 ?_;refine Z8 ?_;refine Z8 ?_;refine aa rfl (x_m PT.dc rfl rfl rfl rfl hga rfl) rfl ?_;refine Z4 ?_;refine Z6 ?_;refine ac rfl rfl (c1) rfl rfl rfl rfl ?_;refine Z8 ?_;refine Z8 ?_;refine aa rfl (x_m PT.dc rfl rfl rfl rfl hga rfl) rfl ?_;refine Z4 ?_;refine Z6 ?_;refine ac rfl rfl (c2) rfl rfl rfl rfl ?_;refine aJ rfl rfl rfl ?_;refine aa rfl (x_o (i := i) (j := i) rfl rfl rfl rfl rfl hg (Nat.zero_add _)) rfl ?_;refine ar rfl (DZ (p := ⟨clp pa[i].x (-1000) 1000, clp pa[i].y (-1000) 1000⟩) rfl rfl rfl hlen hel) rfl rfl rfl ?_;refine eQ Z9 ?_;clear Z9;rw [hset];show AWP _ _ _ _ _ _;refine gR fun _ Z9=>?_;refine Z8 ?_;refine ah rfl (aI (c := ((i + 1 : Nat) : Int)) (by omega) (by omega)) rfl ?_;refine Z7 ?_;refine eQ Z9 ?_;clear Z9;exact ⟨i + 1, by omega, hg, Wk.mk' ⟨rfl, rfl, rfl, rfl, rfl, rfl, trivial⟩ ⟨rfl, trivial⟩⟩
 have hg : n = i := by simp at hg; omega
 subst hg
 rw [Nat.sub_self, List.replicate_zero, List.append_nil];refine aA ?_;show AWP _ _ _ _ _ _
 obtain ⟨P, hP⟩ : ∃ P : Nat -> PT, P = ptF pa := ⟨_, rfl⟩
 have bP : ∀ i, (-1000 <= (P i).x /\ (P i).x <= 1000) /\ (-1000 <= (P i).y /\ (P i).y <= 1000) := fun i => by rw [hP]; exact Cq pa i
 rw [<- hP];clear hP;refine d5 [1, 2, 7, 8] [51] 51 [(1, V1 (dB8 ts)), (2, V1 (dPs pr)), (7, dI n), (8, V1 (dPs ((List.range n).map P)))] [] rfl ?_ trivial ?_
 ·exact ⟨rfl, rfl, rfl, bz (by rw [List.map_map]; rfl) (by simp), trivial⟩
 have hPL : ∀ i (h : i < ((List.range n).map P).length), ((List.range n).map P)[i]'h = P i := fun i h => by simp
 have hlP : ((List.range n).map P).length = n := by simp
 obtain ⟨⟨gV, gA⟩, gS, gZ, gB, gB2⟩ := vI (pr := pr) bP h2 h6 hnt hp6
 have ok1 := CN (ts := ts) (n := n) (ls := ch1 P ts (n - 1))
 have ok4 : ∀ r ∈ (exG ts n (ch1 P ts (n - 1))).nodes, r.OK 4096 := fun r hr => (ok1 r hr).mono rfl
 have oS : ∀ p ∈ rkL (exG ts n (ch1 P ts (n - 1))), p.OK 4096 := fun p hp => (Cc (cu.1 gV) ok1 rfl p hp).mono rfl
 have lS : (rkL (exG ts n (ch1 P ts (n - 1)))).length = n := by rw [kg]; exact iO hnt
 have cR := vj (exG ts n (ch1 P ts (n - 1))) ok4
 rw [vS, if_pos gV, if_pos gA] at cR
 have cS := fun ls t => pg (exG ts n (ch1 P ts (n - 1))) (rkL (exG ts n (ch1 P ts (n - 1)))) ls t ok4 oS
 have hma : ∀ i (h : i < (rkL (exG ts n (ch1 P ts (n - 1)))).length), (rkL (exG ts n (ch1 P ts (n - 1))))[i]'h = szW (((P i).x - (P 0).x : Int) : Rat) (((P i).y - (P 0).y : Int) : Rat) := fun i h => by
  have := gS i (by omega)
  rw [List.getD_eq_getElem?_getD, List.getElem?_eq_getElem h] at this;exact this
 clear gS gV gA oS;generalize rkL (exG ts n (ch1 P ts (n - 1))) = ml at cR cS hma lS gZ gB gB2
 have eG : exG ts n (ch1 P ts (n - 1)) = ⟨(ts.take n).map qRW, ch1 P ts (n - 1)⟩ := rfl
 rw [eG] at cR cS gZ gB gB2;clear eG ok1 ok4;generalize (ts.take n).map qRW = nodes at cQ cR cS gZ gB gB2;generalize hPL0 : (List.range n).map P = PL at hPL hlP ⊢;refine gQ fun _ Z9=>?_;refine Z8 ?_;refine Z8 ?_;refine kL rfl rfl rfl (D0 b8 rfl rfl rfl hnt (fun _ => rfl)) rfl ?_;refine ac rfl rfl (cQ) rfl rfl rfl rfl ?_;refine aJ rfl rfl rfl ?_;refine aw rfl rfl rfl rfl rfl rfl ?_;refine ar rfl rfl rfl rfl rfl ?_;refine eQ Z9 ?_;clear Z9;refine ae ?_;refine gQ fun _ Z9=>?_;refine Z7 ?_;refine eQ Z9 ?_;clear Z9;refine ap (aK (α := Nat) (fun i => mk 264 [(1, V1 (dB8 ts)), (2, V1 (dPs pr)), (7, dI n), (8, V1 (dPs PL)), (10, .ptr 10 0), (11, dI i)] [(10, some (.box [.d (dRs nodes), D5 200 5 i])), (200, d4 5 ((ch1 P ts i).map LK.dc) i)] [10]) (fun i => i + 1 <= n) (fun i => n - i) 0 ?_ (by omega) ?_)
 ·exact Wk.trans (Wk.rbE rfl) (Wk.mk' ⟨rfl, rfl, rfl, rfl, rfl, rfl, trivial⟩ ⟨rfl, rfl, trivial⟩)
 intro i hi
 refine ae ?_;refine gQ fun _ Z9=>?_;refine Z8 ?_;refine ah rfl (aI (c := ((i + 1 : Nat) : Int)) (by omega) (by omega)) rfl ?_;refine Z8 ?_;refine Z5 ?_;refine eQ Z9 ?_;clear Z9;refine al rfl (fun hg => ?_) (fun hg => ?_)
 ·have hg : i + 1 < n := by simp at hg; omega
  have t1 : i < ts.length := by omega
  have g1 : i < PL.length := by omega
  have g2 : i + 1 < PL.length := by omega
  have b1 := bP i
  have b2 := bP (i + 1)
  have e1 := hPL i g1
  have e2 := hPL (i + 1) g2
  have cSn := xv ts[i] PL[i] PL[i + 1] (hts _ (List.getElem_mem t1)) (by rw [e1, e2]; omega) (by rw [e1, e2]; omega)
  have ek : exK P ts i (i + 1) 1 = ⟨i, ((i + 1 : Nat) : Int), (rt4 (ts[i] % 4) (PL[i + 1].x - PL[i].x, PL[i + 1].y - PL[i].y)).1, (rt4 (ts[i] % 4) (PL[i + 1].x - PL[i].x, PL[i + 1].y - PL[i].y)).2, 1⟩ := by
   unfold exK; rw [e1, e2, List.getD_eq_getElem?_getD, List.getElem?_eq_getElem t1]; rfl
  have n1 := zx P ts i
  rw [ek] at n1
  have z1 : ((ch1 P ts i).map LK.dc).length = i := by simp [ch1]
  generalize (rt4 (ts[i] % 4) (PL[i + 1].x - PL[i].x, PL[i + 1].y - PL[i].y)).1 = sx at cSn n1;generalize (rt4 (ts[i] % 4) (PL[i + 1].x - PL[i].x, PL[i + 1].y - PL[i].y)).2 = sy at cSn n1;generalize (ch1 P ts i).map LK.dc = es at n1 z1 ⊢;clear ek;refine ai ?_;show AWP _ _ _ _ _ _;refine ae ?_;refine ap ?_
  rcases i with _ | i
  ·refine aD tok mixed (A := [[], [], [], [0, 1], [], [], [], [4, 5], [], [], [], [9], [8, 9, 10], [0, 1, 2, 4, 5, 6, 8, 9, 10, 11], [0, 1, 2, 3, 4, 5, 6, 7, 8, 9, 10, 11, 12], [0, 1, 2, 3, 4, 5, 6, 7, 8, 9, 10, 11, 12, 13], [0, 1, 2, 3, 4, 5, 6, 7, 8, 9, 10, 11, 12, 13], [], []]) (an := [{}, {}, {}, {}, {}, {}, {}, {}, {}, {}, {}, {}, {}, {}, {}, {}, {}, {}, {}]) rfl (by kernel_rfl) rfl fun _ Z9=>?_;refine Z8 ?_;refine Z8 ?_;refine aa rfl (x_m b8 rfl rfl rfl rfl t1 rfl) rfl ?_;refine Z6 ?_;refine Z8 ?_;refine Z8 ?_;refine aa rfl (x_m PT.dc rfl rfl rfl rfl g1 rfl) rfl ?_;refine Z6 ?_;refine Z8 ?_;refine Z8 ?_;refine ah rfl (aI (c := ((0 + 1 : Nat) : Int)) (by omega) (by omega)) rfl ?_;refine aa rfl (x_m PT.dc rfl rfl rfl rfl g2 rfl) rfl ?_;refine Z6 ?_;refine ac rfl rfl (cSn) rfl rfl rfl rfl ?_;refine Z8 ?_;refine am rfl rfl rfl ?_;refine am rfl rfl rfl ?_;refine Z7 ?_;refine Z7 ?_;refine eQ Z9 ?_;clear Z9;refine gR fun _ Z9=>?_;refine Z4 ?_;refine Z6 ?_;refine Z8 ?_;refine Z8 ?_;refine ah rfl (aI (c := ((0 + 1 : Nat) : Int)) (by omega) (by omega)) rfl ?_;refine Z8 ?_;refine Z8 ?_;refine aJ rfl rfl rfl ?_;refine az rfl rfl rfl rfl ?_;refine aX rfl (iX rfl rfl rfl rfl rfl (by decide) (Nat.le_of_ble_eq_true rfl) rfl (by simp) rfl (by simp) (by simp)) rfl rfl rfl ?_;refine Z4 ?_;refine kK rfl rfl rfl rfl rfl ?_;refine eQ Z9 ?_;clear Z9;show AWP _ _ _ _ _ _;refine gR fun _ Z9=>?_;refine Z8 ?_;refine ah rfl (aI (c := ((0 + 1 : Nat) : Int)) (by omega) (by omega)) rfl ?_;refine Z7 ?_;refine eQ Z9 ?_;clear Z9;refine ⟨0 + 1, by omega, hg, Wk.rnB [1, 2, 7, 8, 10, 11] [10, 110] 110 200 rfl rfl rfl ⟨rfl, rfl, rfl, rfl, rfl, rfl, trivial⟩ ⟨?_, ?_, trivial⟩ rfl⟩
   ·first
     | rfl
     | (show some (OO.box [_, .own 200 5 0 _]) = _
        rw [List.length_append, z1]; rfl)
   ·first
     | (rw [<- n1, List.length_eq_zero_iff.1 z1]; rfl)
     | (rw [<- n1]; rfl)
  ·refine aD tok mixed (A := [[], [], [], [0, 1], [], [], [], [4, 5], [], [], [], [9], [8, 9, 10], [0, 1, 2, 4, 5, 6, 8, 9, 10, 11], [0, 1, 2, 3, 4, 5, 6, 7, 8, 9, 10, 11, 12], [0, 1, 2, 3, 4, 5, 6, 7, 8, 9, 10, 11, 12, 13], [0, 1, 2, 3, 4, 5, 6, 7, 8, 9, 10, 11, 12, 13], [], []]) (an := [{}, {}, {}, {}, {}, {}, {}, {}, {}, {}, {}, {}, {}, {}, {}, {}, {}, {}, {}]) rfl (by kernel_rfl) rfl fun _ Z9=>?_;refine Z8 ?_;refine Z8 ?_;refine aa rfl (x_m b8 rfl rfl rfl rfl t1 rfl) rfl ?_;refine Z6 ?_;refine Z8 ?_;refine Z8 ?_;refine aa rfl (x_m PT.dc rfl rfl rfl rfl g1 rfl) rfl ?_;refine Z6 ?_;refine Z8 ?_;refine Z8 ?_;refine ah rfl (aI (c := ((i + 1 + 1 : Nat) : Int)) (by omega) (by omega)) rfl ?_;refine aa rfl (x_m PT.dc rfl rfl rfl rfl g2 rfl) rfl ?_;refine Z6 ?_;refine ac rfl rfl (cSn) rfl rfl rfl rfl ?_;refine Z8 ?_;refine am rfl rfl rfl ?_;refine am rfl rfl rfl ?_;refine Z7 ?_;refine Z7 ?_;refine eQ Z9 ?_;clear Z9;refine gR fun _ Z9=>?_;refine Z4 ?_;refine Z6 ?_;refine Z8 ?_;refine Z8 ?_;refine ah rfl (aI (c := ((i + 1 + 1 : Nat) : Int)) (by omega) (by omega)) rfl ?_;refine Z8 ?_;refine Z8 ?_;refine aJ rfl rfl rfl ?_;refine az rfl rfl rfl rfl ?_;refine aX rfl (kB rfl rfl rfl rfl rfl rfl (by decide) (Nat.le_of_ble_eq_true rfl) rfl (by simp) rfl rfl z1.symm (by simp <;> omega)) rfl rfl rfl ?_;refine Z4 ?_;refine kK rfl rfl rfl rfl rfl ?_;refine eQ Z9 ?_;clear Z9;show AWP _ _ _ _ _ _;refine gR fun _ Z9=>?_;refine Z8 ?_;refine ah rfl (aI (c := ((i + 1 + 1 : Nat) : Int)) (by omega) (by omega)) rfl ?_;refine Z7 ?_;refine eQ Z9 ?_;clear Z9;refine ⟨i + 1 + 1, by omega, hg, Wk.rnB [1, 2, 7, 8, 10, 11] [10, 110] 110 200 rfl rfl rfl ⟨rfl, rfl, rfl, rfl, rfl, rfl, trivial⟩ ⟨?_, ?_, trivial⟩ rfl⟩
   ·first
     | rfl
     | (show some (OO.box [_, .own 200 5 0 _]) = _
        rw [List.length_append, z1]; rfl)
   ·first
     | (rw [<- n1, List.length_eq_zero_iff.1 z1]; rfl)
     | (rw [<- n1]; rfl)
 have hg : i = n - 1 := by simp at hg; omega
 subst hg
 obtain ⟨m, hm⟩ : ∃ m, n - 1 = m + 1 := ⟨n - 2, by omega⟩
 have zc : ((ch1 P ts (n - 1)).map LK.dc).length = m + 1 := by simp [ch1]; omega
 rw [hm] at zc cR cS gZ gB gB2 ⊢;generalize ch1 P ts (m + 1) = CL at zc cR cS gZ gB gB2 ⊢;refine aA ?_;show AWP _ _ _ _ _ _;refine d5 [1, 2, 7, 8, 10] [10, 200] 200 [(1, V1 (dB8 ts)), (2, V1 (dPs pr)), (7, dI n), (8, V1 (dPs PL)), (10, .ptr 10 0)] [(10, some (.box (GR.mk nodes CL).cs))] rfl ⟨rfl, rfl, rfl, rfl, rfl, trivial⟩ ⟨(by show some (OO.box [.d (dRs nodes), kp 200 5 _ (.own 200 5 0 _)]) = _; rw [sD rfl (by rw [zc])]; rfl), trivial⟩ ?_;generalize GR.mk nodes CL = G at cR cS gZ gB gB2 ⊢;clear zc
 have hc0 : ∀ i (h : i < ml.length) (h' : i < PL.length), Con Tryz.prog 37 [AG (ml[i]'h).x.cs, AG (qzW ((((PL[i]'h').x - (P 0).x : Int)) : Rat)).cs] { v := dI 0 } /\ Con Tryz.prog 37 [AG (ml[i]'h).y.cs, AG (qzW ((((PL[i]'h').y - (P 0).y : Int)) : Rat)).cs] { v := dI 0 } := fun i h h' => by
  have b1 := bP i
  have b0 := bP 0
  have x1 : (ml[i]'h).x = qzW ((((P i).x - (P 0).x : Int)) : Rat) := by rw [hma i h]; rfl
  have y1 : (ml[i]'h).y = qzW ((((P i).y - (P 0).y : Int)) : Rat) := by rw [hma i h]; rfl
  have oX := dO (kk (n := (P i).x - (P 0).x) ⟨by omega, by omega⟩)
  have oY := dO (kk (n := (P i).y - (P 0).y) ⟨by omega, by omega⟩)
  have k1 := l3 _ _ (oX.mono rfl) (oX.mono rfl)
  have k2 := l3 _ _ (oY.mono rfl) (oY.mono rfl)
  rw [ii, (x7 _ _).2 rfl] at k1 k2;rw [hPL i h', x1, y1];exact ⟨k1, k2⟩
 refine gQ fun _ Z9=>?_;refine Z6 ?_;refine ac rfl rfl (cR) rfl rfl rfl rfl ?_;refine Z8 ?_;refine am rfl rfl rfl ?_;refine am rfl rfl rfl ?_;refine Z7 ?_;refine Z7 ?_;refine eQ Z9 ?_;clear Z9;refine ae ?_;refine gQ fun _ Z9=>?_;refine Z8 ?_;refine ah rfl (eV (c := false) rfl) rfl ?_;refine Z8 ?_;refine Z8 ?_;refine ax rfl (aQ SP.dc rfl rfl) rfl ?_;refine Z8 ?_;refine ah rfl (eV (c := false) (by rw [lS]; simp)) rfl ?_;refine Z3 ?_;refine eQ Z9 ?_;clear Z9;refine al rfl (fun h => by cases h) (fun _ => ?_);refine ai ?_;show AWP _ _ _ _ _ _;refine ae ?_;refine gQ fun _ Z9=>?_;refine Z7 ?_;refine eQ Z9 ?_;clear Z9;refine ap (aK (α := Nat) (fun i => mk 264 [(1, V1 (dB8 ts)), (2, V1 (dPs pr)), (7, dI n), (8, V1 (dPs PL)), (10, .ptr 10 0), (14, V1 (dSs ml)), (16, dI i)] [(10, some (.box G.cs))] [10]) (fun i => i <= n) (fun i => n - i) 0 ?_ (Nat.zero_le _) ?_)
 ·exact Wk.mk' ⟨rfl, rfl, rfl, rfl, rfl, rfl, rfl, trivial⟩ ⟨rfl, trivial⟩
 intro i hi
 refine ae ?_;refine gQ fun _ Z9=>?_;refine Z8 ?_;refine Z8 ?_;refine Z5 ?_;refine eQ Z9 ?_;clear Z9;refine al rfl (fun hg => ?_) (fun hg => ?_)
 ·have hg : i < n := by simp at hg; omega
  have g1 : i < ml.length := by omega
  have g2 : i < PL.length := by omega
  have g0 : 0 < PL.length := by omega
  obtain ⟨k1, k2⟩ := hc0 i g1 g2
  have e0 := hPL 0 g0
  have ei := hPL i g2
  have b1 := bP i
  have b0 := bP 0
  rw [<- e0] at k1 k2
  have o1 := qM (PL[i].x - PL[0].x) (by rw [ei, e0]; exact ⟨by omega, by omega⟩)
  have o2 := qM (PL[i].y - PL[0].y) (by rw [ei, e0]; exact ⟨by omega, by omega⟩)
  have r1 : -4000 <= PL[i].x - PL[0].x /\ PL[i].x - PL[0].x <= 4000 := by rw [ei, e0]; omega
  have r2 : -4000 <= PL[i].y - PL[0].y /\ PL[i].y - PL[0].y <= 4000 := by rw [ei, e0]; omega
  refine ai ?_;show AWP _ _ _ _ _ _;refine ae ?_;refine ap ?_;refine aD tok mixed (A := [[], [], [], [0, 1], [0, 1, 2], [], [], [], [5, 6], [5, 6, 7], [], [], [10], [10, 11], [5, 6, 7, 8, 10, 11, 12], [5, 6, 7, 8, 9, 10, 11, 12, 13], [0, 1, 2, 3, 5, 6, 7, 8, 9, 10, 11, 12, 13, 14], [0, 1, 2, 3, 4, 5, 6, 7, 8, 9, 10, 11, 12, 13, 14, 15], [0, 1, 2, 3, 4, 5, 6, 7, 8, 9, 10, 11, 12, 13, 14, 15], [0, 1, 2, 3, 4, 5, 6, 7, 8, 9, 10, 11, 12, 13, 14, 15, 16, 17], [0, 1, 2, 3, 4, 5, 6, 7, 8, 9, 10, 11, 12, 13, 14, 15, 16, 17], [0, 1, 2, 3, 4, 5, 6, 7, 8, 9, 10, 11, 12, 13, 14, 15, 16, 17], [0, 1, 2, 3, 4, 5, 6, 7, 8, 9, 10, 11, 12, 13, 14, 15, 16, 17, 19, 20], [0, 1, 2, 3, 4, 5, 6, 7, 8, 9, 10, 11, 12, 13, 14, 15, 16, 17, 19, 20, 21], [0, 1, 2, 3, 4, 5, 6, 7, 8, 9, 10, 11, 12, 13, 14, 15, 16, 17], [0, 1, 2, 3, 4, 5, 6, 7, 8, 9, 10, 11, 12, 13, 14, 15, 16, 17], [0, 1, 2, 3, 4, 5, 6, 7, 8, 9, 10, 11, 12, 13, 14, 15, 16, 17], [0, 1, 2, 3, 4, 5, 6, 7, 8, 9, 10, 11, 12, 13, 14, 15, 16, 17, 24, 25], [0, 1, 2, 3, 4, 5, 6, 7, 8, 9, 10, 11, 12, 13, 14, 15, 16, 17, 24, 25, 26], [0, 1, 2, 3, 4, 5, 6, 7, 8, 9, 10, 11, 12, 13, 14, 15, 16, 17], [0, 1, 2, 3, 4, 5, 6, 7, 8, 9, 10, 11, 12, 13, 14, 15, 16, 17], [0, 1, 2, 3, 4, 5, 6, 7, 8, 9, 10, 11, 12, 13, 14, 15, 16, 17, 29], [0, 1, 2, 3, 4, 5, 6, 7, 8, 9, 10, 11, 12, 13, 14, 15, 16, 17, 29, 30], [0, 1, 2, 3, 4, 5, 6, 7, 8, 9, 10, 11, 12, 13, 14, 15, 16, 17, 24, 25, 26, 27, 29, 30, 31], [0, 1, 2, 3, 4, 5, 6, 7, 8, 9, 10, 11, 12, 13, 14, 15, 16, 17, 24, 25, 26, 27, 28, 29, 30, 31, 32], [0, 1, 2, 3, 4, 5, 6, 7, 8, 9, 10, 11, 12, 13, 14, 15, 16, 17, 19, 20, 21, 22, 24, 25, 26, 27, 28, 29, 30, 31, 32, 33], [0, 1, 2, 3, 4, 5, 6, 7, 8, 9, 10, 11, 12, 13, 14, 15, 16, 17, 19, 20, 21, 22, 23, 24, 25, 26, 27, 28, 29, 30, 31, 32, 33, 34], [0, 1, 2, 3, 4, 5, 6, 7, 8, 9, 10, 11, 12, 13, 14, 15, 16, 17, 19, 20, 21, 22, 23, 24, 25, 26, 27, 28, 29, 30, 31, 32, 33, 34, 35]]) (an := [{}, {}, {}, {}, {}, {}, {}, {}, {}, {}, {}, {}, {}, {}, {}, {}, {}, {}, {}, {}, {}, {}, {}, {}, {}, {}, {}, {}, {}, {}, {}, {}, {}, {}, {}, {}, {}, {}]) rfl (by kernel_rfl) rfl fun _ Z9=>?_;refine Z8 ?_;refine Z8 ?_;refine aa rfl (x_m SP.dc rfl rfl rfl rfl g1 rfl) rfl ?_;refine Z4 ?_;refine Z6 ?_;refine Z8 ?_;refine Z8 ?_;refine aa rfl (x_m PT.dc rfl rfl rfl rfl g2 rfl) rfl ?_;refine Z4 ?_;refine Z6 ?_;refine Z8 ?_;refine aa rfl (x_m PT.dc (i := 0) rfl rfl rfl rfl g0 rfl) rfl ?_;refine Z4 ?_;refine Z6 ?_;refine ah rfl (bT (c := PL[i].x - PL[0].x) rfl (by omega)) rfl ?_;refine ac rfl rfl (o1) rfl rfl rfl rfl ?_;refine ac rfl rfl (k1) rfl rfl rfl rfl ?_;refine ah rfl (eV (c := false) rfl) rfl ?_;refine Z8 ?_;refine Z8 ?_;refine Z8 ?_;refine aa rfl (x_m SP.dc rfl rfl rfl rfl g1 rfl) rfl ?_;refine Z4 ?_;refine Z6 ?_;refine Z8 ?_;refine Z8 ?_;refine aa rfl (x_m PT.dc rfl rfl rfl rfl g2 rfl) rfl ?_;refine Z4 ?_;refine Z6 ?_;refine Z8 ?_;refine aa rfl (x_m PT.dc (i := 0) rfl rfl rfl rfl g0 rfl) rfl ?_;refine Z4 ?_;refine Z6 ?_;refine ah rfl (bT (c := PL[i].y - PL[0].y) rfl (by omega)) rfl ?_;refine ac rfl rfl (o2) rfl rfl rfl rfl ?_;refine ac rfl rfl (k2) rfl rfl rfl rfl ?_;refine ah rfl (eV (c := false) rfl) rfl ?_;refine Z3 ?_;refine eQ Z9 ?_;clear Z9;refine al rfl (fun h => by cases h) (fun _ => ?_);refine ai ?_;show AWP _ _ _ _ _ _;refine gR fun _ Z9=>?_;refine Z8 ?_;refine ah rfl (aI (c := ((i + 1 : Nat) : Int)) (by omega) (by omega)) rfl ?_;refine Z7 ?_;refine eQ Z9 ?_;clear Z9;exact ⟨i + 1, by omega, hg, Wk.mk' ⟨rfl, rfl, rfl, rfl, rfl, rfl, rfl, trivial⟩ ⟨rfl, trivial⟩⟩
 refine aA ?_;show AWP _ _ _ _ _ _;refine gQ fun _ Z9=>?_;refine Z7 ?_;refine eQ Z9 ?_;clear Z9;refine gQ fun _ Z9=>?_;refine Z7 ?_;refine eQ Z9 ?_;clear Z9;refine ae ?_;refine gQ fun _ Z9=>?_;refine Z7 ?_;refine eQ Z9 ?_;clear Z9;refine ap (aK (α := Nat) (fun k => mk 264 [(1, V1 (dB8 ts)), (2, V1 (dPs pr)), (7, dI n), (8, V1 (dPs PL)), (10, .ptr 10 0), (14, V1 (dSs ml)), (17, dp 200 5 k), (18, dp 201 1 k), (19, dI k)] [(10, some (.box G.cs)), (200, d4 5 ((gy P ts n (pr.take k)).map LK.dc) k), (201, d4 1 ((List.range k).map cN) k)] [10]) (fun k => k <= pr.length) (fun k => pr.length - k) 0 ?_ (Nat.zero_le _) ?_)
 ·exact Wk.mk' ⟨rfl, rfl, rfl, rfl, rfl, rfl, rfl, rfl, rfl, trivial⟩ ⟨rfl, rfl, rfl, trivial⟩
 intro k hk
 refine ae ?_;refine gQ fun _ Z9=>?_;refine Z8 ?_;refine Z8 ?_;refine ax rfl (aQ PT.dc rfl rfl) rfl ?_;refine Z5 ?_;refine eQ Z9 ?_;clear Z9;refine al rfl (fun hg => ?_) (fun hg => ?_)
 ·have hg : k < pr.length := by simp at hg; omega
  have hI := hpr _ (List.getElem_mem hg)
  have a0 := Int.emod_nonneg pr[k].x (b := (n : Int)) (by omega)
  have a1 := Int.emod_lt_of_pos pr[k].x (b := (n : Int)) (by omega)
  have b0 := Int.emod_nonneg pr[k].y (b := (n : Int)) (by omega)
  have b1 := Int.emod_lt_of_pos pr[k].y (b := (n : Int)) (by omega)
  have m1 := zF pr[k].x n hI.1 (by omega) (by omega)
  have m2 := zF pr[k].y n hI.2 (by omega) (by omega)
  have pok := yk h2 pr[k]
  have n1 := wx P ts n hg
  have n2 : (List.range k).map cN ++ [cN k] = (List.range (k + 1)).map cN := by rw [List.range_succ, List.map_append]; rfl
  have z1 : ((gy P ts n (pr.take k)).map LK.dc).length = k := by simp [gy]; omega
  have z2 : ((List.range k).map cN).length = k := by simp
  obtain ⟨a, ha⟩ : ∃ a : Nat, pr[k].x % (n : Int) = a := ⟨(pr[k].x % (n : Int)).toNat, by omega⟩
  obtain ⟨b', hb⟩ : ∃ b : Nat, pr[k].y % (n : Int) = b := ⟨(pr[k].y % (n : Int)).toNat, by omega⟩
  have pe : prB n pr[k] = (a, if a = b' then (a + 1) % n else b') := by unfold prB; rw [ha, hb, Int.toNat_natCast, Int.toNat_natCast]
  rw [ha] at m1 a1;rw [hb] at m2 b1;rw [pe] at n1 pok
  obtain ⟨p1, p2, _⟩ := pok
  simp only at p1 p2
  refine ai ?_;show AWP _ _ _ _ _ _;refine ae ?_;refine ap ?_;refine aD tok mixed (A := [[], [], [], [0, 1], [0, 1, 2], [], [0, 1, 2, 3], [], [], [], [7, 8], [7, 8, 9], [], [0, 1, 2, 3, 4, 5, 7, 8, 9, 10], [7, 8, 9, 10, 11, 12], []]) (an := [{}, {}, {}, {}, {}, {}, {}, { c := [180] }, { c := [180] }, { c := [180] }, { c := [180] }, { c := [180] }, { c := [180] }, {}, {}, {}]) rfl (by kernel_rfl) rfl fun _ Z9=>?_;refine Z8 ?_;refine Z8 ?_;refine aa rfl (x_m PT.dc rfl rfl rfl rfl hg rfl) rfl ?_;refine Z4 ?_;refine Z6 ?_;refine Z8 ?_;refine ac rfl rfl (m1) rfl rfl rfl rfl ?_;refine Z8 ?_;refine Z8 ?_;refine aa rfl (x_m PT.dc rfl rfl rfl rfl hg rfl) rfl ?_;refine Z4 ?_;refine Z6 ?_;refine Z8 ?_;refine ac rfl rfl (m2) rfl rfl rfl rfl ?_;refine Z7 ?_;refine Z7 ?_;refine eQ Z9 ?_;clear Z9;generalize (gy P ts n (pr.take k)).map LK.dc = es at n1 z1 ⊢;generalize (List.range k).map cN = is at n2 z2 ⊢;refine bm (α := Nat) (fun b => mk 264 [(1, V1 (dB8 ts)), (2, V1 (dPs pr)), (7, dI n), (8, V1 (dPs PL)), (10, .ptr 10 0), (14, V1 (dSs ml)), (17, dp 200 5 k), (18, dp 201 1 k), (19, dI k), (20, dI a), (21, dI b)] [(10, some (.box G.cs)), (200, d4 5 es k), (201, d4 1 is k)] [10]) (fun b => b = if a = b' then (a + 1) % n else b') ?_ ?_
  ·refine gQ fun _ Z9=>?_;refine Z8 ?_;refine Z8 ?_;refine ah rfl (zf _ _) rfl ?_;refine eQ Z9 ?_;clear Z9;refine al rfl (fun hab => ?_) (fun hab => ?_)
   ·have hab := of_decide_eq_true hab
    refine gR fun _ Z9=>?_;refine Z8 ?_;refine ah rfl (aI (c := ((a + 1 : Nat) : Int)) (by omega) (by omega)) rfl ?_;refine Z8 ?_;refine ah rfl (CS (z := (a + 1) % n) (by omega) (by omega) rfl) rfl ?_;refine Z7 ?_;refine eQ Z9 ?_;clear Z9;exact ⟨_, (if_pos hab).symm, Wk.mk' ⟨rfl, rfl, rfl, rfl, rfl, rfl, rfl, rfl, rfl, rfl, rfl, trivial⟩ ⟨rfl, rfl, rfl, trivial⟩⟩
   ·have hab := of_decide_eq_false hab
    refine ai ?_;exact ⟨_, (if_neg hab).symm, Wk.mk' ⟨rfl, rfl, rfl, rfl, rfl, rfl, rfl, rfl, rfl, rfl, rfl, trivial⟩ ⟨rfl, rfl, rfl, trivial⟩⟩
  rintro b rfl
  obtain ⟨b, hbb⟩ : ∃ b, b = if a = b' then (a + 1) % n else b' := ⟨_, rfl⟩
  rw [<- hbb] at n1 p2 ⊢
  have ta : a < ts.length := by omega
  have g1 : a < PL.length := by omega
  have g2 : b < PL.length := by omega
  have q1 := bP a
  have q2 := bP b
  have e1 := hPL a g1
  have e2 := hPL b g2
  have cSn := xv ts[a] PL[a] PL[b] (hts _ (List.getElem_mem ta)) (by rw [e1, e2]; omega) (by rw [e1, e2]; omega)
  have ek : exK P ts a b 1 = ⟨a, b, (rt4 (ts[a] % 4) (PL[b].x - PL[a].x, PL[b].y - PL[a].y)).1, (rt4 (ts[a] % 4) (PL[b].x - PL[a].x, PL[b].y - PL[a].y)).2, 1⟩ := by
   unfold exK; rw [e1, e2, List.getD_eq_getElem?_getD, List.getElem?_eq_getElem ta]; rfl
  rw [ek] at n1;generalize (rt4 (ts[a] % 4) (PL[b].x - PL[a].x, PL[b].y - PL[a].y)).1 = sx at cSn n1;generalize (rt4 (ts[a] % 4) (PL[b].x - PL[a].x, PL[b].y - PL[a].y)).2 = sy at cSn n1;refine aD tok mixed (A := [[], [], [], [0, 1], [], [], [], [4, 5], [], [], [], [8, 9], [0, 1, 2, 4, 5, 6, 8, 9, 10], [0, 1, 2, 3, 4, 5, 6, 7, 8, 9, 10, 11], [0, 1, 2, 3, 4, 5, 6, 7, 8, 9, 10, 11, 12], [0, 1, 2, 3, 4, 5, 6, 7, 8, 9, 10, 11, 12], [], []]) (an := [{}, {}, {}, {}, {}, {}, {}, {}, {}, {}, {}, {}, {}, {}, {}, {}, {}, {}]) rfl (by kernel_rfl) rfl fun _ Z9=>?_;refine Z8 ?_;refine Z8 ?_;refine aa rfl (x_m b8 rfl rfl rfl rfl ta rfl) rfl ?_;refine Z6 ?_;refine Z8 ?_;refine Z8 ?_;refine aa rfl (x_m PT.dc rfl rfl rfl rfl g1 rfl) rfl ?_;refine Z6 ?_;refine Z8 ?_;refine Z8 ?_;refine aa rfl (x_m PT.dc rfl rfl rfl rfl g2 rfl) rfl ?_;refine Z6 ?_;refine ac rfl rfl (cSn) rfl rfl rfl rfl ?_;refine Z8 ?_;refine am rfl rfl rfl ?_;refine am rfl rfl rfl ?_;refine Z7 ?_;refine Z7 ?_;refine eQ Z9 ?_;clear Z9;refine gQ fun _ Z9=>?_;refine ji rfl tC (by rcases k with _|k <;> rfl) ?_;refine Z8 ?_;refine az rfl rfl (by rcases k with _|k <;> rfl) rfl ?_;refine kf rfl rfl rfl rfl rfl rfl rfl rfl rfl (by decide) (Nat.le_of_ble_eq_true rfl) rfl (by simp) (z2.symm) (by simp) (by simp <;> omega) (by rcases k with _|k <;> rfl) rfl rfl ?_;refine Z7 ?_;refine eQ Z9 ?_;clear Z9;refine gR fun _ Z9=>?_;refine ji rfl tC (by rcases k with _|k <;> rfl) ?_;refine Z8 ?_;refine Z8 ?_;refine Z8 ?_;refine Z8 ?_;refine aJ rfl rfl rfl ?_;refine az rfl rfl (by rcases k with _|k <;> rfl) rfl ?_;refine kf rfl rfl rfl rfl rfl rfl rfl rfl rfl (by decide) (Nat.le_of_ble_eq_true rfl) rfl (by simp) (z1.symm) (by simp) (by simp <;> omega) (by rcases k with _|k <;> rfl) rfl rfl ?_;refine Z7 ?_;refine eQ Z9 ?_;clear Z9;show AWP _ _ _ _ _ _;refine gR fun _ Z9=>?_;refine Z8 ?_;refine ah rfl (aI (c := ((k + 1 : Nat) : Int)) (by omega) (by omega)) rfl ?_;refine Z7 ?_;refine eQ Z9 ?_;clear Z9;refine ⟨k + 1, by omega, hg, Wk.trans (Wk.rnB [1, 2, 7, 8, 10, 14, 17, 18, 19] [10, 214, 222] 214 201 (rb' := [10]) (E' := [(1, V1 (dB8 ts)), (2, V1 (dPs pr)), (7, dI n), (8, V1 (dPs PL)), (10, .ptr 10 0), (14, V1 (dSs ml)), (17, dp 222 5 (k + 1)), (18, dp 201 1 (k + 1)), (19, dI (k + 1 : Nat))]) (S' := [(10, some (.box G.cs)), (201, d4 1 ((List.range (k + 1)).map cN) (k + 1)), (222, d4 5 ((gy P ts n (pr.take (k + 1))).map LK.dc) (k + 1))]) rfl rfl rfl ⟨rfl, rfl, rfl, rfl, rfl, rfl, rfl, rfl, rfl, trivial⟩ ⟨rfl, ?_, ?_, trivial⟩ rfl) (Wk.rnB [1, 2, 7, 8, 10, 14, 17, 18, 19] [10, 201, 222] 222 200 rfl rfl rfl ⟨rfl, rfl, rfl, rfl, rfl, rfl, rfl, rfl, rfl, trivial⟩ ⟨rfl, rfl, rfl, trivial⟩ rfl)⟩
  ·rw [<- n2]; rfl
  ·rw [<- n1]; rfl
 have hg : k = pr.length := by simp at hg; omega
 subst hg
 rw [List.take_length];refine aA ?_;show AWP _ _ _ _ _ _
 have gL : (gy P ts n pr).length = pr.length := by simp [gy]
 have c0 := cS (gy P ts n pr) 0
 have c3 := cS (gy P ts n pr ++ [e9]) 3
 rw [gZ] at c0;rw [gB] at c3;clear cS gZ gB;generalize (dm G ml (gy P ts n pr ++ [e9]) 3).1 = W at c3 gB2;generalize gy P ts n pr = EL at *;generalize pr.length = q at *
 have cI := vq ((List.range q).map fun x : Nat => (x : Int)) ((List.range q).map fun x : Nat => (x : Int)) (by simp; omega)
 rw [<- Bj, decide_eq_true rfl] at cI
 rcases q with _ | q
 ·obtain rfl : EL = [] := List.eq_nil_of_length_eq_zero gL
  refine gQ fun _ Z9=>?_;refine Z6 ?_;refine Z8 ?_;refine Z8 ?_;refine ac rfl rfl (c0) rfl rfl rfl rfl ?_;refine Z8 ?_;refine am rfl rfl rfl ?_;refine am rfl rfl rfl ?_;refine Z7 ?_;refine Z7 ?_;refine eQ Z9 ?_;clear Z9;refine gQ fun _ Z9=>?_;refine az rfl rfl rfl rfl ?_;refine Z8 ?_;refine aX rfl (kB rfl rfl rfl rfl rfl rfl (by decide) (Nat.le_of_ble_eq_true rfl) rfl (by simp) rfl rfl rfl (by simp)) rfl rfl rfl ?_;refine aJ rfl rfl rfl ?_;refine az rfl rfl rfl rfl ?_;refine aX rfl (kB rfl rfl rfl rfl rfl rfl (by decide) (Nat.le_of_ble_eq_true rfl) rfl (by simp) rfl rfl rfl (by simp)) rfl rfl rfl ?_;refine Z7 ?_;refine eQ Z9 ?_;clear Z9;refine d5 [10, 14, 17, 18, 24, 25, 26] [10, 235] 235 [(10, .ptr 10 0), (14, V1 (dSs ml)), (17, .val (.one .nil)), (18, .val (.one .nil)), (24, V1 (dNs (List.range 0))), (25, dI 0), (26, V1 (dLs ([] ++ [e9])))] [(10, some (.box G.cs))] rfl ?_ ⟨rfl, trivial⟩ ?_
  ·exact ⟨rfl, rfl, rfl, rfl, rfl, rfl, bz rfl (by simp), trivial⟩
  refine gQ fun _ Z9=>?_;refine Z6 ?_;refine Z8 ?_;refine Z8 ?_;refine ac rfl rfl (c3) rfl rfl rfl rfl ?_;refine Z8 ?_;refine am rfl rfl rfl ?_;refine am rfl rfl rfl ?_;refine Z7 ?_;refine Z7 ?_;refine eQ Z9 ?_;clear Z9;refine gQ fun _ Z9=>?_;refine Z8 ?_;refine ah rfl (qe rfl) rfl ?_;refine Z8 ?_;refine Z8 ?_;refine Z8 ?_;refine ac rfl rfl (cI) rfl rfl rfl rfl ?_;refine Z3 ?_;refine Z8 ?_;refine Z8 ?_;refine ah rfl (qe rfl) rfl ?_;refine Z3 ?_;refine Z8 ?_;refine Z8 ?_;refine ax rfl rfl rfl ?_;refine ah rfl (eW (c := true) rfl) rfl ?_;refine Z8 ?_;refine au rfl ?_;refine au rfl ?_;refine au rfl ?_;refine Z3 ?_;refine Z3 ?_;refine Z7 ?_;refine eQ Z9 ?_;clear Z9;exact ak aG
 ·refine d5 [7, 10, 14, 17, 18] [10, 200, 201] 200 [(10, .ptr 10 0), (14, V1 (dSs ml)), (17, V1 (dLs EL)), (18, dp 201 1 (q + 1))] [(10, some (.box G.cs)), (201, d4 1 ((List.range (q + 1)).map cN) (q + 1))] rfl ?_ ⟨rfl, rfl, trivial⟩ ?_
  ·exact ⟨rfl, rfl, bz rfl (by simp [gL]), rfl, trivial⟩
  refine d5 [10, 14, 17, 18] [10, 201] 201 [(10, .ptr 10 0), (14, V1 (dSs ml)), (17, V1 (dLs EL)), (18, V1 (dNs (List.range (q + 1))))] [(10, some (.box G.cs))] rfl ?_ ⟨rfl, trivial⟩ ?_
  ·exact ⟨rfl, rfl, rfl, bz rfl (by simp), trivial⟩
  refine gQ fun _ Z9=>?_;refine Z6 ?_;refine Z8 ?_;refine Z8 ?_;refine ac rfl rfl (c0) rfl rfl rfl rfl ?_;refine Z8 ?_;refine am rfl rfl rfl ?_;refine am rfl rfl rfl ?_;refine Z7 ?_;refine Z7 ?_;refine eQ Z9 ?_;clear Z9;refine gQ fun _ Z9=>?_;refine az rfl rfl rfl rfl ?_;refine Z8 ?_;refine aX rfl (kB rfl rfl rfl rfl rfl rfl (by decide) (Nat.le_of_ble_eq_true rfl) rfl (fun e he => by obtain ⟨l, _, rfl⟩ := List.mem_map.1 he; rfl) rfl rfl rfl (by simp [gL]; omega)) rfl rfl rfl ?_;refine aJ rfl rfl rfl ?_;refine az rfl rfl rfl rfl ?_;refine aX rfl (kB rfl rfl rfl rfl rfl rfl (by decide) (Nat.le_of_ble_eq_true rfl) rfl (by simp) rfl rfl rfl (by simp [gL]; omega)) rfl rfl rfl ?_;refine Z7 ?_;refine eQ Z9 ?_;clear Z9;refine d5 [10, 14, 17, 18, 24, 25, 26] [10, 235] 235 [(10, .ptr 10 0), (14, V1 (dSs ml)), (17, V1 (dLs EL)), (18, V1 (dNs (List.range (q + 1)))), (24, V1 (dNs (List.range (q + 1)))), (25, dI 0), (26, V1 (dLs (EL ++ [e9])))] [(10, some (.box G.cs))] rfl ?_ ⟨rfl, trivial⟩ ?_
  ·exact ⟨rfl, rfl, rfl, rfl, rfl, rfl, bz (by rw [List.map_append]; rfl) (by simp), trivial⟩
  refine gQ fun _ Z9=>?_;refine Z6 ?_;refine Z8 ?_;refine Z8 ?_;refine ac rfl rfl (c3) rfl rfl rfl rfl ?_;refine Z8 ?_;refine am rfl rfl rfl ?_;refine am rfl rfl rfl ?_;refine Z7 ?_;refine Z7 ?_;refine eQ Z9 ?_;clear Z9
  by_cases hq : q = 0
  ·refine gQ fun _ Z9=>?_;refine Z8 ?_;refine ah rfl (qe rfl) rfl ?_;refine Z8 ?_;refine Z8 ?_;refine Z8 ?_;refine ac rfl rfl (cI) rfl rfl rfl rfl ?_;refine Z3 ?_;refine Z8 ?_;refine Z8 ?_;refine ah rfl (qe rfl) rfl ?_;refine Z3 ?_;refine Z8 ?_;refine Z8 ?_;refine ax rfl (aQ LK.dc rfl rfl) rfl ?_;refine ah rfl (eW (c := true) (decide_eq_true (by rw [gL, hq]; decide))) rfl ?_;refine Z8 ?_;refine au rfl ?_;refine au rfl ?_;refine au rfl ?_;refine Z3 ?_;refine Z3 ?_;refine Z7 ?_;refine eQ Z9 ?_;clear Z9;exact ak aG
  ·rw [gB2 (by omega)];refine gQ fun _ Z9=>?_;refine Z8 ?_;refine ah rfl (qe rfl) rfl ?_;refine Z8 ?_;refine Z8 ?_;refine Z8 ?_;refine ac rfl rfl (cI) rfl rfl rfl rfl ?_;refine Z3 ?_;refine Z8 ?_;refine Z8 ?_;refine ah rfl (qe rfl) rfl ?_;refine Z3 ?_;refine Z8 ?_;refine Z8 ?_;refine ax rfl (aQ LK.dc rfl rfl) rfl ?_;refine ah rfl (eW (c := false) (decide_eq_false (by rw [gL]; omega))) rfl ?_;refine Z8 ?_;refine Z8 ?_;refine Z8 ?_;refine ac rfl rfl (cI) rfl rfl rfl rfl ?_;refine Z3 ?_;refine Z3 ?_;refine Z7 ?_;refine eQ Z9 ?_;clear Z9;exact ak aG
end Go.Proofs.YtnoildlijhapaaaGreatDoor
