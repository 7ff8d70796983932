/- Part of a proof that a Go function answers true for every input. No condition. -/
import Derived.Test.YtfichkokppbipaaGreatDoorC4
set_option linter.unusedVariables false
set_option linter.unusedSimpArgs false
set_option linter.unusedSectionVars false
/- The reference's components. No condition. -/
namespace Go.Proofs.YtfichkokppbipaaGreatDoor
attribute [local irreducible] aM

def prs (ls : List LK) : List (Nat × Nat) := ls.map fun l => (l.f.toNat, l.t.toNat)
theorem nJ (n : Nat) (ls : List LK) : pJ n ls = j6 n (prs ls) := by
 rw [pJ, j6, prs, List.foldl_map]
theorem za (ps : List (Nat × Nat)) (p : Nat × Nat) (L : List Nat) : rxs (ps ++ [p]) L = rx1 (rxs ps L) p := by
 rw [rxs, List.foldl_append]; rfl
theorem zS {ls : List LK} {j : Nat} (h : j < ls.length) : prs (ls.take (j + 1)) = prs (ls.take j) ++ [(ls[j].f.toNat, ls[j].t.toNat)] := by
 rw [prs, List.take_succ_eq_append_getElem h, List.map_append]; rfl

theorem vB (g : GR) (hl : g.links.length <= 9223372036854775806) : Con Tryz.prog 72 [AG g.cs] { v := .tup [.one (.d (dNs (d8 g).1)), .one (.d (lI (d8 g).2))] } := by
 refine Z3 Tryz.func72 ?_
 intro w0 X
 rw [aq _ _ [(0, AG g.cs)] rfl rfl];refine gQ fun _ O=>?_;refine aF rfl rfl rfl rfl rfl rfl ?_;refine Z8 ?_;refine Z8 ?_;refine eQ O ?_;clear O;refine ag ?_;refine gQ fun _ O=>?_;refine Z7 ?_;refine ac rfl rfl (eH g hl) rfl rfl rfl rfl ?_;refine dz rfl rfl rfl ?_;refine eQ O ?_;clear O;refine ap rfl (fun hc => ?_) (fun hc => ?_)
 ·rw [Bool.not_eq_true'] at hc
  have e : d8 g = ([], 1) := by rw [d8, if_neg (by rw [hc]; simp)]
  rw [e];refine gQ fun _ O=>?_;refine Z8 ?_;refine Z8 ?_;refine eQ O ?_;clear O;exact al aP
 rw [Bool.not_eq_false'] at hc
 have gv := bJ.1 hc
 obtain ⟨m, hm⟩ : ∃ m, g.nodes.length = m + 1 := ⟨g.nodes.length - 1, by have := gv.n1; omega⟩
 have n16 := gv.n2
 have l48 := gv.l
 have hps : ∀ p ∈ prs g.links, p.1 < m + 1 /\ p.2 < m + 1 := by
  intro p hp
  obtain ⟨l, hl', rfl⟩ := List.mem_map.1 hp
  have lv := (b6.1 (gv.lk l hl')).fn
  rw [hm] at lv;exact lv.2
 have hmin := BH (m + 1) (prs g.links) hps
 have hle : ∀ v, v < m + 1 -> (rxN (prs g.links) (m + 1) (List.range (m + 1))).getD v 0 <= v := fun v hv => by
  rw [hmin v hv]; exact rJ (sa _ _).1 v
 have e : d8 g = ((eW (fun v => (rxN (prs g.links) (m + 1) (List.range (m + 1))).getD v 0) (m + 1)).1, 0) := by
  rw [d8, if_pos hc, kq, hm, nJ, <- Cc, pL fun u hu => (hmin u hu).symm]
 have hN : ∀ r, (rxN (prs g.links) r (List.range (m + 1))).length = m + 1 := fun r => by rw [pq, List.length_range]
 have eall : g.links.take g.links.length = g.links := List.take_length
 rw [e];refine ak ?_;show AWP _ _ _ _ _ _;refine gQ fun _ O=>?_;refine Z8 ?_;refine eQ O ?_;clear O;refine ag ?_;refine gQ fun _ O=>?_;refine Z8 ?_;refine eQ O ?_;clear O;refine aj (aI (α := Nat) (fun i => mk 106 [(1, .ptr 1 0), (4, bD 200 1 i), (5, dI i)] [(1, some (.box g.cs)), (200, bB 1 ((List.range i).map cN) i)] []) (fun i => i <= m + 1) (fun i => m + 1 - i) 0 ?_ (Nat.zero_le _) ?_)
 ·exact Wk.mk' ⟨rfl, rfl, rfl, trivial⟩ ⟨rfl, rfl, trivial⟩
 intro i hi
 refine ag ?_;refine gQ fun _ O=>?_;refine Z9 ?_;refine Z5 ?_;refine Z7 ?_;refine az rfl (a8 RW.dc rfl rfl) rfl ?_;refine Z6 ?_;refine eQ O ?_;clear O;refine ap rfl (fun hg => ?_) (fun hg => ?_)
 ·have hg : i < m + 1 := by simp at hg; omega
  have n1 : (List.range i).map cN ++ [cN i] = (List.range (i + 1)).map cN := by rw [List.range_succ, List.map_append]; rfl
  have z1 : ((List.range i).map cN).length = i := by simp
  generalize (List.range i).map cN = es at n1 z1 ⊢;refine ak ?_;show AWP _ _ _ _ _ _;refine ag ?_;refine aj ?_
  rcases i with _ | i
  ·refine gR fun _ O=>?_;refine Z9 ?_;refine Z9 ?_;refine aw rfl rfl rfl rfl ?_;refine aO rfl (da rfl rfl rfl rfl rfl (by decide) (Nat.le_of_ble_eq_true rfl) rfl (by simp) rfl (by simp) (by simp)) rfl rfl rfl ?_;refine Z8 ?_;refine eQ O ?_;clear O;show AWP _ _ _ _ _ _;refine gR fun _ O=>?_;refine Z9 ?_;refine au rfl (aE (c := ((0 + 1 : Nat) : Int)) (by omega) (by omega)) rfl ?_;refine Z8 ?_;refine eQ O ?_;clear O;refine ⟨0 + 1, by omega, hg, Wk.rn [1, 5, 4] [1, 25] 25 200 rfl rfl rfl ⟨rfl, ?_, rfl, trivial⟩ ⟨rfl, ?_, trivial⟩⟩
   ·first
     | rfl
     | (show SV.val (.one (.own 200 1 0 _)) = _
        rw [List.length_append, z1]; rfl)
   ·first
     | (rw [<- n1, List.length_eq_zero_iff.1 z1]; rfl)
     | (rw [<- n1]; rfl)
  ·refine gR fun _ O=>?_;refine Z9 ?_;refine Z9 ?_;refine aw rfl rfl rfl rfl ?_;refine aO rfl (eI rfl rfl rfl rfl rfl rfl (by decide) (Nat.le_of_ble_eq_true rfl) rfl (by simp) rfl rfl z1.symm (by simp <;> omega)) rfl rfl rfl ?_;refine Z8 ?_;refine eQ O ?_;clear O;show AWP _ _ _ _ _ _;refine gR fun _ O=>?_;refine Z9 ?_;refine au rfl (aE (c := ((i + 1 + 1 : Nat) : Int)) (by omega) (by omega)) rfl ?_;refine Z8 ?_;refine eQ O ?_;clear O;refine ⟨i + 1 + 1, by omega, hg, Wk.rn [1, 5, 4] [1, 25] 25 200 rfl rfl rfl ⟨rfl, ?_, rfl, trivial⟩ ⟨rfl, ?_, trivial⟩⟩
   ·first
     | rfl
     | (show SV.val (.one (.own 200 1 0 _)) = _
        rw [List.length_append, z1]; rfl)
   ·first
     | (rw [<- n1, List.length_eq_zero_iff.1 z1]; rfl)
     | (rw [<- n1]; rfl)
 have hi' : i = m + 1 := by simp at hg; omega
 subst hi'
 clear hg hi;refine aA ?_;show AWP _ _ _ _ _ _;refine ag ?_;refine gQ fun _ O=>?_;refine Z8 ?_;refine eQ O ?_;clear O;refine aj (aI (α := Nat) (fun r => mk 106 [(1, .ptr 1 0), (4, .val (.one (.own 200 1 0 (m + 1)))), (6, dI r)] [(1, some (.box g.cs)), (200, some (.arr 1 ((rxN (prs g.links) r (List.range (m + 1))).map cN)))] []) (fun r => r <= m + 1) (fun r => m + 1 - r) 0 ?_ (Nat.zero_le _) ?_)
 ·exact Wk.mk' ⟨rfl, rfl, rfl, trivial⟩ ⟨rfl, rfl, trivial⟩
 intro r hr
 refine ag ?_;refine gQ fun _ O=>?_;refine Z9 ?_;refine Z5 ?_;refine Z7 ?_;refine az rfl (a8 RW.dc rfl rfl) rfl ?_;refine Z6 ?_;refine eQ O ?_;clear O;refine ap rfl (fun hg => ?_) (fun hg => ?_)
 ·have hg : r < m + 1 := by simp at hg; omega
  have hL := hN r
  have hR : rxN (prs g.links) (r + 1) (List.range (m + 1)) = rxs (prs g.links) (rxN (prs g.links) r (List.range (m + 1))) := rfl
  generalize rxN (prs g.links) r (List.range (m + 1)) = L0 at hL hR ⊢;refine ak ?_;show AWP _ _ _ _ _ _;refine ag ?_;refine aj ?_;refine gQ fun _ O=>?_;refine Z8 ?_;refine eQ O ?_;clear O;refine aj (aI (α := Nat) (fun j => mk 106 [(1, .ptr 1 0), (4, .val (.one (.own 200 1 0 (m + 1)))), (6, dI r), (7, dI j)] [(1, some (.box g.cs)), (200, some (.arr 1 ((rxs (prs (g.links.take j)) L0).map cN)))] []) (fun j => j <= g.links.length) (fun j => g.links.length - j) 0 ?_ (Nat.zero_le _) ?_)
  ·exact Wk.mk' ⟨rfl, rfl, rfl, rfl, trivial⟩ ⟨rfl, rfl, trivial⟩
  intro j hj
  refine ag ?_;refine gQ fun _ O=>?_;refine Z9 ?_;refine Z5 ?_;refine Z7 ?_;refine az rfl (a8 LK.dc rfl rfl) rfl ?_;refine Z6 ?_;refine eQ O ?_;clear O;refine ap rfl (fun hx => ?_) (fun hx => ?_)
  ·have hx : j < g.links.length := by simp at hx; omega
   have lv := b6.1 (gv.lk _ (List.getElem_mem hx))
   rw [hm] at lv
   have hsn : rxs (prs (g.links.take (j + 1))) L0 = rx1 (rxs (prs (g.links.take j)) L0) (g.links[j].f.toNat, g.links[j].t.toNat) := by
    rw [zS hx, za]
   obtain ⟨l, el⟩ : ∃ l, l = g.links[j] := ⟨_, rfl⟩
   rw [<- el] at lv hsn
   have hlen : (rxs (prs (g.links.take j)) L0).length = m + 1 := by rw [po, hL]
   generalize rxs (prs (g.links.take j)) L0 = L at hsn hlen ⊢
   have e1 : l.f = ((l.f.toNat : Nat) : Int) := by have := lv.f; omega
   have e2 : l.t = ((l.t.toNat : Nat) : Int) := by have := lv.t; omega
   have hf : l.f.toNat < m + 1 := lv.fn.2.1
   have ht : l.t.toNat < m + 1 := lv.fn.2.2
   generalize l.f.toNat = f at hsn e1 hf;generalize l.t.toNat = t at hsn e2 ht
   have hf' : f < L.length := by omega
   have ht' : t < L.length := by omega
   have ht2 : t < (L.set f (min (L.getD f 0) (L.getD t 0))).length := by rw [List.length_set]; exact ht'
   refine ak ?_;show AWP _ _ _ _ _ _;refine ag ?_;refine aj ?_;refine aH tok mixed (A := [[], [], [], [], [1], [1, 2, 3], [1, 2, 3, 4], [1, 2, 3, 4, 5], [0, 1, 2, 3, 4, 5, 6], [], [], [], [], [10], [10, 11, 12], [10, 11, 12, 13], [10, 11, 12, 13, 14], [9, 10, 11, 12, 13, 14, 15], [0, 1, 2, 3, 4, 5, 6, 7, 9, 10, 11, 12, 13, 14, 15, 16], []]) (an := [{}, {}, {}, {}, {}, {}, {}, {}, {}, {}, {}, {}, {}, {}, {}, {}, {}, {}, {}, {}]) rfl (by kernel_rfl) rfl fun _ O=>?_;refine Z9 ?_;refine Z5 ?_;refine Z7 ?_;refine Z9 ?_;refine ab rfl (x_m LK.dc rfl rfl rfl rfl hx rfl) rfl ?_;refine Z5 ?_;refine aQ rfl (by rw [<- el]; rfl) rfl ?_;refine ab rfl (x_o (i := f) (j := f) rfl rfl rfl rfl e1 hf (Nat.zero_add _)) rfl ?_;refine aQ rfl (l_N rfl rfl rfl rfl hf') rfl ?_;refine Z9 ?_;refine Z5 ?_;refine Z7 ?_;refine Z9 ?_;refine ab rfl (x_m LK.dc rfl rfl rfl rfl hx rfl) rfl ?_;refine Z5 ?_;refine aQ rfl (by rw [<- el]; rfl) rfl ?_;refine ab rfl (x_o (i := t) (j := t) rfl rfl rfl rfl e2 ht (Nat.zero_add _)) rfl ?_;refine aQ rfl (l_N rfl rfl rfl rfl ht') rfl ?_;refine az rfl (Ea _ _) rfl ?_;refine Z8 ?_;refine eQ O ?_;clear O;refine gQ fun _ O=>?_;refine Z9 ?_;refine Z5 ?_;refine Z7 ?_;refine Z9 ?_;refine ab rfl (x_m LK.dc rfl rfl rfl rfl hx rfl) rfl ?_;refine Z5 ?_;refine aQ rfl (by rw [<- el]; rfl) rfl ?_;refine Z9 ?_;refine ab rfl (x_o (i := f) (j := f) rfl rfl rfl rfl e1 hf (Nat.zero_add _)) rfl ?_;refine ah rfl (EJ rfl rfl rfl hf' rfl) rfl rfl rfl ?_;refine eQ O ?_;clear O;refine gR fun _ O=>?_;refine Z9 ?_;refine Z5 ?_;refine Z7 ?_;refine Z9 ?_;refine ab rfl (x_m LK.dc rfl rfl rfl rfl hx rfl) rfl ?_;refine Z5 ?_;refine aQ rfl (by rw [<- el]; rfl) rfl ?_;refine Z9 ?_;refine ab rfl (x_o (i := t) (j := t) rfl rfl rfl rfl e2 ht (Nat.zero_add _)) rfl ?_;refine ah rfl (EJ rfl rfl rfl ht2 rfl) rfl rfl rfl ?_;refine eQ O ?_;clear O;show AWP _ _ _ _ _ _;refine gR fun _ O=>?_;refine Z9 ?_;refine au rfl (aE (c := ((j + 1 : Nat) : Int)) (by omega) (by omega)) rfl ?_;refine Z8 ?_;refine eQ O ?_;clear O;refine ⟨j + 1, by omega, hx, Wk.mk' ⟨rfl, rfl, rfl, rfl, trivial⟩ ⟨rfl, ?_, trivial⟩⟩;rw [hsn]; rfl
  ·have hx : j = g.links.length := by simp at hx; omega
   subst hx
   refine aA ?_;show AWP _ _ _ _ _ _;rw [eall];refine gR fun _ O=>?_;refine Z9 ?_;refine au rfl (aE (c := ((r + 1 : Nat) : Int)) (by omega) (by omega)) rfl ?_;refine Z8 ?_;refine eQ O ?_;clear O;exact ⟨r + 1, by omega, hg, Wk.mk' ⟨rfl, rfl, rfl, trivial⟩ ⟨rfl, by rw [hR]; rfl, trivial⟩⟩
 have hr' : r = m + 1 := by simp at hg; omega
 subst hr'
 clear hg hr
 have hL := hN (m + 1)
 clear hN hmin;generalize rxN (prs g.links) (m + 1) (List.range (m + 1)) = L at hL hle ⊢;refine aA ?_;show AWP _ _ _ _ _ _;refine gQ fun _ O=>?_;refine Z8 ?_;refine eQ O ?_;clear O;refine gQ fun _ O=>?_;refine Z8 ?_;refine eQ O ?_;clear O;refine ag ?_;refine gQ fun _ O=>?_;refine Z8 ?_;refine eQ O ?_;clear O
 have hnl : ∀ v, (eW (fun v => L.getD v 0) v).1.length = v := by
  intro v
  induction v with
  | zero => rfl
  | succ v ih =>
   rw [eW]
   split
   ·show (_ ++ [_]).length = v + 1
    rw [List.length_append, ih]; rfl
   ·show (_ ++ [_]).length = v + 1
    rw [List.length_append, ih]; rfl
 have hn2 : ∀ v, (eW (fun v => L.getD v 0) v).2 <= v := by
  intro v
  induction v with
  | zero => exact Nat.le_refl _
  | succ v ih =>
   rw [eW]
   split
   ·show (eW _ v).2 + 1 <= v + 1; omega
   ·show (eW _ v).2 <= v + 1; omega
 refine aj (aI (α := Nat) (fun i => mk 106 [(4, .val (.one (.own 200 1 0 (m + 1)))), (9, bD 201 1 i), (10, dI (eW (fun v => L.getD v 0) i).2), (11, dI i)] [(200, some (.arr 1 (L.map cN))), (201, bB 1 ((eW (fun v => L.getD v 0) i).1.map cN) i)] []) (fun i => i <= m + 1) (fun i => m + 1 - i) 0 ?_ (Nat.zero_le _) ?_)
 ·exact Wk.mk' ⟨rfl, rfl, rfl, rfl, trivial⟩ ⟨rfl, rfl, trivial⟩
 intro i hi
 refine ag ?_;refine gQ fun _ O=>?_;refine Z9 ?_;refine Z9 ?_;refine az rfl rfl rfl ?_;refine Z6 ?_;refine eQ O ?_;clear O;refine ap rfl (fun hg => ?_) (fun hg => ?_)
 ·have hg : i < m + 1 := by simp at hg; omega
  have hiL : i < L.length := by omega
  have z1 := hnl i
  have z2 := hn2 i
  have hlv := hle i hg
  have hstep : eW (fun v => L.getD v 0) (i + 1) = if L.getD i 0 = i then ((eW (fun v => L.getD v 0) i).1 ++ [(eW (fun v => L.getD v 0) i).2], (eW (fun v => L.getD v 0) i).2 + 1) else ((eW (fun v => L.getD v 0) i).1 ++ [(eW (fun v => L.getD v 0) i).1.getD (L.getD i 0) 0], (eW (fun v => L.getD v 0) i).2) := rfl
  generalize eW (fun v => L.getD v 0) i = q at z1 z2 hstep ⊢
  obtain ⟨os, nx⟩ := q
  simp only at z1 z2 hstep
  refine ak ?_;show AWP _ _ _ _ _ _;refine ag ?_;refine aj ?_;refine gQ fun _ O=>?_;refine Z9 ?_;refine Z9 ?_;refine ab rfl (x_o (i := i) (j := i) rfl rfl rfl rfl rfl hg (Nat.zero_add _)) rfl ?_;refine aQ rfl (l_N rfl rfl rfl rfl hiL) rfl ?_;refine Z9 ?_;refine Z6 ?_;refine eQ O ?_;clear O;refine ap rfl (fun hx => ?_) (fun hx => ?_)
  ·have hx : L.getD i 0 = i := by simp only [beq_iff_eq] at hx; omega
   rw [if_pos hx] at hstep
   rcases i with _ | i
   ·refine gQ fun _ O=>?_;refine Z9 ?_;refine Z9 ?_;refine aw rfl rfl rfl rfl ?_;refine aO rfl (da rfl rfl rfl rfl rfl (by decide) (Nat.le_of_ble_eq_true rfl) rfl (by simp) rfl (by simp) (by simp)) rfl rfl rfl ?_;refine Z8 ?_;refine eQ O ?_;clear O;refine gR fun _ O=>?_;refine Z9 ?_;refine au rfl (aE (c := ((nx + 1 : Nat) : Int)) (by omega) (by omega)) rfl ?_;refine Z8 ?_;refine eQ O ?_;clear O;show AWP _ _ _ _ _ _;refine gR fun _ O=>?_;refine Z9 ?_;refine au rfl (aE (c := ((0 + 1 : Nat) : Int)) (by omega) (by omega)) rfl ?_;refine Z8 ?_;refine eQ O ?_;clear O;refine ⟨0 + 1, by omega, hg, Wk.rn [4, 10, 11, 9] [200, 92] 92 201 rfl rfl rfl ⟨rfl, ?_, ?_, rfl, trivial⟩ ⟨rfl, ?_, trivial⟩⟩
    ·first
      | rfl
      | (show SV.val (.one (.own 201 1 0 _)) = _
         rw [List.length_append, List.length_map, z1]; rfl)
    ·rw [hstep]; rfl
    ·rw [hstep]
     first
      | (rw [List.length_eq_zero_iff.1 z1]; rfl)
      | (rw [List.map_append]; rfl)
   ·refine gQ fun _ O=>?_;refine Z9 ?_;refine Z9 ?_;refine aw rfl rfl rfl rfl ?_;refine aO rfl (eI rfl rfl rfl rfl rfl rfl (by decide) (Nat.le_of_ble_eq_true rfl) rfl (by simp) rfl rfl (by rw [List.length_map, z1]) (by simp <;> omega)) rfl rfl rfl ?_;refine Z8 ?_;refine eQ O ?_;clear O;refine gR fun _ O=>?_;refine Z9 ?_;refine au rfl (aE (c := ((nx + 1 : Nat) : Int)) (by omega) (by omega)) rfl ?_;refine Z8 ?_;refine eQ O ?_;clear O;show AWP _ _ _ _ _ _;refine gR fun _ O=>?_;refine Z9 ?_;refine au rfl (aE (c := ((i + 1 + 1 : Nat) : Int)) (by omega) (by omega)) rfl ?_;refine Z8 ?_;refine eQ O ?_;clear O;refine ⟨i + 1 + 1, by omega, hg, Wk.rn [4, 10, 11, 9] [200, 92] 92 201 rfl rfl rfl ⟨rfl, ?_, ?_, rfl, trivial⟩ ⟨rfl, ?_, trivial⟩⟩
    ·first
      | rfl
      | (show SV.val (.one (.own 201 1 0 _)) = _
         rw [List.length_append, List.length_map, z1]; rfl)
    ·rw [hstep]; rfl
    ·rw [hstep]
     first
      | (rw [List.length_eq_zero_iff.1 z1]; rfl)
      | (rw [List.map_append]; rfl)
  ·have hx : ¬ L.getD i 0 = i := by simp only [beq_eq_false_iff_ne, ne_eq] at hx; omega
   rw [if_neg hx] at hstep
   rcases i with _ | i
   ·omega
   have hlt : L.getD (i + 1) 0 < i + 1 := by omega
   have hlo : L.getD (i + 1) 0 < os.length := by omega
   refine gR fun _ O=>?_;refine Z9 ?_;refine Z9 ?_;refine Z9 ?_;refine Z9 ?_;refine ab rfl (x_o (i := i + 1) (j := i + 1) rfl rfl rfl rfl rfl hg (Nat.zero_add _)) rfl ?_;refine aQ rfl (l_N rfl rfl rfl rfl hiL) rfl ?_;refine ab rfl (x_o (i := L.getD (i + 1) 0) (j := L.getD (i + 1) 0) rfl rfl rfl rfl rfl hlt (Nat.zero_add _)) rfl ?_;refine aQ rfl (l_N rfl rfl rfl rfl hlo) rfl ?_;refine aw rfl rfl rfl rfl ?_;refine aO rfl (eI rfl rfl rfl rfl rfl rfl (by decide) (Nat.le_of_ble_eq_true rfl) rfl (by simp) rfl rfl (by rw [List.length_map, z1]) (by simp <;> omega)) rfl rfl rfl ?_;refine Z8 ?_;refine eQ O ?_;clear O;show AWP _ _ _ _ _ _;refine gR fun _ O=>?_;refine Z9 ?_;refine au rfl (aE (c := ((i + 1 + 1 : Nat) : Int)) (by omega) (by omega)) rfl ?_;refine Z8 ?_;refine eQ O ?_;clear O;refine ⟨i + 1 + 1, by omega, hg, Wk.rn [4, 10, 11, 9] [200, 104] 104 201 rfl rfl rfl ⟨rfl, ?_, ?_, rfl, trivial⟩ ⟨rfl, ?_, trivial⟩⟩
   ·show SV.val (.one (.own 201 1 0 _)) = _
    rw [List.length_append, List.length_map, z1]; rfl
   ·rw [hstep]; rfl
   ·rw [hstep, List.map_append]; rfl
 have hi' : i = m + 1 := by simp at hg; omega
 subst hi'
 refine aA ?_;show AWP _ _ _ _ _ _;refine cQ [9] [201] 201 [(9, V1 (dNs (eW (fun v => L.getD v 0) (m + 1)).1))] [] rfl ⟨?_, trivial⟩ trivial ?_
 ·exact bz rfl (by rw [List.length_map, hnl])
 refine gQ fun _ O=>?_;refine Z9 ?_;refine Z8 ?_;refine Z8 ?_;refine eQ O ?_;clear O;exact al aP

end Go.Proofs.YtfichkokppbipaaGreatDoor

/- The reference's normal equations. No condition. -/
namespace Go.Proofs.YtfichkokppbipaaGreatDoor
attribute [local irreducible] aM

def cfN (i : Nat) (l : LK) : Int := if l.f = (i : Int) then -l.w else if l.t = (i : Int) then l.w else 0
theorem Cd (x a : Rat) (w : Int) : x + a * (w : Rat) = x + (w : Rat) * a := by rw [Rat.mul_comm]
theorem vL {g : GR} {n : Nat} (p : (Nat -> Rat) × (Nat -> Rat)) {l : LK} (lv : LV n l) (i : Nat) :
  (nrS g p l).1 i = p.1 i + ((cfN i l : Int) : Rat) * alX (frN g l) l /\ (nrS g p l).2 i = p.2 i + ((cfN i l : Int) : Rat) * alY (frN g l) l := by
 have h1 := lv.f
 have h2 := lv.t
 have h3 := lv.fn.1
 simp only [nrS, iZ, cfN]
 by_cases hf : l.f = (i : Int)
 ·have hi : i = l.f.toNat := by omega
  rw [if_pos hf, if_pos hi, if_neg (by omega), if_pos hi, if_neg (by omega), hi];exact ⟨Cd _ _ _, Cd _ _ _⟩
 ·by_cases ht : l.t = (i : Int)
  ·have hi : i = l.t.toNat := by omega
   rw [if_neg hf, if_pos ht, if_neg (by omega), if_pos hi, if_neg (by omega), if_pos hi, hi];exact ⟨Cd _ _ _, Cd _ _ _⟩
  ·rw [if_neg hf, if_neg ht, if_neg (by omega), if_neg (by omega), if_neg (by omega), if_neg (by omega)]
   constructor <;> grind
theorem zY (n : Nat) (M : Nat -> Nat -> Int) (k : Nat) : (nrM n M k).map cM ++ [cM ((gb n M (k + 1)).drop 1)] = (nrM n M (k + 1)).map cM := by
 rw [nrM, nrM, List.range_succ (n := k), List.map_append, List.map_append]; rfl
theorem uD (X : Nat -> Rat) (k : Nat) : (nrX X k).map RW.dc ++ [(qzW (X (k + 1))).dc] = (nrX X (k + 1)).map RW.dc := by
 rw [nrX, nrX, List.range_succ (n := k), List.map_append, List.map_append]; rfl

theorem ul (g : GR) (ok : ∀ r ∈ g.nodes, r.OK 4096) (hl : g.links.length <= 9223372036854775806) :
  Con Tryz.prog 73 [AG g.cs] { v := .tup [.one (.d (dMs (nrV g).1)), .one (.d (dRs (nrV g).2.1)), .one (.d (dRs (nrV g).2.2.1)), .one (.d (lI (nrV g).2.2.2))] } := by
 refine Z3 Tryz.func73 ?_
 intro w0 X
 rw [aq _ _ [(0, AG g.cs)] rfl rfl]
 have cl := zC g hl
 cases hc : bQ g with
 | false =>
  have e : nrV g = ([], [], [], 1) := by rw [nrV, if_neg (by rw [hc]; simp)]
  have e2 : qH g = ([], 1) := by rw [qH, if_neg (by rw [hc]; simp)]
  rw [e2] at cl;rw [e];refine gQ fun _ O=>?_;refine aF rfl rfl rfl rfl rfl rfl ?_;refine Z8 ?_;refine Z8 ?_;refine Z8 ?_;refine Z8 ?_;refine eQ O ?_;clear O;refine gQ fun _ O=>?_;refine Z7 ?_;refine ac rfl rfl (cl) rfl rfl rfl rfl ?_;refine Z9 ?_;refine am rfl rfl rfl ?_;refine am rfl rfl rfl ?_;refine Z8 ?_;refine Z8 ?_;refine eQ O ?_;clear O;refine ag ?_;refine gQ fun _ O=>?_;refine Z9 ?_;refine Z6 ?_;refine eQ O ?_;clear O;refine ap rfl (fun hx => ?_) (fun hx => ?_)
  ·refine gQ fun _ O=>?_;refine Z9 ?_;refine Z8 ?_;refine Z8 ?_;refine Z8 ?_;refine Z8 ?_;refine eQ O ?_;clear O;exact al aP
  ·exact absurd (show ((1 : Int) != 0) = false from hx) (by decide)
 | true =>
  have gv := bJ.1 hc
  obtain ⟨m, hm⟩ : ∃ m, g.nodes.length = m + 1 := ⟨g.nodes.length - 1, by have := gv.n1; omega⟩
  have n16 := gv.n2
  have l48 := gv.l
  have e2 : qH g = (dS (m + 1) (lapM g.links), 0) := by rw [qH, if_pos hc, hm]
  have e : nrV g = (nrM (m + 1) (lapM g.links) m, nrX (nrL g g.links).1 m, nrX (nrL g g.links).2 m, 0) := by rw [nrV, if_pos hc, hm]; rfl
  rw [e2] at cl;rw [e]
  have e0 := em 0 ⟨by decide, by decide⟩
  have eall : g.links.take g.links.length = g.links := List.take_length
  have hbd : ∀ j, j <= g.links.length -> ∀ i, ql ((nrL g (g.links.take j)).1 i) <= 2097152 /\ ql ((nrL g (g.links.take j)).2 i) <= 2097152 := by
   intro j hj i
   have := z6 gv ok j hj i
   omega
  have hQ : ∀ i (h : i < (dS (m + 1) (lapM g.links)).length), (dS (m + 1) (lapM g.links))[i] = gb (m + 1) (lapM g.links) i := fun i h => Ai h
  have hQl : (dS (m + 1) (lapM g.links)).length = m + 1 := Ah _ _
  refine gQ fun _ O=>?_;refine aF rfl rfl rfl rfl rfl rfl ?_;refine Z8 ?_;refine Z8 ?_;refine Z8 ?_;refine Z8 ?_;refine eQ O ?_;clear O;refine gQ fun _ O=>?_;refine Z7 ?_;refine ac rfl rfl (cl) rfl rfl rfl rfl ?_;refine Z9 ?_;refine am rfl rfl rfl ?_;refine am rfl rfl rfl ?_;refine Z8 ?_;refine Z8 ?_;refine eQ O ?_;clear O;refine ag ?_;refine gQ fun _ O=>?_;refine Z9 ?_;refine Z6 ?_;refine eQ O ?_;clear O;refine ap rfl (fun hx => ?_) (fun hx => ?_)
  ·exact absurd (show ((0 : Int) != 0) = true from hx) (by decide)
  refine ak ?_;show AWP _ _ _ _ _ _;refine gQ fun _ O=>?_;refine Z8 ?_;refine eQ O ?_;clear O;refine gQ fun _ O=>?_;refine Z8 ?_;refine eQ O ?_;clear O;refine gQ fun _ O=>?_;refine Z8 ?_;refine eQ O ?_;clear O;refine ag ?_;refine gQ fun _ O=>?_;refine Z8 ?_;refine eQ O ?_;clear O;refine aj (aI (α := Nat) (fun k => mk 109 [(1, .ptr 1 0), (6, V1 (dMs (dS (m + 1) (lapM g.links)))), (8, bD 200 1 k), (9, bD 201 4 k), (10, bD 202 4 k), (11, dI (k + 1 : Nat))] [(1, some (.box g.cs)), (200, bB 1 ((nrM (m + 1) (lapM g.links) k).map cM) k), (201, bB 4 ((nrX (nrL g g.links).1 k).map RW.dc) k), (202, bB 4 ((nrX (nrL g g.links).2 k).map RW.dc) k)] []) (fun k => k <= m) (fun k => m - k) 0 ?_ (Nat.zero_le _) ?_)
  ·exact Wk.mk' ⟨rfl, rfl, rfl, rfl, rfl, rfl, trivial⟩ ⟨rfl, rfl, rfl, rfl, trivial⟩
  intro k hk
  refine ag ?_;refine gQ fun _ O=>?_;refine Z9 ?_;refine Z9 ?_;refine az rfl (a8 cM rfl rfl) rfl ?_;refine Z6 ?_;refine eQ O ?_;clear O;rw [hQl];refine ap rfl (fun hg => ?_) (fun hg => ?_)
  ·have hg : k < m := by simp at hg; omega
   have hkQ : k + 1 < (dS (m + 1) (lapM g.links)).length := by rw [hQl]; omega
   have n1 := zY (m + 1) (lapM g.links) k
   have n2 := uD (nrL g g.links).1 k
   have n3 := uD (nrL g g.links).2 k
   have z1 : ((nrM (m + 1) (lapM g.links) k).map cM).length = k := by simp [nrM]
   have z2 : ((nrX (nrL g g.links).1 k).map RW.dc).length = k := by simp [nrX]
   have z3 : ((nrX (nrL g g.links).2 k).map RW.dc).length = k := by simp [nrX]
   generalize (nrM (m + 1) (lapM g.links) k).map cM = es at n1 z1 ⊢;generalize (nrX (nrL g g.links).1 k).map RW.dc = xs at n2 z2 ⊢;generalize (nrX (nrL g g.links).2 k).map RW.dc = ys at n3 z3 ⊢
   have hlr : (gb (m + 1) (lapM g.links) (k + 1)).length = m + 1 := Ag _ _ _
   refine ak ?_;show AWP _ _ _ _ _ _;refine ag ?_;refine aj ?_;refine aT (α := Unit) (fun _ => mk 109 [(1, .ptr 1 0), (6, V1 (dMs (dS (m + 1) (lapM g.links)))), (8, .val (.one (.own 200 1 0 (k + 1)))), (9, bD 201 4 k), (10, bD 202 4 k), (11, dI (k + 1 : Nat))] [(1, some (.box g.cs)), (200, some (.arr 1 ((nrM (m + 1) (lapM g.links) (k + 1)).map cM))), (201, bB 4 xs k), (202, bB 4 ys k)] []) (fun _ => True) ?_ ?_
   ·rcases k with _ | k
    ·refine gR fun _ O=>?_;refine Z9 ?_;refine Z9 ?_;refine Z9 ?_;refine ab rfl (x_m cM rfl rfl rfl rfl hkQ rfl) rfl ?_;refine aQ rfl (by rw [hQ _ hkQ]; rfl) rfl ?_;refine ie rfl rfl rfl (BA (l := gb (m + 1) (lapM g.links) (0 + 1)) RW.dc rfl rfl rfl (by rw [List.length_map]) (by rw [hlr]; omega) (fun _ => rfl)) rfl ?_;refine aw rfl rfl rfl rfl ?_;refine aO rfl (da rfl rfl rfl rfl rfl (by decide) (Nat.le_of_ble_eq_true rfl) rfl (by simp) rfl (by simp) (by simp)) rfl rfl rfl ?_;refine Z8 ?_;refine eQ O ?_;clear O;refine ⟨(), trivial, Wk.rn [1, 6, 9, 10, 11, 8] [1, 201, 202, 39] 39 200 rfl rfl rfl ⟨rfl, rfl, ?_, rfl, rfl, rfl, trivial⟩ ⟨rfl, ?_, rfl, rfl, trivial⟩⟩
     ·first
       | rfl
       | (show SV.val (.one (.own 200 1 0 _)) = _
          rw [List.length_append, z1]; rfl)
     ·first
       | (rw [<- n1, List.length_eq_zero_iff.1 z1]; rfl)
       | (rw [<- n1]; rfl)
    ·refine gR fun _ O=>?_;refine Z9 ?_;refine Z9 ?_;refine Z9 ?_;refine ab rfl (x_m cM rfl rfl rfl rfl hkQ rfl) rfl ?_;refine aQ rfl (by rw [hQ _ hkQ]; rfl) rfl ?_;refine ie rfl rfl rfl (BA (l := gb (m + 1) (lapM g.links) (k + 1 + 1)) RW.dc rfl rfl rfl (by rw [List.length_map]) (by rw [hlr]; omega) (fun _ => rfl)) rfl ?_;refine aw rfl rfl rfl rfl ?_;refine aO rfl (eI rfl rfl rfl rfl rfl rfl (by decide) (Nat.le_of_ble_eq_true rfl) rfl (by simp) rfl rfl z1.symm (by simp <;> omega)) rfl rfl rfl ?_;refine Z8 ?_;refine eQ O ?_;clear O;refine ⟨(), trivial, Wk.rn [1, 6, 9, 10, 11, 8] [1, 201, 202, 39] 39 200 rfl rfl rfl ⟨rfl, rfl, ?_, rfl, rfl, rfl, trivial⟩ ⟨rfl, ?_, rfl, rfl, trivial⟩⟩
     ·first
       | rfl
       | (show SV.val (.one (.own 200 1 0 _)) = _
          rw [List.length_append, z1]; rfl)
     ·first
       | (rw [<- n1, List.length_eq_zero_iff.1 z1]; rfl)
       | (rw [<- n1]; rfl)
   rintro - -
   obtain ⟨es', hes⟩ : ∃ es', es' = (nrM (m + 1) (lapM g.links) (k + 1)).map cM := ⟨_, rfl⟩
   rw [<- hes];refine gQ fun _ O=>?_;refine ac rfl rfl (e0) rfl rfl rfl rfl ?_;refine ar rfl rfl rfl rfl rfl (by rcases k with _|k <;> rfl) ?_;refine ah rfl rfl rfl rfl rfl ?_;refine eQ O ?_;clear O;refine gQ fun _ O=>?_;refine ac rfl rfl (e0) rfl rfl rfl rfl ?_;refine ar rfl rfl rfl rfl rfl (by rcases k with _|k <;> rfl) ?_;refine ah rfl rfl rfl rfl rfl ?_;refine eQ O ?_;clear O;refine ag ?_;refine gQ fun _ O=>?_;refine Z8 ?_;refine eQ O ?_;clear O;refine aj (aI (α := Nat) (fun j => mk 109 [(1, .ptr 1 0), (6, V1 (dMs (dS (m + 1) (lapM g.links)))), (8, .val (.one (.own 200 1 0 (k + 1)))), (9, bD 201 4 k), (10, bD 202 4 k), (11, dI (k + 1 : Nat)), (12, .ptr 12 0), (13, .ptr 13 0), (14, dI j)] [(1, some (.box g.cs)), (200, some (.arr 1 es')), (201, bB 4 xs k), (202, bB 4 ys k), (12, some (.box (qzW ((nrL g (g.links.take j)).1 (k + 1))).cs)), (13, some (.box (qzW ((nrL g (g.links.take j)).2 (k + 1))).cs))] []) (fun j => j <= g.links.length) (fun j => g.links.length - j) 0 ?_ (Nat.zero_le _) ?_)
   ·exact Wk.mk' ⟨rfl, rfl, rfl, rfl, rfl, rfl, rfl, rfl, rfl, trivial⟩ ⟨rfl, rfl, rfl, rfl, rfl, rfl, trivial⟩
   intro j hj
   refine ag ?_;refine gQ fun _ O=>?_;refine Z9 ?_;refine Z5 ?_;refine Z7 ?_;refine az rfl (a8 LK.dc rfl rfl) rfl ?_;refine Z6 ?_;refine eQ O ?_;clear O;refine ap rfl (fun hx => ?_) (fun hx => ?_)
   ·have hx : j < g.links.length := by simp at hx; omega
    have hml : g.links[j] ∈ g.links := List.getElem_mem hx
    have lv := b6.1 (gv.lk _ hml)
    have hst := vL (g := g) (nrL g (g.links.take j)) lv (k + 1)
    rw [<- kr g hx] at hst
    have hb := hbd j hj (k + 1)
    have ea : gi g (j : Int) = (alS (frN g g.links[j]) g.links[j], 0) := by
     rw [gi, if_pos hc, dif_pos ⟨by omega, by omega⟩]; rfl
    have ca := pD g (j : Int) (fun r hr => (ok r hr).mono rfl) hl
    rw [ea] at ca
    obtain ⟨l, el⟩ : ∃ l, l = g.links[j] := ⟨_, rfl⟩
    rw [<- el] at lv hst ca
    have oa : (alS (frN g l) l).OK 16391 := lR (ok _ (iU lv)) rfl lv.ix lv.iy rfl
    have lw := lv.w
    have hcw : I64 (cfN (k + 1) l) := by unfold cfN; split; exact ⟨by omega, by omega⟩; split; exact ⟨by omega, by omega⟩; exact ⟨by omega, by omega⟩
    have c1 := em (cfN (k + 1) l) hcw
    have q1 := cb hcw
    have ax : (alS (frN g l) l).vx = alX (frN g l) l := dy _ _
    have ay : (alS (frN g l) l).vy = alY (frN g l) l := dx _ _
    have q2 := aC q1 (oa.qx rfl)
    have q3 := aC q1 (oa.qy rfl)
    rw [<- ax, <- ay] at hst
    have c2 := dw (qzW (cfN (k + 1) l : Int)) (alS (frN g l) l).x (((cfN (k + 1) l : Int) : Rat) * (alS (frN g l) l).vx) ((aD q1).mono rfl) (oa.x.mono rfl) (by rw [aR]; rfl)
    have c3 := jI (qzW ((nrL g (g.links.take j)).1 (k + 1))) (qzW (((cfN (k + 1) l : Int) : Rat) * (alS (frN g l) l).vx)) ((nrL g (g.links.take (j + 1))).1 (k + 1)) ((aD hb.1).mono rfl) ((aD q2).mono rfl) (by rw [aR, aR, hst.1])
    have c4 := dw (qzW (cfN (k + 1) l : Int)) (alS (frN g l) l).y (((cfN (k + 1) l : Int) : Rat) * (alS (frN g l) l).vy) ((aD q1).mono rfl) (oa.y.mono rfl) (by rw [aR]; rfl)
    have c5 := jI (qzW ((nrL g (g.links.take j)).2 (k + 1))) (qzW (((cfN (k + 1) l : Int) : Rat) * (alS (frN g l) l).vy)) ((nrL g (g.links.take (j + 1))).2 (k + 1)) ((aD hb.2).mono rfl) ((aD q3).mono rfl) (by rw [aR, aR, hst.2])
    clear hst;generalize (nrL g (g.links.take j)).1 (k + 1) = ux at c3 ⊢;generalize (nrL g (g.links.take j)).2 (k + 1) = uy at c5 ⊢;generalize alS (frN g l) l = d at ca c2 c3 c4 c5;refine ak ?_;show AWP _ _ _ _ _ _;refine ag ?_;refine aj ?_;refine gQ fun _ O=>?_;refine Z7 ?_;refine Z9 ?_;refine ac rfl rfl (ca) rfl rfl rfl rfl ?_;refine Z9 ?_;refine am rfl rfl rfl ?_;refine am rfl rfl rfl ?_;refine ar rfl rfl rfl rfl rfl (by rcases k with _|k <;> rfl) ?_;refine ah rfl rfl rfl rfl rfl ?_;refine Z8 ?_;refine eQ O ?_;clear O;refine gQ fun _ O=>?_;refine Z8 ?_;refine eQ O ?_;clear O;refine aT (α := Int) (fun b => mk 109 [(1, .ptr 1 0), (6, V1 (dMs (dS (m + 1) (lapM g.links)))), (8, .val (.one (.own 200 1 0 (k + 1)))), (9, bD 201 4 k), (10, bD 202 4 k), (11, dI (k + 1 : Nat)), (12, .ptr 12 0), (13, .ptr 13 0), (14, dI j), (15, .ptr 15 0), (17, dI b)] [(1, some (.box g.cs)), (200, some (.arr 1 es')), (201, bB 4 xs k), (202, bB 4 ys k), (12, some (.box (qzW ux).cs)), (13, some (.box (qzW uy).cs)), (15, some (.box d.cs))] []) (fun b => b = if l.t = ((k + 1 : Nat) : Int) then l.w else 0) ?_ ?_
    ·refine gQ fun _ O=>?_;refine Z5 ?_;refine Z7 ?_;refine Z9 ?_;refine ab rfl (x_m LK.dc rfl rfl rfl rfl hx rfl) rfl ?_;refine Z5 ?_;refine aQ rfl (by rw [<- el]; rfl) rfl ?_;refine Z9 ?_;refine Z6 ?_;refine eQ O ?_;clear O;refine ap rfl (fun hd => ?_) (fun hd => ?_)
     ·refine gR fun _ O=>?_;refine Z5 ?_;refine Z7 ?_;refine Z9 ?_;refine ab rfl (x_m LK.dc rfl rfl rfl rfl hx rfl) rfl ?_;refine Z5 ?_;refine aQ rfl (by rw [<- el]; rfl) rfl ?_;refine Z8 ?_;refine eQ O ?_;clear O;exact ⟨_, by rw [if_pos (by simpa using hd)], Wk.mk' ⟨rfl, rfl, rfl, rfl, rfl, rfl, rfl, rfl, rfl, rfl, rfl, trivial⟩ ⟨rfl, rfl, rfl, rfl, rfl, rfl, rfl, trivial⟩⟩
     ·refine ak ?_;exact ⟨_, by rw [if_neg (by simpa using hd)], Wk.mk' ⟨rfl, rfl, rfl, rfl, rfl, rfl, rfl, rfl, rfl, rfl, rfl, trivial⟩ ⟨rfl, rfl, rfl, rfl, rfl, rfl, rfl, trivial⟩⟩
    intro b hb1
    refine aT (α := Int) (fun b => mk 109 [(1, .ptr 1 0), (6, V1 (dMs (dS (m + 1) (lapM g.links)))), (8, .val (.one (.own 200 1 0 (k + 1)))), (9, bD 201 4 k), (10, bD 202 4 k), (11, dI (k + 1 : Nat)), (12, .ptr 12 0), (13, .ptr 13 0), (14, dI j), (15, .ptr 15 0), (17, dI b)] [(1, some (.box g.cs)), (200, some (.arr 1 es')), (201, bB 4 xs k), (202, bB 4 ys k), (12, some (.box (qzW ux).cs)), (13, some (.box (qzW uy).cs)), (15, some (.box d.cs))] []) (fun b => b = cfN (k + 1) l) ?_ ?_
    ·refine gQ fun _ O=>?_;refine Z5 ?_;refine Z7 ?_;refine Z9 ?_;refine ab rfl (x_m LK.dc rfl rfl rfl rfl hx rfl) rfl ?_;refine Z5 ?_;refine aQ rfl (by rw [<- el]; rfl) rfl ?_;refine Z9 ?_;refine Z6 ?_;refine eQ O ?_;clear O;refine ap rfl (fun hd => ?_) (fun hd => ?_)
     ·refine gR fun _ O=>?_;refine Z5 ?_;refine Z7 ?_;refine Z9 ?_;refine ab rfl (x_m LK.dc rfl rfl rfl rfl hx rfl) rfl ?_;refine Z5 ?_;refine aQ rfl (by rw [<- el]; rfl) rfl ?_;refine dz rfl (xd ⟨by omega, by omega⟩) rfl ?_;refine Z8 ?_;refine eQ O ?_;clear O;exact ⟨_, by rw [cfN, if_pos (by simpa using hd)], Wk.mk' ⟨rfl, rfl, rfl, rfl, rfl, rfl, rfl, rfl, rfl, rfl, rfl, trivial⟩ ⟨rfl, rfl, rfl, rfl, rfl, rfl, rfl, trivial⟩⟩
     ·refine ak ?_;exact ⟨b, by rw [cfN, if_neg (by simpa using hd)]; exact hb1, Wk.mk' ⟨rfl, rfl, rfl, rfl, rfl, rfl, rfl, rfl, rfl, rfl, rfl, trivial⟩ ⟨rfl, rfl, rfl, rfl, rfl, rfl, rfl, trivial⟩⟩
    rintro b rfl
    refine aH tok mixed (A := [[], [], [], [], [], [1, 3], [1, 2, 3, 4], []]) (an := [{}, {}, {}, { c := [86] }, { c := [86] }, {}, {}, {}]) rfl (by kernel_rfl) rfl fun _ O=>?_;refine Z7 ?_;refine Z9 ?_;refine ac rfl rfl (c1) rfl rfl rfl rfl ?_;refine Z5 ?_;refine Z7 ?_;refine ac rfl rfl (c2) rfl rfl rfl rfl ?_;refine ac rfl rfl (c3) rfl rfl rfl rfl ?_;refine ah rfl rfl rfl rfl rfl ?_;refine eQ O ?_;clear O;refine bb tok mixed (A := [[], [], [], [], [], [1, 3], [1, 2, 3, 4], []]) (an := [{}, {}, {}, { c := [93] }, { c := [93] }, {}, {}, {}]) rfl (by kernel_rfl) rfl fun _ O=>?_;refine Z7 ?_;refine Z9 ?_;refine ac rfl rfl (c1) rfl rfl rfl rfl ?_;refine Z5 ?_;refine Z7 ?_;refine ac rfl rfl (c4) rfl rfl rfl rfl ?_;refine ac rfl rfl (c5) rfl rfl rfl rfl ?_;refine ah rfl rfl rfl rfl rfl ?_;refine eQ O ?_;clear O;show AWP _ _ _ _ _ _;refine gR fun _ O=>?_;refine Z9 ?_;refine au rfl (aE (c := ((j + 1 : Nat) : Int)) (by omega) (by omega)) rfl ?_;refine Z8 ?_;refine eQ O ?_;clear O;exact ⟨j + 1, by omega, hx, Wk.mk' ⟨rfl, rfl, rfl, rfl, rfl, rfl, rfl, rfl, rfl, trivial⟩ ⟨rfl, rfl, rfl, rfl, rfl, rfl, trivial⟩⟩
   have hx : j = g.links.length := by simp at hx; omega
   subst hx
   refine aA ?_;show AWP _ _ _ _ _ _;rw [eall];generalize (nrL g g.links).1 (k + 1) = ux at n2 ⊢;generalize (nrL g g.links).2 (k + 1) = uy at n3 ⊢
   rcases k with _ | k
   ·refine gQ fun _ O=>?_;refine Z9 ?_;refine Z7 ?_;refine aw rfl rfl rfl rfl ?_;refine aO rfl (da rfl rfl rfl rfl rfl (by decide) (Nat.le_of_ble_eq_true rfl) rfl (by simp) rfl (by simp) (by simp)) rfl rfl rfl ?_;refine Z8 ?_;refine eQ O ?_;clear O;refine qP [1, 6, 8, 10, 11, 13, 9] [1, 200, 202, 13, 101] 101 201 [(1, .ptr 1 0), (6, V1 (dMs (dS (m + 1) (lapM g.links)))), (8, .val (.one (.own 200 1 0 (0 + 1)))), (9, .val (.one (.own 201 4 0 (0 + 1)))), (10, bD 202 4 (0)), (11, dI (0 + 1 : Nat)), (13, .ptr 13 0)] [(1, some (.box g.cs)), (200, some (.arr 1 es')), (201, some (.arr 4 ((nrX (nrL g g.links).1 (0 + 1)).map RW.dc))), (202, bB 4 ys (0)), (13, some (.box (qzW uy).cs))] rfl rfl rfl ⟨rfl, rfl, rfl, ?_, rfl, rfl, rfl, trivial⟩ ⟨rfl, rfl, ?_, rfl, rfl, trivial⟩ ?_
    ·first
      | rfl
      | (show SV.val (.one (.own 201 4 0 _)) = _
         rw [List.length_append, z2]; rfl)
    ·first
      | (rw [<- n2, List.length_eq_zero_iff.1 z2]; rfl)
      | (rw [<- n2]; rfl)
    refine gR fun _ O=>?_;refine Z9 ?_;refine Z7 ?_;refine aw rfl rfl rfl rfl ?_;refine aO rfl (da rfl rfl rfl rfl rfl (by decide) (Nat.le_of_ble_eq_true rfl) rfl (by simp) rfl (by simp) (by simp)) rfl rfl rfl ?_;refine Z8 ?_;refine eQ O ?_;clear O;show AWP _ _ _ _ _ _;refine gR fun _ O=>?_;refine Z9 ?_;refine au rfl (aE (c := ((0 + 1 + 1 : Nat) : Int)) (by omega) (by omega)) rfl ?_;refine Z8 ?_;refine eQ O ?_;clear O;refine ⟨0 + 1, by omega, hg, Wk.rn [1, 6, 8, 9, 11, 10] [1, 200, 201, 105] 105 202 rfl rfl rfl ⟨rfl, rfl, rfl, rfl, ?_, rfl, trivial⟩ ⟨rfl, ?_, rfl, ?_, trivial⟩⟩
    ·first
      | rfl
      | (show SV.val (.one (.own 202 4 0 _)) = _
         rw [List.length_append, z3]; rfl)
    ·rw [<- hes]; rfl
    ·first
      | (rw [<- n3, List.length_eq_zero_iff.1 z3]; rfl)
      | (rw [<- n3]; rfl)
   ·refine gQ fun _ O=>?_;refine Z9 ?_;refine Z7 ?_;refine aw rfl rfl rfl rfl ?_;refine aO rfl (eI rfl rfl rfl rfl rfl rfl (by decide) (Nat.le_of_ble_eq_true rfl) rfl (by simp) rfl rfl z2.symm (by simp <;> omega)) rfl rfl rfl ?_;refine Z8 ?_;refine eQ O ?_;clear O;refine qP [1, 6, 8, 10, 11, 13, 9] [1, 200, 202, 13, 101] 101 201 [(1, .ptr 1 0), (6, V1 (dMs (dS (m + 1) (lapM g.links)))), (8, .val (.one (.own 200 1 0 (k + 1 + 1)))), (9, .val (.one (.own 201 4 0 (k + 1 + 1)))), (10, bD 202 4 (k + 1)), (11, dI (k + 1 + 1 : Nat)), (13, .ptr 13 0)] [(1, some (.box g.cs)), (200, some (.arr 1 es')), (201, some (.arr 4 ((nrX (nrL g g.links).1 (k + 1 + 1)).map RW.dc))), (202, bB 4 ys (k + 1)), (13, some (.box (qzW uy).cs))] rfl rfl rfl ⟨rfl, rfl, rfl, ?_, rfl, rfl, rfl, trivial⟩ ⟨rfl, rfl, ?_, rfl, rfl, trivial⟩ ?_
    ·first
      | rfl
      | (show SV.val (.one (.own 201 4 0 _)) = _
         rw [List.length_append, z2]; rfl)
    ·first
      | (rw [<- n2, List.length_eq_zero_iff.1 z2]; rfl)
      | (rw [<- n2]; rfl)
    refine gR fun _ O=>?_;refine Z9 ?_;refine Z7 ?_;refine aw rfl rfl rfl rfl ?_;refine aO rfl (eI rfl rfl rfl rfl rfl rfl (by decide) (Nat.le_of_ble_eq_true rfl) rfl (by simp) rfl rfl z3.symm (by simp <;> omega)) rfl rfl rfl ?_;refine Z8 ?_;refine eQ O ?_;clear O;show AWP _ _ _ _ _ _;refine gR fun _ O=>?_;refine Z9 ?_;refine au rfl (aE (c := ((k + 1 + 1 + 1 : Nat) : Int)) (by omega) (by omega)) rfl ?_;refine Z8 ?_;refine eQ O ?_;clear O;refine ⟨k + 1 + 1, by omega, hg, Wk.rn [1, 6, 8, 9, 11, 10] [1, 200, 201, 105] 105 202 rfl rfl rfl ⟨rfl, rfl, rfl, rfl, ?_, rfl, trivial⟩ ⟨rfl, ?_, rfl, ?_, trivial⟩⟩
    ·first
      | rfl
      | (show SV.val (.one (.own 202 4 0 _)) = _
         rw [List.length_append, z3]; rfl)
    ·rw [<- hes]; rfl
    ·first
      | (rw [<- n3, List.length_eq_zero_iff.1 z3]; rfl)
      | (rw [<- n3]; rfl)
  have hk' : k = m := by simp at hg; omega
  subst hk'
  refine aA ?_;show AWP _ _ _ _ _ _
  rcases k with _ | k
  ·refine gQ fun _ O=>?_;refine Z9 ?_;refine Z9 ?_;refine Z9 ?_;refine Z8 ?_;refine Z8 ?_;refine Z8 ?_;refine Z8 ?_;refine eQ O ?_;clear O;exact al aP
  ·refine cQ [8, 9, 10] [200, 201, 202] 200 [(8, V1 (dMs (nrM (k + 1 + 1) (lapM g.links) (k + 1)))), (9, .val (.one (.own 201 4 0 (k + 1)))), (10, .val (.one (.own 202 4 0 (k + 1))))] [(201, some (.arr 4 ((nrX (nrL g g.links).1 (k + 1)).map RW.dc))), (202, some (.arr 4 ((nrX (nrL g g.links).2 (k + 1)).map RW.dc)))] rfl ⟨?_, rfl, rfl, trivial⟩ ⟨rfl, rfl, trivial⟩ ?_
   ·exact bz rfl (by simp [nrM])
   refine cQ [8, 9, 10] [201, 202] 201 [(8, V1 (dMs (nrM (k + 1 + 1) (lapM g.links) (k + 1)))), (9, V1 (dRs (nrX (nrL g g.links).1 (k + 1)))), (10, .val (.one (.own 202 4 0 (k + 1))))] [(202, some (.arr 4 ((nrX (nrL g g.links).2 (k + 1)).map RW.dc)))] rfl ⟨rfl, ?_, rfl, trivial⟩ ⟨rfl, trivial⟩ ?_
   ·exact bz rfl (by simp [nrX])
   refine cQ [8, 9, 10] [202] 202 [(8, V1 (dMs (nrM (k + 1 + 1) (lapM g.links) (k + 1)))), (9, V1 (dRs (nrX (nrL g g.links).1 (k + 1)))), (10, V1 (dRs (nrX (nrL g g.links).2 (k + 1))))] [] rfl ⟨rfl, rfl, ?_, trivial⟩ trivial ?_
   ·exact bz rfl (by simp [nrX])
   refine gQ fun _ O=>?_;refine Z9 ?_;refine Z9 ?_;refine Z9 ?_;refine Z8 ?_;refine Z8 ?_;refine Z8 ?_;refine Z8 ?_;refine eQ O ?_;clear O;exact al aP

end Go.Proofs.YtfichkokppbipaaGreatDoor

/- Signs, quotients, whole numbers; matrices and columns by number. No condition. -/
namespace Go.Proofs.YtfichkokppbipaaGreatDoor
attribute [local irreducible] aM

theorem y4 (x y : Int) : (Rat.divInt x y).num.sign = x.sign * y.sign := by
 by_cases h : y = 0
 ·subst h; rw [Rat.divInt_zero]; simp
 ·have h1 := (Rat.divInt_eq_divInt_iff (by have := (Rat.divInt x y).den_nz; omega) h).1 (Rat.num_divInt_den (Rat.divInt x y))
  have h2 := congrArg Int.sign h1
  rw [Int.sign_mul, Int.sign_mul] at h2
  have h3 : ((Rat.divInt x y).den : Int).sign = 1 := Int.sign_eq_one_of_pos (by have := (Rat.divInt x y).den_nz; omega)
  rw [h3, Int.mul_one] at h2;rw [<- h2, Int.mul_assoc, <- Int.sign_mul]
  have : 0 < y * y := by
   rcases Int.lt_or_gt_of_ne h with h | h
   ·exact Int.mul_pos_of_neg_of_neg h h
   ·exact Int.mul_pos h h
  rw [Int.sign_eq_one_of_pos this, Int.mul_one]
theorem C0 (x : Int) : -1 <= x.sign /\ x.sign <= 1 := by
 rcases Int.lt_trichotomy x 0 with h | h | h
 ·rw [Int.sign_eq_neg_one_of_neg h]; omega
 ·subst h; simp
 ·rw [Int.sign_eq_one_of_pos h]; omega
theorem B8 (a : RW) (ha : a.OK 16777216) : Con Tryz.prog 52 [AG a.cs] { v := dI a.v.num.sign } := by
 have e : a.v.num.sign = a.p.sign * a.q.sign := y4 a.p a.q
 rw [e]
 have c1 := ep a.np a.wp ha.op (aN ha.lp rfl)
 have c2 := ep a.nq a.wq ha.oq (aN ha.lq rfl)
 have h : I64 (a.p.sign * a.q.sign) := by
  have := C0 (a.p * a.q)
  rw [Int.sign_mul] at this;exact ⟨by omega, by omega⟩
 refine Z3 Tryz.func52 ?_
 intro w0 X
 rw [aq _ _ [(0, AG a.cs)] rfl rfl];refine gQ fun _ O=>?_;refine aF rfl rfl rfl rfl rfl rfl ?_;refine Z8 ?_;refine eQ O ?_;clear O;refine aH tok mixed (A := [[], [], [0], [], [], [0, 1, 3], [0, 1, 3, 4], []]) (an := [{}, {}, {}, { c := [5] }, { c := [5] }, {}, {}, {}]) rfl (by kernel_rfl) rfl fun _ O=>?_;refine Z5 ?_;refine Z7 ?_;refine ac rfl rfl (c1) rfl rfl rfl rfl ?_;refine Z5 ?_;refine Z7 ?_;refine ac rfl rfl (c2) rfl rfl rfl rfl ?_;refine au rfl (uZ rfl h) rfl ?_;refine Z8 ?_;refine eQ O ?_;clear O;exact al aP
theorem x9 {q : Rat} : q.num.sign = 1 ↔ 0 < q := by
 rw [Int.sign_eq_one_iff_pos]
 have h1 := @Rat.num_nonneg q
 have h2 := @Rat.num_eq_zero q
 constructor
 ·intro h
  have a := h1.1 (by omega)
  have b : q ≠ 0 := fun e => by have := h2.2 e; omega
  grind
 ·intro h
  have a := h1.2 (by grind)
  have b : q.num ≠ 0 := fun e => by have := h2.1 e; grind
  omega
theorem jJ {q : Rat} : q.num.sign = 0 ↔ q = 0 := by rw [Int.sign_eq_zero_iff_zero, Rat.num_eq_zero]
theorem kn {q : Rat} : q.num.sign <= 0 ↔ ¬ 0 < q := by
 rw [<- x9]
 have := C0 q.num
 omega

def ivW (b : Rat) : RW := ⟨decide ((b.den : Int) < 0), wof (b.den : Int).natAbs, decide (b.num < 0), wof b.num.natAbs⟩
theorem C8 (b : Rat) : (ivW b).v = b⁻¹ := by
 show Rat.divInt (zv (decide ((b.den : Int) < 0)) (wof (b.den : Int).natAbs)) (zv (decide (b.num < 0)) (wof b.num.natAbs)) = _
 rw [bc, bc, <- Rat.inv_divInt, Rat.num_divInt_den]
theorem Ap {b : Rat} {k : Nat} (h : ql b <= k) : (ivW b).OK k := ⟨av _, av _, bZ h, bV h⟩
theorem zN (a b : RW) (z : Rat) (ha : a.OK 16777216) (hb : b.OK 16777216) (h0 : b.v ≠ 0) (h : a.v / b.v = z) :
  Con Tryz.prog 98 [AG a.cs, AG b.cs] { v := .tup [.agg (qzW z).cs, .one (.d (lI 0))] } := by
 have c1 := jK b hb
 have h1 := hb.ql rfl
 have c2 := ep (decide (b.v.num < 0)) (wof b.v.num.natAbs) (av _) (Nat.le_trans (bV h1) (by decide))
 rw [bc] at c2
 have h2 : ¬ b.v.num.sign = 0 := fun e => h0 (jJ.1 e)
 have c3 := ko a (ivW b.v) z ha (Ap h1) (by rw [C8, <- h, Rat.div_def])
 generalize b.v = y at *;refine Z3 Tryz.func98 ?_
 intro w0 X
 rw [aq _ _ [(0, AG a.cs), (1, AG b.cs)] rfl rfl];refine gQ fun _ O=>?_;refine aF rfl rfl rfl rfl rfl rfl ?_;refine aF rfl rfl rfl rfl rfl rfl ?_;refine ar rfl rfl rfl rfl rfl rfl ?_;refine Z8 ?_;refine eQ O ?_;clear O;refine gQ fun _ O=>?_;refine Z7 ?_;refine ac rfl rfl (c1) rfl rfl rfl rfl ?_;refine ah rfl rfl rfl rfl rfl ?_;refine eQ O ?_;clear O;refine ag ?_;refine gQ fun _ O=>?_;refine Z5 ?_;refine Z7 ?_;refine ac rfl rfl (c2) rfl rfl rfl rfl ?_;refine Z6 ?_;refine eQ O ?_;clear O;refine ap rfl (fun hc => ?_) (fun hc => ?_)
 ·exact absurd (by simpa using hc) h2
 refine ak ?_;show AWP _ _ _ _ _ _;refine gQ fun _ O=>?_;refine Z7 ?_;refine Z5 ?_;refine Z7 ?_;refine Z5 ?_;refine Z7 ?_;refine aL rfl rfl rfl ?_;refine ac rfl rfl (c3) rfl rfl rfl rfl ?_;refine ah rfl rfl rfl rfl rfl ?_;refine Z8 ?_;refine eQ O ?_;clear O;exact al aP

/-! ### Columns and matrices by number -/
def cS (n : Nat) (G : Nat -> RW) : List RW := (List.range n).map G
def bS (n m : Nat) (F : Nat -> Nat -> RW) : List (List RW) := (List.range n).map fun i => cS m (F i)
def ic (G : Nat -> RW) (a : Nat) (x : RW) : Nat -> RW := fun i => if i = a then x else G i
def bd (n : Nat) (G : Nat -> RW) : List (List DC) := (List.range n).map fun j => (G j).dc
def nmD (n : Nat) (e : Nat -> Nat) : List (List DC) := (List.range n).map fun j => cN (e j)
theorem jz (n : Nat) (G : Nat -> RW) : (cS n G).map RW.dc = bd n G := by rw [cS, List.map_map]; rfl
theorem d5 (n : Nat) (G : Nat -> RW) : (bd n G).length = n := by simp [bd]
theorem jl {n i : Nat} {G : Nat -> RW} (h : i < n) : (bd n G)[i]? = some (G i).dc := by simp [bd, h]
theorem bn {n : Nat} {G H : Nat -> RW} (h : ∀ i, i < n -> G i = H i) : bd n G = bd n H := List.map_congr_left fun i hi => by rw [h i (List.mem_range.1 hi)]
theorem ze {n i : Nat} {G : Nat -> RW} {x : RW} : (bd n G).set i x.dc = bd n (ic G i x) := by
 apply List.ext_getElem?
 intro k
 rw [List.getElem?_set]
 by_cases hk : i = k
 ·subst hk
  rw [if_pos rfl, d5]
  by_cases hn : i < n
  ·rw [if_pos hn, jl hn]; simp [ic]
  ·rw [if_neg hn, List.getElem?_eq_none (by rw [d5]; omega)]
 ·rw [if_neg hk]
  rcases Nat.lt_or_ge k n with hn | hn
  ·rw [jl hn, jl hn]; simp [ic, Ne.symm hk]
  ·rw [List.getElem?_eq_none (by rw [d5]; omega), List.getElem?_eq_none (by rw [d5]; omega)]
theorem q9 (n : Nat) : List.replicate n eh.dc = bd n (fun _ => eh) := by simp [bd, List.map_const']
theorem ra (n : Nat) (G : Nat -> RW) : bd n G ++ [(G n).dc] = bd (n + 1) G := by rw [bd, bd, List.range_succ, List.map_append]; rfl
theorem rr (n m : Nat) (F : Nat -> Nat -> RW) : (bS n m F).map cM ++ [cM (cS m (F n))] = (bS (n + 1) m F).map cM := by rw [bS, bS, List.range_succ, List.map_append, List.map_append]; rfl
theorem Aa (n : Nat) (e : Nat -> Nat) : nmD n e ++ [cN (e n)] = nmD (n + 1) e := by rw [nmD, nmD, List.range_succ, List.map_append]; rfl
section
variable {T : Tab} {t e : TypeId} {ti ei : TI}
theorem x_v {k : IntKind} {x : Int} {n i : Nat} {G : Nat -> RW} (h1 : T t = some ti) (h2 : ti.und = .slice e) (h3 : T e = some ei) (h4 : ei.size = 4) (hx : x = (i : Int)) (hi : i < n) :
  bp T t (V1 (dRs (cS n G))) (V1 (.lit (.int k x))) = .set (.pd (G i).dc) :=
 x_d h1 h2 h3 hx (by rw [jz]; exact jl hi) (by rw [h4]; rfl)
theorem nY {k : IntKind} {x : Int} {n m i : Nat} {F : Nat -> Nat -> RW} (h1 : T t = some ti) (h2 : ti.und = .slice e) (h3 : T e = some ei) (h4 : ei.size = 1) (hx : x = (i : Int)) (hi : i < n) :
  bp T t (V1 (dMs (bS n m F))) (V1 (.lit (.int k x))) = .set (.pd (cM (cS m (F i)))) :=
 x_d h1 h2 h3 hx (by simp [bS, hi]) (by rw [h4]; rfl)
theorem x_n {k : IntKind} {x : Int} {n i : Nat} {f : Nat -> Nat} (h1 : T t = some ti) (h2 : ti.und = .slice e) (h3 : T e = some ei) (h4 : ei.size = 1) (hx : x = (i : Int)) (hi : i < n) :
  bp T t (V1 (.sl (nmD n f))) (V1 (.lit (.int k x))) = .set (.pd (cN (f i))) :=
 x_d h1 h2 h3 hx (by simp [nmD, hi]) (by rw [h4]; rfl)
theorem EX {S : cu} {n : Nat} {G : Nat -> RW} (h1 : T t = some ti) (h2 : ti.und = .slice e) : bq T ⟨[], S, []⟩ (.builtin .len) [V1 (dRs (cS n G))] [t] = .set (dI n) := iS h1 h2 (by simp [cS])
theorem vQ {S : cu} {n m : Nat} {F : Nat -> Nat -> RW} (h1 : T t = some ti) (h2 : ti.und = .slice e) : bq T ⟨[], S, []⟩ (.builtin .len) [V1 (dMs (bS n m F))] [t] = .set (dI n) := iS h1 h2 (by simp [bS])
theorem C7 {S : cu} {n : Nat} {f : Nat -> Nat} (h1 : T t = some ti) (h2 : ti.und = .slice e) : bq T ⟨[], S, []⟩ (.builtin .len) [V1 (.sl (nmD n f))] [t] = .set (dI n) := iS h1 h2 (by simp [nmD])
theorem mT {S : cu} {rb : List Nat} {id i n : Nat} {G : Nat -> RW} (x : RW) (h1 : T t = some ti) (h4 : ti.size = 4) (hS : S id = some (.arr 4 (bd n G))) (hi : i < n) :
  bN T ⟨[], S, rb⟩ t (.pe id 4 i 0) (AG x.cs) = .upd (bw S id (.arr 4 (bd n (ic G i x)))) rb := by
 rw [<- ze];exact vo (ds := x.dc) h1 hS (by rw [d5]; exact hi) (fun el h => by rw [jl hi] at h; cases h; rw [h4]; rfl) rfl (by rw [h4]; rfl) (by rw [h4]; rfl)
theorem l_q {S : cu} {id i n : Nat} {G : Nat -> RW} (h1 : T t = some ti) (h4 : ti.size = 4) (h5 : ti.agg = true) (hS : S id = some (.arr 4 (bd n G))) (hi : i < n) :
  bH T ⟨[], S, []⟩ t (.pe id 4 i 0) = .set (AG (G i).cs) :=
 l_o h1 hS (jl hi) (by rw [h4]; rfl) (by rw [h5]; rfl)
end
theorem oK {m : List (List RW)} {n : Nat} (hn : m.length = n) (hr : ∀ r ∈ m, r.length = n) : m = bS n n (fun i j => (m.getD i []).getD j eh) := by
 apply List.ext_getElem?
 intro i
 rcases Nat.lt_or_ge i n with hi | hi
 ·have hm : i < m.length := by omega
  have e1 : (bS n n fun i j => (m.getD i []).getD j eh)[i]? = some (cS n fun j => (m.getD i []).getD j eh) := by simp [bS, hi]
  rw [e1, List.getElem?_eq_getElem hm]
  congr 1
  have e2 : m.getD i [] = m[i] := by rw [List.getD_eq_getElem?_getD, List.getElem?_eq_getElem hm]; rfl
  have hl := hr _ (List.getElem_mem hm)
  rw [e2];generalize m[i] = r at *
  apply List.ext_getElem?
  intro j
  rcases Nat.lt_or_ge j n with hj | hj
  ·have hj' : j < r.length := by omega
   simp [cS, hj, hj']
  ·rw [List.getElem?_eq_none (by omega), List.getElem?_eq_none (by simp [cS]; omega)]
 ·rw [List.getElem?_eq_none (by omega), List.getElem?_eq_none (by simp [bS]; omega)]
end Go.Proofs.YtfichkokppbipaaGreatDoor

/- Matrices: validity; small helpers of solve. No condition. -/
namespace Go.Proofs.YtfichkokppbipaaGreatDoor
attribute [local irreducible] aM

def mtv (m : List (List RW)) (i j : Nat) : RW := (m.getD i []).getD j eh
theorem oJ {n k : Nat} {F : Nat -> Nat -> RW} {i j : Nat} (hi : i < n) (hj : j < k) : mtv (bS n k F) i j = F i j := by
 simp [mtv, bS, cS, hi, hj]
def VMp (m : List (List RW)) : Prop := m.length <= 16 /\ (∀ r ∈ m, r.length = m.length) /\ ∀ i, i < m.length -> ∀ j, j < i -> (mtv m i j).v = (mtv m j i).v
instance (m : List (List RW)) : Decidable (VMp m) := by unfold VMp; infer_instance
def dN (m : List (List RW)) : Bool := decide (VMp m)
theorem ku (n k : Nat) (F : Nat -> Nat -> RW) : (bS n k F).length = n := by simp [bS]
theorem eK (n : Nat) (G : Nat -> RW) : (cS n G).length = n := by simp [cS]
theorem xF {n : Nat} {F : Nat -> Nat -> RW} : VMp (bS n n F) ↔ n <= 16 /\ ∀ i, i < n -> ∀ j, j < i -> (F i j).v = (F j i).v := by
 unfold VMp
 rw [ku]
 constructor
 ·rintro ⟨h1, _, h3⟩
  refine ⟨h1, fun i hi j hj => ?_⟩
  have := h3 i hi j hj
  rwa [oJ hi (by omega), oJ (by omega) hi] at this
 ·rintro ⟨h1, h3⟩
  refine ⟨h1, fun r hr => ?_, fun i hi j hj => ?_⟩
  ·obtain ⟨i, _, rfl⟩ := List.mem_map.1 hr
   exact eK _ _
  ·rw [oJ hi (by omega), oJ (by omega) hi]; exact h3 i hi j hj
def okM (k : Nat) (m : List (List RW)) : Prop := ∀ r ∈ m, ∀ x ∈ r, x.OK k
theorem oH {k n : Nat} {F : Nat -> Nat -> RW} (h : okM k (bS n n F)) {i j : Nat} (hi : i < n) (hj : j < n) : (F i j).OK k :=
 h (cS n (F i)) (List.mem_map.2 ⟨i, List.mem_range.2 hi, rfl⟩) _ (List.mem_map.2 ⟨j, List.mem_range.2 hj, rfl⟩)
theorem y9 (m : List (List RW)) (hl : m.length <= 9223372036854775806) (hr : ∀ r ∈ m, r.length <= 9223372036854775806) (ok : okM 65536 m) : Con Tryz.prog 35 [V1 (dMs m)] { v := dB (dN m) } := by
 refine Z3 Tryz.func35 ?_
 intro w0 X
 rw [aq _ _ [(0, V1 (dMs m))] rfl rfl];refine gQ fun _ O=>?_;refine Z8 ?_;refine eQ O ?_;clear O;refine ag ?_;refine gQ fun _ O=>?_;refine Z9 ?_;refine az rfl (a8 cM rfl rfl) rfl ?_;refine Z6 ?_;refine eQ O ?_;clear O;refine ap rfl (fun hc => ?_) (fun hc => ?_)
 ·have e : dN m = false := decide_eq_false fun h => by have := h.1; simp at hc; omega
  rw [e];refine gQ fun _ O=>?_;refine Z8 ?_;refine eQ O ?_;clear O;exact al aP
 have h16 : m.length <= 16 := by simp at hc; omega
 refine ak ?_;show AWP _ _ _ _ _ _;refine ag ?_;refine gQ fun _ O=>?_;refine Z9 ?_;refine az rfl (a8 cM rfl rfl) rfl ?_;refine Z9 ?_;refine eQ O ?_;clear O;refine aj (aI (α := Nat) (fun i => mk 49 [(0, V1 (dMs m)), (11, V1 (dMs m)), (12, dI m.length), (13, dI i)] [] []) (fun i => i <= m.length /\ ∀ k (h : k < m.length), k < i -> m[k].length = m.length) (fun i => m.length - i) 0 ?_ ⟨Nat.zero_le _, fun _ _ h => by omega⟩ ?_)
 ·exact Wk.mk' ⟨rfl, rfl, rfl, rfl, trivial⟩ trivial
 rintro i ⟨hi, hI⟩
 refine gQ fun _ O=>?_;refine Z6 ?_;refine eQ O ?_;clear O;refine ag ?_;refine ap rfl (fun hg => ?_) (fun hg => ?_)
 ·have hg : i < m.length := by simp at hg; omega
  refine ak ?_;show AWP _ _ _ _ _ _;refine ag ?_;refine aj ?_;refine gQ fun _ O=>?_;refine ab rfl (x_m cM rfl rfl rfl rfl hg rfl) rfl ?_;refine Z7 ?_;refine Z8 ?_;refine eQ O ?_;clear O;refine gQ fun _ O=>?_;refine Z9 ?_;refine az rfl (a8 RW.dc rfl rfl) rfl ?_;refine Z9 ?_;refine az rfl (a8 cM rfl rfl) rfl ?_;refine Z6 ?_;refine eQ O ?_;clear O;refine ap rfl (fun hd => ?_) (fun hd => ?_)
  ·have e : dN m = false := decide_eq_false fun h => by
    have := h.2.1 _ (List.getElem_mem hg)
    rw [this] at hd
    simp at hd
   rw [e];refine gQ fun _ O=>?_;refine Z8 ?_;refine eQ O ?_;clear O;exact al aP
  ·have hd : m[i].length = m.length := by simp at hd; omega
   refine ak ?_;show AWP _ _ _ _ _ _;refine gR fun _ O=>?_;refine au rfl (aE (c := ((i + 1 : Nat) : Int)) (by omega) (by omega)) rfl ?_;refine Z9 ?_;refine eQ O ?_;clear O;refine ⟨i + 1, by omega, ⟨hg, fun k h hk => ?_⟩, Wk.mk' ⟨rfl, rfl, rfl, rfl, trivial⟩ trivial⟩
   by_cases e : k = i
   ·subst e; exact hd
   ·exact hI k h (by omega)
 have hall : ∀ r ∈ m, r.length = m.length := fun r hr' => by
  obtain ⟨k, hk, e⟩ := List.getElem_of_mem hr'
  rw [<- e]; exact hI k hk (by simp at hg; omega)
 clear hI hg;refine aA ?_;show AWP _ _ _ _ _ _
 obtain ⟨n, hn⟩ : ∃ n, m.length = n := ⟨_, rfl⟩
 obtain ⟨F, hF⟩ : ∃ F, m = bS n n F := ⟨_, oK hn (hn ▸ hall)⟩
 rw [hn] at h16;clear hall hr hl
 subst hF
 have oF := fun i j (hi : i < n) (hj : j < n) => oH ok hi hj
 have hv : dN (bS n n F) = decide (n <= 16 /\ ∀ i, i < n -> ∀ j, j < i -> (F i j).v = (F j i).v) := decide_eq_decide.2 xF
 rw [hv];clear hv hn ok;refine ag ?_;refine gQ fun _ O=>?_;refine Z9 ?_;refine az rfl (vQ rfl rfl) rfl ?_;refine Z9 ?_;refine eQ O ?_;clear O;refine aj (aI (α := Nat) (fun i => mk 49 [(0, V1 (dMs (bS n n F))), (23, V1 (dMs (bS n n F))), (24, dI n), (25, dI i)] [] []) (fun i => i <= n /\ ∀ k, k < i -> ∀ j, j < k -> (F k j).v = (F j k).v) (fun i => n - i) 0 ?_ ⟨Nat.zero_le _, fun _ h => by omega⟩ ?_)
 ·exact Wk.mk' ⟨rfl, rfl, rfl, rfl, trivial⟩ trivial
 rintro i ⟨hi, hI⟩
 refine gQ fun _ O=>?_;refine Z6 ?_;refine eQ O ?_;clear O;refine ag ?_;refine ap rfl (fun hg => ?_) (fun hg => ?_)
 ·have hg : i < n := by simp at hg; omega
  refine ak ?_;show AWP _ _ _ _ _ _;refine ag ?_;refine aj ?_;refine gQ fun _ O=>?_;refine Z9 ?_;refine ab rfl (nY rfl rfl rfl rfl rfl hg) rfl ?_;refine Z7 ?_;refine Z8 ?_;refine Z8 ?_;refine eQ O ?_;clear O;refine gQ fun _ O=>?_;refine Z9 ?_;refine Z9 ?_;refine eQ O ?_;clear O;refine aj (aI (α := Nat) (fun j => mk 49 [(0, V1 (dMs (bS n n F))), (5, dI i), (6, V1 (dRs (cS n (F i)))), (23, V1 (dMs (bS n n F))), (24, dI n), (25, dI i), (30, dI i), (31, dI j)] [] []) (fun j => j <= i /\ ∀ k, k < j -> (F i k).v = (F k i).v) (fun j => i - j) 0 ?_ ⟨Nat.zero_le _, fun _ h => by omega⟩ ?_)
  ·exact Wk.mk' ⟨rfl, rfl, rfl, rfl, rfl, rfl, rfl, rfl, trivial⟩ trivial
  rintro j ⟨hj, hJ⟩
  refine gQ fun _ O=>?_;refine Z6 ?_;refine eQ O ?_;clear O;refine ag ?_;refine ap rfl (fun hf => ?_) (fun hf => ?_)
  ·have hf : j < i := by simp at hf; omega
   have cc := zO (F i j) (F j i) ((oF i j hg (by omega)).mono rfl) ((oF j i (by omega) hg).mono rfl)
   refine ak ?_;show AWP _ _ _ _ _ _;refine ag ?_;refine aj ?_;refine gQ fun _ O=>?_;refine Z9 ?_;refine Z8 ?_;refine eQ O ?_;clear O;refine aH tok mixed (A := [[], [], [], [0, 1], [], [], [], [4, 5], [], [4, 5, 6], [4, 5, 6, 7, 8], [0, 1, 2, 4, 5, 6, 7, 8, 9], [0, 1, 2, 3, 4, 5, 6, 7, 8, 9, 10]]) (an := [{}, {}, {}, {}, {}, {}, {}, {}, {}, {}, {}, {}, {}]) rfl (by kernel_rfl) rfl fun _ O=>?_;refine Z9 ?_;refine Z9 ?_;refine ab rfl (x_v rfl rfl rfl rfl rfl (show j < n by omega)) rfl ?_;refine Z7 ?_;refine Z9 ?_;refine Z9 ?_;refine ab rfl (nY rfl rfl rfl rfl rfl (show j < n by omega)) rfl ?_;refine Z7 ?_;refine Z9 ?_;refine ab rfl (x_v rfl rfl rfl rfl rfl hg) rfl ?_;refine Z7 ?_;refine ac rfl rfl (cc) rfl rfl rfl rfl ?_;refine Z6 ?_;refine eQ O ?_;clear O;refine ap rfl (fun hd => ?_) (fun hd => ?_)
   ·have hne : (F i j).v ≠ (F j i).v := fun e => by
     have := w4 (F i j).v (F j i).v
     rw [decide_eq_true e, beq_iff_eq] at this
     simp [this] at hd
    have e : decide (n <= 16 /\ ∀ i, i < n -> ∀ j, j < i -> (F i j).v = (F j i).v) = false := decide_eq_false fun h => hne (h.2 i hg j hf)
    rw [e];refine gQ fun _ O=>?_;refine Z8 ?_;refine eQ O ?_;clear O;exact al aP
   ·have heq : (F i j).v = (F j i).v := by
     have := w4 (F i j).v (F j i).v
     have h2 : (sJ (F i j).v (F j i).v == 0) = true := by simpa using hd
     rw [h2] at this;exact of_decide_eq_true this.symm
    refine ak ?_;show AWP _ _ _ _ _ _;refine gR fun _ O=>?_;refine au rfl (aE (c := ((j + 1 : Nat) : Int)) (by omega) (by omega)) rfl ?_;refine Z9 ?_;refine eQ O ?_;clear O;refine ⟨j + 1, by omega, ⟨hf, fun k hk => ?_⟩, Wk.mk' ⟨rfl, rfl, rfl, rfl, rfl, rfl, rfl, rfl, trivial⟩ trivial⟩
    by_cases e : k = j
    ·subst e; exact heq
    ·exact hJ k (by omega)
  ·have hf : j = i := by simp at hf; omega
   subst hf
   refine aA ?_;show AWP _ _ _ _ _ _;refine gR fun _ O=>?_;refine au rfl (aE (c := ((j + 1 : Nat) : Int)) (by omega) (by omega)) rfl ?_;refine Z9 ?_;refine eQ O ?_;clear O;refine ⟨j + 1, by omega, ⟨hg, fun k hk => ?_⟩, Wk.mk' ⟨rfl, rfl, rfl, rfl, trivial⟩ trivial⟩
   by_cases e : k = j
   ·subst e; exact hJ
   ·exact hI k (by omega)
 ·have hg : i = n := by simp at hg; omega
  subst hg
  refine aA ?_;show AWP _ _ _ _ _ _;rw [decide_eq_true ⟨h16, fun k hk => hI k hk⟩];refine gQ fun _ O=>?_;refine Z8 ?_;refine eQ O ?_;clear O;exact al aP

/-! ### Small helpers -/
theorem BG : Con Tryz.prog 104 [] { v := AG (qzW 0).cs } := by
 have c := iE 0 ⟨by decide, by decide⟩
 refine Z3 Tryz.func104 ?_
 intro w0 X
 rw [aq _ _ [] rfl rfl];refine gQ fun _ O=>?_;refine ar rfl rfl rfl rfl rfl rfl ?_;refine eQ O ?_;clear O;refine gQ fun _ O=>?_;refine ac rfl rfl (c) rfl rfl rfl rfl ?_;refine ah rfl rfl rfl rfl rfl ?_;refine eQ O ?_;clear O;exact al aP
theorem DI : Con Tryz.prog 103 [] { v := AG (qzW 1).cs } := by
 have c := iE 1 ⟨by decide, by decide⟩
 refine Z3 Tryz.func103 ?_
 intro w0 X
 rw [aq _ _ [] rfl rfl];refine gQ fun _ O=>?_;refine ar rfl rfl rfl rfl rfl rfl ?_;refine eQ O ?_;clear O;refine gQ fun _ O=>?_;refine ac rfl rfl (c) rfl rfl rfl rfl ?_;refine ah rfl rfl rfl rfl rfl ?_;refine eQ O ?_;clear O;exact al aP
theorem ow (a b c : RW) (z : Rat) (ha : a.OK 16777215) (hb : b.OK 8388607) (hc : c.OK 8388607) (h : a.v - b.v * c.v = z) : Con Tryz.prog 97 [AG a.cs, AG b.cs, AG c.cs] { v := AG (qzW z).cs } := by
 have c1 := ko b c (b.v * c.v) (hb.mono rfl) (hc.mono rfl) rfl
 have o : (qzW (b.v * c.v)).OK 16777215 := aD (Nat.le_trans (aC (hb.ql rfl) (hc.ql rfl)) (by decide))
 have c2 := DT a (qzW (b.v * c.v)) z ha o (by rw [aR]; exact h)
 refine Z3 Tryz.func97 ?_
 intro w0 X
 rw [aq _ _ [(0, AG a.cs), (1, AG b.cs), (2, AG c.cs)] rfl rfl];refine gQ fun _ O=>?_;refine aF rfl rfl rfl rfl rfl rfl ?_;refine aF rfl rfl rfl rfl rfl rfl ?_;refine aF rfl rfl rfl rfl rfl rfl ?_;refine ar rfl rfl rfl rfl rfl rfl ?_;refine eQ O ?_;clear O;refine aH tok mixed (A := [[], [], [], [], [1, 2], []]) (an := [{}, {}, {}, {}, {}, {}]) rfl (by kernel_rfl) rfl fun _ O=>?_;refine Z7 ?_;refine Z7 ?_;refine Z7 ?_;refine ac rfl rfl (c1) rfl rfl rfl rfl ?_;refine ac rfl rfl (c2) rfl rfl rfl rfl ?_;refine ah rfl rfl rfl rfl rfl ?_;refine eQ O ?_;clear O;exact al aP
theorem tV (n : Nat) (hn : n <= 1048576) : Con Tryz.prog 94 [dI n] { v := V1 (.sl (nmD n fun i => i)) } := by
 refine Z3 Tryz.func94 ?_
 intro w0 X
 rw [aq _ _ [(0, dI n)] rfl rfl];refine gQ fun _ O=>?_;refine Z8 ?_;refine eQ O ?_;clear O;refine gQ fun _ O=>?_;refine Z8 ?_;refine eQ O ?_;clear O;refine ag ?_;refine gQ fun _ O=>?_;refine Z9 ?_;refine Z9 ?_;refine eQ O ?_;clear O;refine aj (aI (α := Nat) (fun i => mk 15 [(3, bD 200 1 i), (5, dI n), (6, dI i)] [(200, bB 1 (nmD i fun i => i) i)] []) (fun i => i <= n) (fun i => n - i) 0 ?_ (Nat.zero_le _) ?_)
 ·exact Wk.mk' ⟨rfl, rfl, rfl, trivial⟩ ⟨rfl, trivial⟩
 intro i hi
 refine gQ fun _ O=>?_;refine Z6 ?_;refine eQ O ?_;clear O;refine ag ?_;refine ap rfl (fun hg => ?_) (fun hg => ?_)
 ·have hg : i < n := by simp at hg; omega
  have n1 := Aa i (fun i => i)
  have z1 : (nmD i fun i => i).length = i := by simp [nmD]
  generalize (nmD i fun i => i) = es at n1 z1 ⊢;refine ak ?_;show AWP _ _ _ _ _ _;refine ag ?_;refine aj ?_
  rcases i with _ | i
  ·refine gQ fun _ O=>?_;refine Z9 ?_;refine Z8 ?_;refine eQ O ?_;clear O;refine gR fun _ O=>?_;refine Z9 ?_;refine Z9 ?_;refine aw rfl rfl rfl rfl ?_;refine aO rfl (da rfl rfl rfl rfl rfl (by decide) (Nat.le_of_ble_eq_true rfl) rfl (by simp) rfl (by simp) (by simp)) rfl rfl rfl ?_;refine Z8 ?_;refine eQ O ?_;clear O;show AWP _ _ _ _ _ _;refine gR fun _ O=>?_;refine au rfl (aE (c := ((0 + 1 : Nat) : Int)) (by omega) (by omega)) rfl ?_;refine Z9 ?_;refine eQ O ?_;clear O;refine ⟨0 + 1, by omega, hg, Wk.rn [3, 5, 6] [12] 12 200 rfl rfl rfl ⟨?_, rfl, rfl, trivial⟩ ⟨?_, trivial⟩⟩
   ·first
     | rfl
     | (show SV.val (.one (.own 200 1 0 _)) = _
        rw [List.length_append, z1]; rfl)
   ·first
     | (rw [<- n1, List.length_eq_zero_iff.1 z1]; rfl)
     | (rw [<- n1]; rfl)
  ·refine gQ fun _ O=>?_;refine Z9 ?_;refine Z8 ?_;refine eQ O ?_;clear O;refine gR fun _ O=>?_;refine Z9 ?_;refine Z9 ?_;refine aw rfl rfl rfl rfl ?_;refine aO rfl (eI rfl rfl rfl rfl rfl rfl (by decide) (Nat.le_of_ble_eq_true rfl) rfl (by simp) rfl rfl z1.symm (by simp <;> omega)) rfl rfl rfl ?_;refine Z8 ?_;refine eQ O ?_;clear O;show AWP _ _ _ _ _ _;refine gR fun _ O=>?_;refine au rfl (aE (c := ((i + 1 + 1 : Nat) : Int)) (by omega) (by omega)) rfl ?_;refine Z9 ?_;refine eQ O ?_;clear O;refine ⟨i + 1 + 1, by omega, hg, Wk.rn [3, 5, 6] [12] 12 200 rfl rfl rfl ⟨?_, rfl, rfl, trivial⟩ ⟨?_, trivial⟩⟩
   ·first
     | rfl
     | (show SV.val (.one (.own 200 1 0 _)) = _
        rw [List.length_append, z1]; rfl)
   ·first
     | (rw [<- n1, List.length_eq_zero_iff.1 z1]; rfl)
     | (rw [<- n1]; rfl)
 ·have hg : n = i := by simp at hg; omega
  subst hg
  refine aA ?_;show AWP _ _ _ _ _ _
  rcases n with _ | n
  ·refine gQ fun _ O=>?_;refine Z9 ?_;refine Z8 ?_;refine eQ O ?_;clear O;exact al aP
  ·refine cQ [3] [200] 200 [(3, V1 (.sl (nmD (n + 1) fun i => i)))] [] rfl ?_ trivial ?_
   ·exact ⟨bz rfl (by simp [nmD]), trivial⟩
   refine gQ fun _ O=>?_;refine Z9 ?_;refine Z8 ?_;refine eQ O ?_;clear O;exact al aP
end Go.Proofs.YtfichkokppbipaaGreatDoor

/- The factors of a matrix. No condition. -/
namespace Go.Proofs.YtfichkokppbipaaGreatDoor
attribute [local irreducible] aM

theorem mm {b : Rat} {f : Nat -> Rat} {M K : Nat} (hb : ql b <= K) : ∀ k, (∀ t, t < k -> ql (f t) <= M) -> ql (b - sm k f) <= K + k * (M + 1)
 | 0, _ => by
  have : b - sm 0 f = b := by simp only [sm]; grind
  rw [this]; omega
 | k + 1, h => by
  have ih := mm hb k fun t ht => h t (by omega)
  have e : b - sm (k + 1) f = (b - sm k f) - f k := by rw [cB]; grind
  rw [e, Nat.succ_mul];exact Nat.le_trans (gr ih (h k (by omega))) (by omega)
theorem iN (b : Rat) (f : Nat -> Rat) (k : Nat) {x : Rat} (h : f k = x) : (b - sm k f) - x = b - sm (k + 1) f := by rw [cB, h]; grind
theorem mo (b : Rat) (f : Nat -> Rat) : b - sm 0 f = b := by simp only [sm]; grind
section
variable {T : Tab} {t : TypeId} {ti : TI}
theorem jR {S : cu} {id i n : Nat} {G : Nat -> RW} {x : RW} (h1 : T t = some ti) (h4 : ti.size = 4) (h5 : ti.agg = true) (hS : S id = some (.arr 4 (bd n G))) (hi : i < n) (he : G i = x) :
  bH T ⟨[], S, []⟩ t (.pe id 4 i 0) = .set (AG x.cs) := he ▸ l_q h1 h4 h5 hS hi
end
def nZ (F : Nat -> Nat -> RW) (e : Nat -> Nat) (i j : Nat) : Rat := (F (e i) (e j)).v
def lG (B : Nat -> Nat -> Rat) (n : Nat) : Bool := decide (∀ k, k < n -> 0 < DD B k)
def ju (B : Nat -> Nat -> Rat) (n : Nat) : List (List RW) := bS n n fun r c => qzW (LL B r c)
def le (B : Nat -> Nat -> Rat) (n : Nat) : List RW := cS n fun r => qzW (DD B r)
def pZ (B : Nat -> Nat -> Rat) (n : Nat) : List (List RW) × List RW × Bool := if lG B n then (ju B n, le B n, true) else ([], [], false)
def ym (B : Nat -> Nat -> Rat) (n : Nat) : Prop := ∀ i, i < n -> (∀ k, k < i -> 0 < DD B k) -> ql (DD B i) <= 65536 /\ ∀ j, j < i -> ql (LL B i j) <= 65536
def zG (s t : Nat) : RW := if t < s then qzW 0 else eh
def rG (B : Nat -> Nat -> Rat) (i j t : Nat) : RW := if t < j then qzW (LL B i t) else if t = i then qzW 1 else qzW 0
theorem wR (n : Nat) : List.replicate n eh.dc = bd n (zG 0) := by rw [q9]; exact bn fun i _ => by simp [zG]
theorem wQ (n s : Nat) : bd n (ic (zG s) s (qzW 0)) = bd n (zG (s + 1)) := bn fun i _ => by
 simp only [ic, zG]
 by_cases h : i = s
 ·rw [if_pos h, if_pos (by omega)]
 ·rw [if_neg h]
  by_cases h2 : i < s
  ·rw [if_pos h2, if_pos (by omega)]
  ·rw [if_neg h2, if_neg (by omega)]
theorem BL (B : Nat -> Nat -> Rat) (n i : Nat) : bd n (ic (zG n) i (qzW 1)) = bd n (rG B i 0) := bn fun t ht => by
 simp only [ic, zG, rG];rw [if_neg (show ¬ t < 0 by omega), if_pos ht]
theorem BJ (B : Nat -> Nat -> Rat) (n i j : Nat) : bd n (ic (rG B i j) j (qzW (LL B i j))) = bd n (rG B i (j + 1)) := bn fun t _ => by
 simp only [ic, rG]
 by_cases h : t = j
 ·rw [if_pos h, if_pos (by omega), h]
 ·rw [if_neg h]
  by_cases h2 : t < j
  ·rw [if_pos h2, if_pos (by omega)]
  ·rw [if_neg h2, if_neg (show ¬ t < j + 1 by omega)]
theorem BK (B : Nat -> Nat -> Rat) (n i : Nat) : bd n (rG B i i) = bd n (fun c => qzW (LL B i c)) := bn fun t _ => by
 simp only [rG]
 by_cases h : t < i
 ·rw [if_pos h]
 ·rw [if_neg h]
  by_cases h2 : t = i
  ·rw [if_pos h2, h2, dG]
  ·rw [if_neg h2, iX B (by omega)]
theorem uE {n m j : Nat} {F : Nat -> Nat -> RW} (h : j < n) : ((bS n m F).map cM)[j]? = some (cM (cS m (F j))) := by simp [bS, h]
theorem ik (n m : Nat) (F : Nat -> Nat -> RW) : ((bS n m F).map cM).length = n := by simp [bS]

set_option maxHeartbeats 1000000 in
theorem xV (n : Nat) (F : Nat -> Nat -> RW) (e : Nat -> Nat) (hn : n <= 16) (he : ∀ i, i < n -> e i < n) (ok : ∀ i j, i < n -> j < n -> (F i j).OK 65536) (hS : ym (nZ F e) n) :
  Con Tryz.prog 87 [V1 (dMs (bS n n F)), V1 (.sl (nmD n e))] { v := .tup [.one (.d (dMs (pZ (nZ F e) n).1)), .one (.d (dRs (pZ (nZ F e) n).2.1)), .one (.d (.lit (.bool (pZ (nZ F e) n).2.2)))] } := by
 obtain ⟨B, hB⟩ : ∃ B, B = nZ F e := ⟨_, rfl⟩
 rw [<- hB] at hS ⊢
 have hBv : ∀ i j, B i j = (F (e i) (e j)).v := fun i j => by rw [hB]; rfl
 clear hB;refine Z3 Tryz.func87 ?_
 intro w0 X
 rw [aq _ _ [(0, V1 (dMs (bS n n F))), (1, V1 (.sl (nmD n e)))] rfl rfl];refine gQ fun _ O=>?_;refine Z8 ?_;refine Z8 ?_;refine Z8 ?_;refine eQ O ?_;clear O;refine gQ fun _ O=>?_;refine Z8 ?_;refine eQ O ?_;clear O;refine gQ fun _ O=>?_;refine Z8 ?_;refine eQ O ?_;clear O;refine ag ?_;refine gQ fun _ O=>?_;refine Z9 ?_;refine az rfl (C7 rfl rfl) rfl ?_;refine Z9 ?_;refine eQ O ?_;clear O;refine aj (aI (α := Nat) (fun i => mk 121 [(0, V1 (dMs (bS n n F))), (1, V1 (.sl (nmD n e))), (7, bD 200 1 i), (8, bD 201 4 i), (17, V1 (.sl (nmD n e))), (18, dI n), (19, dI i)] [(200, bB 1 ((bS i n fun r c => qzW (LL B r c)).map cM) i), (201, bB 4 (bd i fun r => qzW (DD B r)) i)] []) (fun i => i <= n /\ ∀ k, k < i -> 0 < DD B k) (fun i => n - i) 0 ?_ ⟨Nat.zero_le _, fun _ h => by omega⟩ ?_)
 ·exact Wk.mk' ⟨rfl, rfl, rfl, rfl, rfl, rfl, rfl, trivial⟩ ⟨rfl, rfl, trivial⟩
 rintro i ⟨hi, hI⟩
 refine gQ fun _ O=>?_;refine Z6 ?_;refine eQ O ?_;clear O;refine ag ?_;refine ap rfl (fun hg => ?_) (fun hg => ?_)
 ·have hg : i < n := by simp at hg; omega
  have ei := he i hg
  obtain ⟨qD, qL⟩ := hS i hg hI
  have n1 := rr i n (fun r c => qzW (LL B r c))
  have n2 := ra i (fun r => qzW (DD B r))
  have z1 := ik i n (fun r c => qzW (LL B r c))
  have z2 := d5 i (fun r => qzW (DD B r))
  have g1 : ∀ j, j < i -> ((bS i n fun r c => qzW (LL B r c)).map cM)[j]? = some (cM (cS n fun c => qzW (LL B j c))) := fun j hj => uE hj
  generalize (bS i n fun r c => qzW (LL B r c)).map cM = es at n1 z1 g1 ⊢;refine ak ?_;show AWP _ _ _ _ _ _;refine ag ?_;refine aj ?_;refine gQ fun _ O=>?_;refine Z9 ?_;refine ab rfl (x_n rfl rfl rfl rfl rfl hg) rfl ?_;refine Z7 ?_;refine Z8 ?_;refine Z8 ?_;refine eQ O ?_;clear O;refine gQ fun _ O=>?_;refine Z9 ?_;refine az rfl (C7 rfl rfl) rfl ?_;refine br (sz := _) (es := _) (f := _) (v := _) rfl (sV (l := n) rfl rfl rfl rfl rfl (Nat.le_of_ble_eq_true rfl) (by decide) rfl rfl (by omega)) (by rcases i with _|i <;> rfl) rfl ?_;refine Z8 ?_;refine eQ O ?_;clear O;refine ag ?_;refine gQ fun _ O=>?_;refine Z9 ?_;refine az rfl rfl rfl ?_;refine Z9 ?_;refine eQ O ?_;clear O;refine aj (aI (α := Nat) (fun s => mk 121 [(0, V1 (dMs (bS n n F))), (1, V1 (.sl (nmD n e))), (7, bD 200 1 i), (8, bD 201 4 i), (9, dI i), (10, dI (e i)), (11, .val (.one (.own 26 4 0 n))), (17, V1 (.sl (nmD n e))), (18, dI n), (19, dI i), (28, dI n), (29, dI s)] [(26, some (.arr 4 (bd n (zG s)))), (200, bB 1 es i), (201, bB 4 (bd i fun r => qzW (DD B r)) i)] []) (fun s => s <= n) (fun s => n - s) 0 ?_ (Nat.zero_le _) ?_)
  ·exact Wk.mk' ⟨rfl, rfl, rfl, rfl, rfl, rfl, rfl, rfl, rfl, rfl, rfl, rfl, trivial⟩ ⟨congrArg (fun x => some (OO.arr 4 x)) (wR n), rfl, rfl, trivial⟩
  intro s hs
  refine gQ fun _ O=>?_;refine Z6 ?_;refine eQ O ?_;clear O;refine ag ?_;refine ap rfl (fun hf => ?_) (fun hf => ?_)
  ·have hf : s < n := by simp at hf; omega
   refine ak ?_;show AWP _ _ _ _ _ _;refine ag ?_;refine aj ?_;refine gQ fun _ O=>?_;refine Z9 ?_;refine Z8 ?_;refine eQ O ?_;clear O;refine gR fun _ O=>?_;refine Z9 ?_;refine Z9 ?_;refine ac rfl rfl (BG) rfl rfl rfl rfl ?_;refine ab rfl (x_o (i := s) (j := s) rfl rfl rfl rfl rfl hf (Nat.zero_add _)) rfl ?_;refine ah rfl (mT (qzW 0) rfl rfl rfl hf) rfl rfl rfl ?_;refine eQ O ?_;clear O;rw [wQ];show AWP _ _ _ _ _ _;refine gR fun _ O=>?_;refine au rfl (aE (c := ((s + 1 : Nat) : Int)) (by omega) (by omega)) rfl ?_;refine Z9 ?_;refine eQ O ?_;clear O;exact ⟨s + 1, by omega, hf, Wk.mk' ⟨rfl, rfl, rfl, rfl, rfl, rfl, rfl, rfl, rfl, rfl, rfl, rfl, trivial⟩ ⟨rfl, rfl, rfl, trivial⟩⟩
  have hf : s = n := by simp at hf; omega
  subst hf
  refine aA ?_;show AWP _ _ _ _ _ _;refine gQ fun _ O=>?_;refine Z9 ?_;refine Z9 ?_;refine ac rfl rfl (DI) rfl rfl rfl rfl ?_;refine ab rfl (x_o (i := i) (j := i) rfl rfl rfl rfl rfl hg (Nat.zero_add _)) rfl ?_;refine ah rfl (mT (qzW 1) rfl rfl rfl hg) rfl rfl rfl ?_;refine eQ O ?_;clear O;rw [BL B]
  have cN1 := jK (F (e i) (e i)) ((ok _ _ ei ei).mono rfl)
  rw [<- hBv] at cN1;refine gQ fun _ O=>?_;refine Z9 ?_;refine Z9 ?_;refine ab rfl (nY rfl rfl rfl rfl rfl ei) rfl ?_;refine Z7 ?_;refine Z9 ?_;refine ab rfl (x_v rfl rfl rfl rfl rfl ei) rfl ?_;refine Z7 ?_;refine ac rfl rfl (cN1) rfl rfl rfl rfl ?_;refine ar rfl rfl rfl rfl rfl (by rcases i with _|i <;> rfl) ?_;refine ah rfl rfl rfl rfl rfl ?_;refine eQ O ?_;clear O;refine ag ?_;refine gQ fun _ O=>?_;refine Z9 ?_;refine Z9 ?_;refine eQ O ?_;clear O;refine aj (aI (α := Nat) (fun j => mk 121 [(0, V1 (dMs (bS s s F))), (1, V1 (.sl (nmD s e))), (7, bD 200 1 i), (8, bD 201 4 i), (10, dI (e i)), (11, .val (.one (.own 26 4 0 s))), (13, .ptr 13 0), (17, V1 (.sl (nmD s e))), (18, dI s), (19, dI i), (49, dI i), (50, dI j)] [(13, some (.box (qzW (B i i - sm j fun t => LL B i t * LL B i t * DD B t)).cs)), (26, some (.arr 4 (bd s (rG B i j)))), (200, bB 1 es i), (201, bB 4 (bd i fun r => qzW (DD B r)) i)] []) (fun j => j <= i) (fun j => i - j) 0 ?_ (Nat.zero_le _) ?_)
  ·refine Wk.mk' ⟨rfl, rfl, rfl, rfl, rfl, rfl, rfl, rfl, rfl, rfl, rfl, rfl, trivial⟩ ⟨?_, rfl, rfl, rfl, trivial⟩;rw [mo]; rfl
  intro j hj
  have tr : ∀ t, t < i -> ql (LL B i t * LL B i t * DD B t) <= 196608 := fun t ht =>
   Nat.le_trans (aC (aC (qL t ht) (qL t ht)) (hS t (by omega) fun k hk => hI k (by omega)).1) (by decide)
  have qb : ∀ a b, a < s -> b < s -> ql (B a b) <= 65536 := fun a b ha hb => by rw [hBv]; exact (ok _ _ (he a ha) (he b hb)).ql rfl
  refine gQ fun _ O=>?_;refine Z6 ?_;refine eQ O ?_;clear O;refine ag ?_;refine ap rfl (fun hf => ?_) (fun hf => ?_)
  ·have hf : j < i := by simp at hf; omega
   obtain ⟨i0, hi0⟩ : ∃ i0, i = i0 + 1 := ⟨i - 1, by omega⟩
   have hjs : j < s := by omega
   have ej := he j hjs
   have dj := hI j hf
   obtain ⟨qDj, qLj⟩ := hS j hjs fun k hk => hI k (by omega)
   have cN2 := jK (F (e i) (e j)) ((ok _ _ ei ej).mono rfl)
   rw [<- hBv] at cN2
   have tx : ∀ t, t < j -> ql (LL B i t * LL B j t * DD B t) <= 196608 := fun t ht =>
    Nat.le_trans (aC (aC (qL t (by omega)) (qLj t ht)) (hS t (by omega) fun k hk => hI k (by omega)).1) (by decide)
   have hbx : ∀ k, k <= j -> ql (B i j - sm k fun t => LL B i t * LL B j t * DD B t) <= 4194304 := fun k hk =>
    Nat.le_trans (mm (qb i j hg hjs) k fun t ht => tx t (by omega)) (by
     have := Nat.mul_le_mul_right (196608 + 1) (show k <= 16 by omega)
     omega)
   have hbr : ql (B i i - sm j fun t => LL B i t * LL B i t * DD B t) <= 4194304 :=
    Nat.le_trans (mm (qb i i hg hg) j fun t ht => tr t (by omega)) (by
     have := Nat.mul_le_mul_right (196608 + 1) (show j <= 16 by omega)
     omega)
   have hlx : (B i j - sm j fun t => LL B i t * LL B j t * DD B t) = LL B i j * DD B j := (xI B hf (by grind)).symm
   have hr0 := iN (B i i) (fun t => LL B i t * LL B i t * DD B t) j (x := LL B i j * DD B j * LL B i j) (by grind)
   refine ak ?_;show AWP _ _ _ _ _ _;refine ag ?_;refine aj ?_
   subst hi0
   refine gQ fun _ O=>?_;refine Z9 ?_;refine Z8 ?_;refine eQ O ?_;clear O;refine aH tok mixed (A := [[], [], [], [0, 1], [], [], [], [4, 5], [0, 1, 2, 4, 5, 6], [0, 1, 2, 3, 4, 5, 6, 7], [0, 1, 2, 3, 4, 5, 6, 7, 8], [], []]) (an := [{}, {}, {}, {}, {}, {}, {}, {}, {}, {}, {}, { c := [63] }, {}]) rfl (by kernel_rfl) rfl fun _ O=>?_;refine Z9 ?_;refine Z9 ?_;refine ab rfl (nY rfl rfl rfl rfl rfl ei) rfl ?_;refine Z7 ?_;refine Z9 ?_;refine Z9 ?_;refine ab rfl (x_n rfl rfl rfl rfl rfl hjs) rfl ?_;refine Z7 ?_;refine ab rfl (x_v rfl rfl rfl rfl rfl ej) rfl ?_;refine Z7 ?_;refine ac rfl rfl (cN2) rfl rfl rfl rfl ?_;refine ar rfl rfl rfl rfl rfl rfl ?_;refine ah rfl rfl rfl rfl rfl ?_;refine eQ O ?_;clear O;refine ag ?_;refine gQ fun _ O=>?_;refine Z9 ?_;refine Z9 ?_;refine eQ O ?_;clear O;refine aj (aI (α := Nat) (fun k => mk 121 [(0, V1 (dMs (bS s s F))), (1, V1 (.sl (nmD s e))), (7, bD 200 1 (i0 + 1)), (8, bD 201 4 (i0 + 1)), (10, dI (e (i0 + 1))), (11, .val (.one (.own 26 4 0 s))), (13, .ptr 13 0), (14, dI j), (15, .ptr 15 0), (17, V1 (.sl (nmD s e))), (18, dI s), (19, dI (i0 + 1 : Nat)), (49, dI (i0 + 1 : Nat)), (50, dI j), (64, dI j), (65, dI k)] [(13, some (.box (qzW (B (i0 + 1) (i0 + 1) - sm j fun t => LL B (i0 + 1) t * LL B (i0 + 1) t * DD B t)).cs)), (15, some (.box (qzW (B (i0 + 1) j - sm k fun t => LL B (i0 + 1) t * LL B j t * DD B t)).cs)), (26, some (.arr 4 (bd s (rG B (i0 + 1) j)))), (200, bB 1 es (i0 + 1)), (201, bB 4 (bd (i0 + 1) fun r => qzW (DD B r)) (i0 + 1))] []) (fun k => k <= j) (fun k => j - k) 0 ?_ (Nat.zero_le _) ?_)
   ·refine Wk.mk' ⟨rfl, rfl, rfl, rfl, rfl, rfl, rfl, rfl, rfl, rfl, rfl, rfl, rfl, rfl, rfl, rfl, trivial⟩ ⟨rfl, ?_, rfl, rfl, rfl, trivial⟩;rw [mo]; rfl
   intro k hk
   refine gQ fun _ O=>?_;refine Z6 ?_;refine eQ O ?_;clear O;refine ag ?_;refine ap rfl (fun hc => ?_) (fun hc => ?_)
   ·have hc : k < j := by simp at hc; omega
    have qk := (hS k (by omega) fun k' hk' => hI k' (by omega)).1
    have cm := ko (qzW (LL B (i0 + 1) k)) (qzW (LL B j k)) (LL B (i0 + 1) k * LL B j k) ((aD (qL k (by omega))).mono rfl) ((aD (qLj k hc)).mono rfl) (by rw [aR, aR])
    have cl := ow (qzW (B (i0 + 1) j - sm k fun t => LL B (i0 + 1) t * LL B j t * DD B t)) (qzW (LL B (i0 + 1) k * LL B j k)) (qzW (DD B k)) (B (i0 + 1) j - sm (k + 1) fun t => LL B (i0 + 1) t * LL B j t * DD B t) ((aD (hbx k (by omega))).mono rfl) ((aD (aC (qL k (by omega)) (qLj k hc))).mono rfl) ((aD qk).mono rfl) (by rw [aR, aR, aR]; exact iN _ _ _ rfl)
    refine ak ?_;show AWP _ _ _ _ _ _;refine ag ?_;refine aj ?_;refine gQ fun _ O=>?_;refine Z9 ?_;refine Z8 ?_;refine eQ O ?_;clear O;refine bb tok mixed (A := [[], [], [], [], [1, 2], [], [], [], [5, 6], [], [5, 6, 7], [5, 6, 7, 8, 9], [1, 2, 3, 5, 6, 7, 8, 9, 10], [], [], [], [13, 14], [1, 2, 3, 4, 5, 6, 7, 8, 9, 10, 11, 13, 14, 15], []]) (an := [{}, {}, {}, {}, {}, {}, {}, {}, {}, {}, {}, {}, {}, { c := [80] }, { c := [80] }, { c := [80] }, { c := [80] }, {}, {}]) rfl (by kernel_rfl) rfl fun _ O=>?_;refine Z7 ?_;refine Z9 ?_;refine Z9 ?_;refine ab rfl (x_o (i := k) (j := k) rfl rfl rfl rfl rfl (show k < s by omega) (Nat.zero_add _)) rfl ?_;refine aQ rfl (jR rfl rfl rfl rfl (show k < s by omega) (if_pos hc)) rfl ?_;refine Z9 ?_;refine Z9 ?_;refine ab rfl (x_o (i := j) (j := j) rfl rfl rfl rfl rfl hf (Nat.zero_add _)) rfl ?_;refine aQ rfl (l_o rfl rfl (g1 j hf) rfl rfl) rfl ?_;refine Z9 ?_;refine ab rfl (x_v rfl rfl rfl rfl rfl (show k < s by omega)) rfl ?_;refine Z7 ?_;refine ac rfl rfl (cm) rfl rfl rfl rfl ?_;refine Z9 ?_;refine Z9 ?_;refine ab rfl (x_o (i := k) (j := k) rfl rfl rfl rfl rfl (show k < i0 + 1 by omega) (Nat.zero_add _)) rfl ?_;refine aQ rfl (jR rfl rfl rfl rfl (show k < i0 + 1 by omega) rfl) rfl ?_;refine ac rfl rfl (cl) rfl rfl rfl rfl ?_;refine ah rfl rfl rfl rfl rfl ?_;refine eQ O ?_;clear O;show AWP _ _ _ _ _ _;refine gR fun _ O=>?_;refine au rfl (aE (c := ((k + 1 : Nat) : Int)) (by omega) (by omega)) rfl ?_;refine Z9 ?_;refine eQ O ?_;clear O;exact ⟨k + 1, by omega, hc, Wk.mk' ⟨rfl, rfl, rfl, rfl, rfl, rfl, rfl, rfl, rfl, rfl, rfl, rfl, rfl, rfl, rfl, rfl, trivial⟩ ⟨rfl, rfl, rfl, rfl, rfl, trivial⟩⟩
   have hc : k = j := by simp at hc; omega
   subst hc
   refine aA ?_;show AWP _ _ _ _ _ _;rw [hlx]
   have ox := aC (qL k hf) qDj
   have cd := zN (qzW (LL B (i0 + 1) k * DD B k)) (qzW (DD B k)) (LL B (i0 + 1) k) ((aD ox).mono rfl) ((aD qDj).mono rfl) (by rw [aR]; grind) (by rw [aR, aR]; grind)
   have cl := ow (qzW (B (i0 + 1) (i0 + 1) - sm k fun t => LL B (i0 + 1) t * LL B (i0 + 1) t * DD B t)) (qzW (LL B (i0 + 1) k * DD B k)) (qzW (LL B (i0 + 1) k)) (B (i0 + 1) (i0 + 1) - sm (k + 1) fun t => LL B (i0 + 1) t * LL B (i0 + 1) t * DD B t) ((aD hbr).mono rfl) ((aD ox).mono rfl) ((aD (qL k hf)).mono rfl) (by rw [aR, aR, aR]; exact hr0)
   refine aH tok mixed (A := [[], [], [], [], [], [], [3, 4], [3, 4, 5], [2, 3, 4, 5, 6], [2, 3, 4, 5, 6, 7], [2, 3, 4, 5, 6, 7], [], []]) (an := [{}, {}, {}, {}, {}, {}, {}, {}, {}, {}, {}, {}, {}]) rfl (by kernel_rfl) rfl fun _ O=>?_;refine Z9 ?_;refine Z9 ?_;refine Z7 ?_;refine Z9 ?_;refine Z9 ?_;refine ab rfl (x_o (i := k) (j := k) rfl rfl rfl rfl rfl hf (Nat.zero_add _)) rfl ?_;refine aQ rfl (jR rfl rfl rfl rfl hf rfl) rfl ?_;refine ac rfl rfl (cd) rfl rfl rfl rfl ?_;refine Z9 ?_;refine am rfl rfl rfl ?_;refine am rfl rfl rfl ?_;refine ab rfl (x_o (i := k) (j := k) rfl rfl rfl rfl rfl hjs (Nat.zero_add _)) rfl ?_;refine ah rfl (mT (qzW (LL B (i0 + 1) k)) rfl rfl rfl hjs) rfl rfl rfl ?_;refine eQ O ?_;clear O;rw [BJ];refine bb tok mixed (A := [[], [], [], [], [], [2, 3], [2, 3, 4], []]) (an := [{}, {}, {}, {}, {}, {}, {}, {}]) rfl (by kernel_rfl) rfl fun _ O=>?_;refine Z7 ?_;refine Z7 ?_;refine Z9 ?_;refine Z9 ?_;refine ab rfl (x_o (i := k) (j := k) rfl rfl rfl rfl rfl hjs (Nat.zero_add _)) rfl ?_;refine aQ rfl (jR rfl rfl rfl rfl hjs (if_pos (Nat.lt_succ_self k))) rfl ?_;refine ac rfl rfl (cl) rfl rfl rfl rfl ?_;refine ah rfl rfl rfl rfl rfl ?_;refine eQ O ?_;clear O;show AWP _ _ _ _ _ _;refine gR fun _ O=>?_;refine au rfl (aE (c := ((k + 1 : Nat) : Int)) (by omega) (by omega)) rfl ?_;refine Z9 ?_;refine eQ O ?_;clear O;exact ⟨k + 1, by omega, hf, Wk.mk' ⟨rfl, rfl, rfl, rfl, rfl, rfl, rfl, rfl, rfl, rfl, rfl, rfl, trivial⟩ ⟨rfl, rfl, rfl, rfl, trivial⟩⟩
  have hf : j = i := by simp at hf; omega
  subst hf
  refine aA ?_;show AWP _ _ _ _ _ _;rw [<- Bh B j, BK]
  have cs := B8 (qzW (DD B j)) ((aD qD).mono rfl)
  rw [aR] at cs;refine ag ?_;refine gQ fun _ O=>?_;refine Z7 ?_;refine ac rfl rfl (cs) rfl rfl rfl rfl ?_;refine Z6 ?_;refine eQ O ?_;clear O;refine ap rfl (fun hd => ?_) (fun hd => ?_)
  ·have hd : ¬ 0 < DD B j := kn.1 (of_decide_eq_true hd)
   have ef : pZ B s = ([], [], false) := by rw [pZ, if_neg]; simp only [lG, decide_eq_true_eq]; exact fun h => hd (h j hg)
   rw [ef];refine gQ fun _ O=>?_;refine Z8 ?_;refine Z8 ?_;refine Z8 ?_;refine eQ O ?_;clear O;exact al aP
  ·have hd : 0 < DD B j := by
    have := of_decide_eq_false hd
    exact Classical.byContradiction fun h => this (kn.2 h)
   refine ak ?_;show AWP _ _ _ _ _ _
   rcases j with _ | j
   ·refine cQ [0, 1, 7, 8, 11, 13, 17, 18, 19] [13, 26, 200, 201] 26 [(0, V1 (dMs (bS s s F))), (1, V1 (.sl (nmD s e))), (7, bD 200 1 (0)), (8, bD 201 4 (0)), (11, V1 (dRs (cS s fun c => qzW (LL B (0) c)))), (13, .ptr 13 0), (17, V1 (.sl (nmD s e))), (18, dI s), (19, dI (0 : Nat))] [(13, some (.box (qzW (DD B (0))).cs)), (200, bB 1 es (0)), (201, bB 4 (bd (0) fun r => qzW (DD B r)) (0))] rfl ?_ ⟨rfl, rfl, rfl, trivial⟩ ?_
    ·exact ⟨rfl, rfl, rfl, rfl, bz (jz s _).symm (by simp [cS]), rfl, rfl, rfl, rfl, trivial⟩
    refine bb tok mixed (A := [[], [], [], [1], [], [], [], [0, 1, 2, 5], [4, 5, 6], []]) (an := [{}, {}, {}, {}, { c := [112, 113] }, { c := [112, 113] }, { c := [112, 113] }, {}, {}, {}]) rfl (by kernel_rfl) rfl fun _ O=>?_;refine Z9 ?_;refine Z9 ?_;refine aw rfl rfl rfl rfl ?_;refine aO rfl (da rfl rfl rfl rfl rfl (by decide) (Nat.le_of_ble_eq_true rfl) rfl (by simp) rfl (by simp) (by simp)) rfl rfl rfl ?_;refine Z9 ?_;refine Z7 ?_;refine aw rfl rfl rfl rfl ?_;refine aO rfl (da rfl rfl rfl rfl rfl (by decide) (Nat.le_of_ble_eq_true rfl) rfl (by simp) rfl (by simp) (by simp)) rfl rfl rfl ?_;refine Z8 ?_;refine Z8 ?_;refine eQ O ?_;clear O;refine qP [0, 1, 7, 8, 17, 18, 19] [113, 117] 113 200 [(0, V1 (dMs (bS s s F))), (1, V1 (.sl (nmD s e))), (7, bD 200 1 (0 + 1)), (8, bD 117 4 (0 + 1)), (17, V1 (.sl (nmD s e))), (18, dI s), (19, dI (0 : Nat))] [(200, bB 1 ((bS (0 + 1) s fun r c => qzW (LL B r c)).map cM) (0 + 1)), (117, bB 4 (bd (0 + 1) fun r => qzW (DD B r)) (0 + 1))] rfl rfl rfl ⟨rfl, rfl, ?_, ?_, rfl, rfl, rfl, trivial⟩ ⟨?_, ?_, trivial⟩ ?_
    ·show SV.val (.one (.own 200 1 0 _)) = _
     first
      | rfl
      | (rw [List.length_append, z1]; rfl)
    ·show SV.val (.one (.own 117 4 0 _)) = _
     first
      | rfl
      | (rw [List.length_append, z2]; rfl)
    ·first
      | (rw [<- n1, List.length_eq_zero_iff.1 z1]; rfl)
      | (rw [<- n1]; rfl)
    ·first
      | (rw [<- n2, List.length_eq_zero_iff.1 z2]; rfl)
      | (rw [<- n2]; rfl)
    show AWP _ _ _ _ _ _;refine gR fun _ O=>?_;refine au rfl (aE (c := ((0 + 1 : Nat) : Int)) (by omega) (by omega)) rfl ?_;refine Z9 ?_;refine eQ O ?_;clear O;refine ⟨0 + 1, by omega, ⟨hg, fun k hk => ?_⟩, Wk.rn [0, 1, 7, 8, 17, 18, 19] [200, 117] 117 201 rfl rfl rfl ⟨rfl, rfl, rfl, rfl, rfl, rfl, rfl, trivial⟩ ⟨rfl, rfl, trivial⟩⟩
    by_cases e : k = 0
    ·rw [e]; exact hd
    ·exact hI k (by omega)
   ·refine cQ [0, 1, 7, 8, 11, 13, 17, 18, 19] [13, 26, 200, 201] 26 [(0, V1 (dMs (bS s s F))), (1, V1 (.sl (nmD s e))), (7, bD 200 1 (j + 1)), (8, bD 201 4 (j + 1)), (11, V1 (dRs (cS s fun c => qzW (LL B (j + 1) c)))), (13, .ptr 13 0), (17, V1 (.sl (nmD s e))), (18, dI s), (19, dI (j + 1 : Nat))] [(13, some (.box (qzW (DD B (j + 1))).cs)), (200, bB 1 es (j + 1)), (201, bB 4 (bd (j + 1) fun r => qzW (DD B r)) (j + 1))] rfl ?_ ⟨rfl, rfl, rfl, trivial⟩ ?_
    ·exact ⟨rfl, rfl, rfl, rfl, bz (jz s _).symm (by simp [cS]), rfl, rfl, rfl, rfl, trivial⟩
    refine bb tok mixed (A := [[], [], [], [1], [], [], [], [0, 1, 2, 5], [4, 5, 6], []]) (an := [{}, {}, {}, {}, { c := [112, 113] }, { c := [112, 113] }, { c := [112, 113] }, {}, {}, {}]) rfl (by kernel_rfl) rfl fun _ O=>?_;refine Z9 ?_;refine Z9 ?_;refine aw rfl rfl rfl rfl ?_;refine aO rfl (eI rfl rfl rfl rfl rfl rfl (by decide) (Nat.le_of_ble_eq_true rfl) rfl (by simp) rfl rfl z1.symm (by simp <;> omega)) rfl rfl rfl ?_;refine Z9 ?_;refine Z7 ?_;refine aw rfl rfl rfl rfl ?_;refine aO rfl (eI rfl rfl rfl rfl rfl rfl (by decide) (Nat.le_of_ble_eq_true rfl) rfl (by simp) rfl rfl z2.symm (by simp <;> omega)) rfl rfl rfl ?_;refine Z8 ?_;refine Z8 ?_;refine eQ O ?_;clear O;refine qP [0, 1, 7, 8, 17, 18, 19] [113, 117] 113 200 [(0, V1 (dMs (bS s s F))), (1, V1 (.sl (nmD s e))), (7, bD 200 1 (j + 1 + 1)), (8, bD 117 4 (j + 1 + 1)), (17, V1 (.sl (nmD s e))), (18, dI s), (19, dI (j + 1 : Nat))] [(200, bB 1 ((bS (j + 1 + 1) s fun r c => qzW (LL B r c)).map cM) (j + 1 + 1)), (117, bB 4 (bd (j + 1 + 1) fun r => qzW (DD B r)) (j + 1 + 1))] rfl rfl rfl ⟨rfl, rfl, ?_, ?_, rfl, rfl, rfl, trivial⟩ ⟨?_, ?_, trivial⟩ ?_
    ·show SV.val (.one (.own 200 1 0 _)) = _
     first
      | rfl
      | (rw [List.length_append, z1]; rfl)
    ·show SV.val (.one (.own 117 4 0 _)) = _
     first
      | rfl
      | (rw [List.length_append, z2]; rfl)
    ·first
      | (rw [<- n1, List.length_eq_zero_iff.1 z1]; rfl)
      | (rw [<- n1]; rfl)
    ·first
      | (rw [<- n2, List.length_eq_zero_iff.1 z2]; rfl)
      | (rw [<- n2]; rfl)
    show AWP _ _ _ _ _ _;refine gR fun _ O=>?_;refine au rfl (aE (c := ((j + 1 + 1 : Nat) : Int)) (by omega) (by omega)) rfl ?_;refine Z9 ?_;refine eQ O ?_;clear O;refine ⟨j + 1 + 1, by omega, ⟨hg, fun k hk => ?_⟩, Wk.rn [0, 1, 7, 8, 17, 18, 19] [200, 117] 117 201 rfl rfl rfl ⟨rfl, rfl, rfl, rfl, rfl, rfl, rfl, trivial⟩ ⟨rfl, rfl, trivial⟩⟩
    by_cases e : k = j + 1
    ·rw [e]; exact hd
    ·exact hI k (by omega)
 have hg : i = n := by simp at hg; omega
 subst hg
 refine aA ?_;show AWP _ _ _ _ _ _
 have ef : pZ B i = (ju B i, le B i, true) := by rw [pZ, if_pos]; simp only [lG, decide_eq_true_eq]; exact hI
 rw [ef]
 rcases i with _ | i
 ·refine gQ fun _ O=>?_;refine Z9 ?_;refine Z9 ?_;refine Z8 ?_;refine Z8 ?_;refine Z8 ?_;refine eQ O ?_;clear O;exact al aP
 ·refine cQ [7, 8] [200, 201] 200 [(7, V1 (dMs (ju B (i + 1)))), (8, bD 201 4 (i + 1))] [(201, bB 4 (bd (i + 1) fun r => qzW (DD B r)) (i + 1))] rfl ?_ ⟨rfl, trivial⟩ ?_
  ·exact ⟨bz rfl (ik _ _ _).symm, rfl, trivial⟩
  refine cQ [7, 8] [201] 201 [(7, V1 (dMs (ju B (i + 1)))), (8, V1 (dRs (le B (i + 1))))] [] rfl ?_ trivial ?_
  ·exact ⟨rfl, bz (jz _ _).symm (by simp [le, cS]), trivial⟩
  refine gQ fun _ O=>?_;refine Z9 ?_;refine Z9 ?_;refine Z8 ?_;refine Z8 ?_;refine Z8 ?_;refine eQ O ?_;clear O;exact al aP
end Go.Proofs.YtfichkokppbipaaGreatDoor

/- Systems of equations. No condition. -/
namespace Go.Proofs.YtfichkokppbipaaGreatDoor
attribute [local irreducible] aM

theorem CI {L : Nat -> Nat -> Rat} {b : Nat -> Rat} {n m : Nat} (hm : m < n) : bsx L b n n m = b m - sm n (fun j => if m < j then L j m * bsx L b n n j else 0) := by
 rw [kA L b (m := n) (s := n - m) (by omega) (by omega)]
 obtain ⟨s, hs⟩ : ∃ s, n - m = s + 1 := ⟨n - m - 1, by omega⟩
 rw [hs];simp only [bsx]
 rw [if_pos (by omega), sm_congr (f := fun j => if m < j then L j m * bsx L b n s j else 0) (g := fun j => if m < j then L j m * bsx L b n n j else 0) (fun j hj => by
  by_cases h : m < j
  ·rw [if_pos h, if_pos h, kA L b (m := n) (s := s) (i := j) (by omega) (by omega)]
  ·rw [if_neg h, if_neg h])]
theorem rl {x y : Rat} {k l : Nat} (hx : ql x <= k) (hy : ql y <= l) : ql (x / y) <= k + l := by
 by_cases h : y = 0
 ·subst h
  have : x / 0 = 0 := by rw [Rat.div_def, Rat.inv_zero, Rat.mul_zero]
  rw [this]
  have h1 := vF x
  exact Nat.le_trans eC (by omega)
 ·have h1 := (Ap hy).ql (k := l) (Nat.ble_eq_true_of_le (Nat.le_trans (vF y) hy))
  rw [C8] at h1;rw [Rat.div_def];exact aC hx h1
def d6 (b : List RW) (i : Nat) : Rat := (b.getD i eh).v
def ce (m : List (List RW)) (i j : Nat) : Rat := (mtv m i j).v
def gV (B : Nat -> Nat -> Rat) (b : Nat -> Rat) (n : Nat) : List RW := cS n fun i => qzW (slv B b n i)
def dO (m : List (List RW)) (b : List RW) : List RW × Int :=
 if dN m = true /\ b.length = m.length then (if lG (ce m) m.length then (gV (ce m) (d6 b) m.length, 0) else ([], 10)) else ([], 1)
def xQ (B : Nat -> Nat -> Rat) (b : Nat -> Rat) (n : Nat) : Prop := (∀ i, i < n -> ql (fwv (LL B) b i) <= 655360) /\ ∀ i, i < n -> ql (slv B b n i) <= 65536
theorem wH {b : List RW} {n : Nat} (hn : b.length = n) : b = cS n fun i => b.getD i eh := by
 apply List.ext_getElem?
 intro i
 rcases Nat.lt_or_ge i n with hi | hi
 ·have : i < b.length := by omega
  simp [cS, hi, this]
 ·rw [List.getElem?_eq_none (by omega), List.getElem?_eq_none (by simp [cS]; omega)]
section
variable (B : Nat -> Nat -> Rat) (b : Nat -> Rat)
def fwG (i t : Nat) : RW := if t < i then qzW (fwv (LL B) b t) else eh
def fwR (i k t : Nat) : RW := if t < i then qzW (fwv (LL B) b t) else if t = i then qzW (b i - sm k fun j => LL B i j * fwv (LL B) b j) else eh
def dvG (i t : Nat) : RW := if t < i then qzW (fwv (LL B) b t / DD B t) else qzW (fwv (LL B) b t)
def bkG (n s t : Nat) : RW := if n <= t + s then qzW (slv B b n t) else qzW (fwv (LL B) b t / DD B t)
def bkF (n i j : Nat) : Rat := if i < j then LL B j i * slv B b n j else 0
def bkR (n i m t : Nat) : RW := if i < t then qzW (slv B b n t) else if t = i then qzW (fwv (LL B) b i / DD B i - sm m (bkF B b n i)) else qzW (fwv (LL B) b t / DD B t)
theorem fw0 (n : Nat) : List.replicate n eh.dc = bd n (fwG B b 0) := by rw [q9]; exact bn fun i _ => by simp [fwG]
theorem fw1 (n i : Nat) : bd n (ic (fwG B b i) i (qzW (b i))) = bd n (fwR B b i 0) := bn fun t _ => by
 simp only [ic, fwG, fwR]
 by_cases h : t = i
 ·rw [if_pos h, if_neg (by omega), if_pos h, mo]
 ·rw [if_neg h, if_neg h]
theorem fw2 (n i k : Nat) : bd n (ic (fwR B b i k) i (qzW (b i - sm (k + 1) fun j => LL B i j * fwv (LL B) b j))) = bd n (fwR B b i (k + 1)) := bn fun t _ => by
 simp only [ic, fwR]
 by_cases h : t = i
 ·rw [if_pos h, if_neg (by omega), if_pos h]
 ·rw [if_neg h, if_neg h, if_neg h]
theorem fw3 (n i : Nat) : bd n (fwR B b i i) = bd n (fwG B b (i + 1)) := bn fun t _ => by
 simp only [fwR, fwG];rw [<- tk]
 by_cases h : t < i
 ·rw [if_pos h, if_pos (by omega)]
 ·rw [if_neg h]
  by_cases h2 : t = i
  ·rw [if_pos h2, if_pos (by omega), h2]
  ·rw [if_neg h2, if_neg (by omega)]
theorem dv0 (n : Nat) : bd n (fwG B b n) = bd n (dvG B b 0) := bn fun t ht => by simp [fwG, dvG, ht]
theorem dv1 (n i : Nat) : bd n (ic (dvG B b i) i (qzW (fwv (LL B) b i / DD B i))) = bd n (dvG B b (i + 1)) := bn fun t _ => by
 simp only [ic, dvG]
 by_cases h : t = i
 ·rw [if_pos h, if_pos (by omega), h]
 ·rw [if_neg h]
  by_cases h2 : t < i
  ·rw [if_pos h2, if_pos (by omega)]
  ·rw [if_neg h2, if_neg (by omega)]
theorem bk0 (n : Nat) : bd n (dvG B b n) = bd n (bkG B b n 0) := bn fun t ht => by
 simp only [dvG, bkG];rw [if_pos ht, if_neg (by omega)]
theorem A8 (n i : Nat) : sm (i + 1) (bkF B b n i) = 0 := gJ fun j hj => by simp only [bkF]; rw [if_neg (by omega)]
theorem bk1 {n i s : Nat} (h : n = i + s + 1) : bd n (bkG B b n s) = bd n (bkR B b n i (i + 1)) := bn fun t ht => by
 simp only [bkG, bkR];rw [A8]
 by_cases h1 : i < t
 ·rw [if_pos (by omega), if_pos h1]
 ·rw [if_neg (by omega), if_neg h1]
  by_cases h2 : t = i
  ·rw [if_pos h2, h2]; congr 1; grind
  ·rw [if_neg h2]
theorem bk2 (n i m : Nat) : bd n (ic (bkR B b n i m) i (qzW (fwv (LL B) b i / DD B i - sm (m + 1) (bkF B b n i)))) = bd n (bkR B b n i (m + 1)) := bn fun t _ => by
 simp only [ic, bkR]
 by_cases h : t = i
 ·rw [if_pos h, if_neg (by omega), if_pos h]
 ·rw [if_neg h, if_neg h, if_neg h]
theorem bk3 {n i s : Nat} (h : n = i + s + 1) : bd n (bkR B b n i n) = bd n (bkG B b n (s + 1)) := bn fun t ht => by
 have e : slv B b n i = fwv (LL B) b i / DD B i - sm n (bkF B b n i) := CI (L := LL B) (b := fun k => fwv (LL B) b k / DD B k) (show i < n by omega)
 simp only [bkG, bkR];rw [<- e]
 by_cases h1 : i < t
 ·rw [if_pos h1, if_pos (by omega)]
 ·rw [if_neg h1]
  by_cases h2 : t = i
  ·rw [if_pos h2, if_pos (by omega), h2]
  ·rw [if_neg h2, if_neg (by omega)]
theorem bk4 (n : Nat) : bd n (bkG B b n n) = bd n (fun i => qzW (slv B b n i)) := bn fun t _ => by
 simp only [bkG]; rw [if_pos (by omega)]
end

set_option maxHeartbeats 1000000 in
theorem tW (m : List (List RW)) (b : List RW) (hl : m.length <= 9223372036854775806) (hlb : b.length <= 9223372036854775806) (hr : ∀ r ∈ m, r.length <= 9223372036854775806) (ok : okM 65536 m) (ob : ∀ x ∈ b, x.OK 65536)
  (hF : dN m = true -> b.length = m.length -> ym (ce m) m.length /\ (lG (ce m) m.length = true -> xQ (ce m) (d6 b) m.length)) :
  Con Tryz.prog 41 [V1 (dMs m), V1 (dRs b)] { v := .tup [.one (.d (dRs (dO m b).1)), .one (.d (lI (dO m b).2))] } := by
 refine Z3 Tryz.func41 ?_
 intro w0 X
 rw [aq _ _ [(0, V1 (dMs m)), (1, V1 (dRs b))] rfl rfl];refine gQ fun _ O=>?_;refine Z8 ?_;refine Z8 ?_;refine eQ O ?_;clear O;refine ag ?_;refine aT (α := Bool) (fun c => mk 133 [(0, V1 (dMs m)), (1, V1 (dRs b)), (24, dB c)] [] []) (fun c => c = !(dN m && decide (b.length = m.length))) ?_ ?_
 ·refine bO fun _ O=>?_;refine aa tok rfl ?_;refine Z9 ?_;refine ae ?_;refine aa tok rfl ?_;refine ac rfl rfl (y9 m hl hr ok) rfl rfl rfl rfl ?_;refine ae ?_;refine aa tok rfl ?_;refine dz rfl rfl rfl ?_;refine ae ?_;refine aa tok rfl ?_;refine Z9 ?_;refine ae ?_;refine aV (fun h0 => ?_) (fun h0 => ?_)
  ·refine ai rfl rfl ?_;refine ai rfl rfl ?_;refine ai rfl rfl ?_;refine ai rfl rfl ?_;refine ai rfl rfl ?_;refine aa tok rfl ?_;refine Z4 ?_;refine ae ?_;refine aW rfl (O _ ?_); clear O;exact ⟨_, (by simp only [Bool.not_eq_true', Bool.not_eq_false'] at h0; rw [h0]; first|rfl|(rw [Bool.eq_iff_iff]; simp only [Bool.true_and, bne_iff_ne, ne_eq, Bool.not_eq_true', decide_eq_false_iff_not]; omega)), Wk.mk' ⟨rfl, rfl, rfl, trivial⟩ trivial⟩
  ·refine aa tok rfl ?_;refine Z9 ?_;refine ae ?_;refine aa tok rfl ?_;refine az rfl (a8 RW.dc rfl rfl) rfl ?_;refine ae ?_;refine aa tok rfl ?_;refine Z9 ?_;refine ae ?_;refine aa tok rfl ?_;refine az rfl (a8 cM rfl rfl) rfl ?_;refine ae ?_;refine aa tok rfl ?_;refine Z6 ?_;refine ae ?_;refine aa tok rfl ?_;refine Z4 ?_;refine ae ?_;refine aW rfl (O _ ?_); clear O;exact ⟨_, (by simp only [Bool.not_eq_true', Bool.not_eq_false'] at h0; rw [h0]; first|rfl|(rw [Bool.eq_iff_iff]; simp only [Bool.true_and, bne_iff_ne, ne_eq, Bool.not_eq_true', decide_eq_false_iff_not]; omega)), Wk.mk' ⟨rfl, rfl, rfl, trivial⟩ trivial⟩
 rintro c rfl
 refine ap rfl (fun hc => ?_) (fun hc => ?_)
 ·have e : dO m b = ([], 1) := by rw [dO, if_neg]; intro h; simp [h.1, h.2] at hc
  rw [e];refine gQ fun _ O=>?_;refine Z8 ?_;refine Z8 ?_;refine eQ O ?_;clear O;exact al aP
 have hc : dN m = true /\ b.length = m.length := by simpa using hc
 obtain ⟨hF1, hF2⟩ := hF hc.1 hc.2
 rw [dO, if_pos hc]
 have hV := of_decide_eq_true hc.1
 obtain ⟨hv1, hv2, _⟩ := hV
 obtain ⟨n, hn⟩ : ∃ n, m.length = n := ⟨_, rfl⟩
 have hm : m = bS n n (mtv m) := oK hn (fun r hr => (hv2 r hr).trans hn)
 have hbl : b.length = n := hc.2.trans hn
 have oF : ∀ i j, i < n -> j < n -> (mtv m i j).OK 65536 := fun i j hi hj => by rw [hm] at ok; exact oH ok hi hj
 obtain ⟨G, hG⟩ : ∃ G : Nat -> RW, G = fun i => b.getD i eh := ⟨_, rfl⟩
 have hb : b = cS n G := by rw [hG]; exact wH hbl
 have oG : ∀ i, i < n -> (G i).OK 65536 := fun i hi => by
  have hib : i < b.length := by omega
  have : G i = b[i] := by rw [hG]; simp [hib]
  rw [this]; exact ob _ (List.getElem_mem hib)
 have hbv : ∀ i, d6 b i = (G i).v := fun i => by rw [hG]; rfl
 rw [hn] at hF1 hF2 hv1
 have cF := xV n (mtv m) (fun i => i) hv1 (fun i hi => hi) oF hF1
 rw [<- hm] at cF
 have eB : nZ (mtv m) (fun i => i) = ce m := rfl
 rw [eB] at cF;generalize d6 b = bv at hF2 hbv ⊢;generalize ce m = B at cF hF1 hF2 ⊢;refine ak ?_;show AWP _ _ _ _ _ _;rw [hn];refine gQ fun _ O=>?_;refine Z9 ?_;refine Z9 ?_;refine az rfl (iS (n := n) rfl rfl (by rw [List.length_map]; exact hn)) rfl ?_;refine ac rfl rfl (tV n (by omega)) rfl rfl rfl rfl ?_;refine ac rfl rfl (cF) rfl rfl rfl rfl ?_;refine Z9 ?_;refine am rfl rfl rfl ?_;refine am rfl rfl rfl ?_;refine am rfl rfl rfl ?_;refine Z8 ?_;refine Z8 ?_;refine Z8 ?_;refine eQ O ?_;clear O
 cases hp : lG B n with
 | false =>
  have e : pZ B n = ([], [], false) := by rw [pZ, hp]; rfl
  rw [e];refine ag ?_;refine gQ fun _ O=>?_;refine Z9 ?_;refine dz rfl rfl rfl ?_;refine eQ O ?_;clear O;refine ap rfl (fun _ => ?_) (fun h => by cases h);refine gQ fun _ O=>?_;refine Z8 ?_;refine Z8 ?_;refine eQ O ?_;clear O;exact al aP
 | true =>
 obtain ⟨hS1, hS2⟩ := hF2 hp
 have hD := of_decide_eq_true hp
 have e : pZ B n = (ju B n, le B n, true) := by rw [pZ, hp]; rfl
 have qL : ∀ i j, i < n -> j < i -> ql (LL B i j) <= 65536 := fun i j hi hj => (hF1 i hi fun k hk => hD k (by omega)).2 j hj
 have qD : ∀ i, i < n -> ql (DD B i) <= 65536 := fun i hi => (hF1 i hi fun k hk => hD k (by omega)).1
 rw [e];refine ag ?_;refine gQ fun _ O=>?_;refine Z9 ?_;refine dz rfl rfl rfl ?_;refine eQ O ?_;clear O;refine ap rfl (fun h => by cases h) (fun _ => ?_);refine ak ?_;show AWP _ _ _ _ _ _;rw [hb];refine gQ fun _ O=>?_;refine Z9 ?_;refine az rfl (EX rfl rfl) rfl ?_;refine br (sz := _) (es := _) (f := _) (v := _) rfl (sV (l := n) rfl rfl rfl rfl rfl (Nat.le_of_ble_eq_true rfl) (by decide) rfl rfl (by omega)) rfl rfl ?_;refine Z8 ?_;refine eQ O ?_;clear O;refine ag ?_;refine gQ fun _ O=>?_;refine Z9 ?_;refine az rfl rfl rfl ?_;refine Z9 ?_;refine eQ O ?_;clear O;refine aj (aI (α := Nat) (fun i => mk 133 [(1, V1 (dRs (cS n G))), (6, V1 (dMs (ju B n))), (7, V1 (dRs (le B n))), (9, .val (.one (.own 38 4 0 n))), (40, dI n), (41, dI i)] [(38, some (.arr 4 (bd n (fwG B bv i))))] []) (fun i => i <= n) (fun i => n - i) 0 ?_ (Nat.zero_le _) ?_)
 ·exact Wk.mk' ⟨rfl, rfl, rfl, rfl, rfl, rfl, trivial⟩ ⟨congrArg (fun x => some (OO.arr 4 x)) (fw0 B bv n), trivial⟩
 intro i hi
 refine gQ fun _ O=>?_;refine Z6 ?_;refine eQ O ?_;clear O;refine ag ?_;refine ap rfl (fun hg => ?_) (fun hg => ?_)
 ·have hg : i < n := by simp at hg; omega
  have c1 := jK (G i) ((oG i hg).mono rfl)
  have qb := (oG i hg).ql rfl
  rw [<- hbv] at c1 qb
  have tf : ∀ j, j < i -> ql (LL B i j * fwv (LL B) bv j) <= 720896 := fun j hj => Nat.le_trans (aC (qL i j hg hj) (hS1 j (by omega))) (by decide)
  have qx : ∀ k, k <= i -> ql (bv i - sm k fun j => LL B i j * fwv (LL B) bv j) <= 16777215 := fun k hk => Nat.le_trans (mm qb k fun t ht => tf t (by omega)) (by
   have := Nat.mul_le_mul_right (720896 + 1) (show k <= 16 by omega)
   omega)
  refine ak ?_;show AWP _ _ _ _ _ _;refine ag ?_;refine aj ?_;refine gQ fun _ O=>?_;refine Z9 ?_;refine Z8 ?_;refine eQ O ?_;clear O;refine gQ fun _ O=>?_;refine Z9 ?_;refine Z9 ?_;refine Z9 ?_;refine Z9 ?_;refine ab rfl (x_v rfl rfl rfl rfl rfl hg) rfl ?_;refine Z7 ?_;refine ac rfl rfl (c1) rfl rfl rfl rfl ?_;refine ab rfl (x_o (i := i) (j := i) rfl rfl rfl rfl rfl hg (Nat.zero_add _)) rfl ?_;refine ah rfl (mT (qzW (bv i)) rfl rfl rfl hg) rfl rfl rfl ?_;refine eQ O ?_;clear O;rw [fw1];refine gQ fun _ O=>?_;refine Z9 ?_;refine Z9 ?_;refine eQ O ?_;clear O;refine aj (aI (α := Nat) (fun k => mk 133 [(1, V1 (dRs (cS n G))), (6, V1 (dMs (ju B n))), (7, V1 (dRs (le B n))), (9, .val (.one (.own 38 4 0 n))), (10, dI i), (40, dI n), (41, dI i), (52, dI i), (53, dI k)] [(38, some (.arr 4 (bd n (fwR B bv i k))))] []) (fun k => k <= i) (fun k => i - k) 0 ?_ (Nat.zero_le _) ?_)
  ·exact Wk.mk' ⟨rfl, rfl, rfl, rfl, rfl, rfl, rfl, rfl, rfl, trivial⟩ ⟨rfl, trivial⟩
  intro k hk
  refine gQ fun _ O=>?_;refine Z6 ?_;refine eQ O ?_;clear O;refine ag ?_;refine ap rfl (fun hf => ?_) (fun hf => ?_)
  ·have hf : k < i := by simp at hf; omega
   have cl := ow (qzW (bv i - sm k fun j => LL B i j * fwv (LL B) bv j)) (qzW (LL B i k)) (qzW (fwv (LL B) bv k)) (bv i - sm (k + 1) fun j => LL B i j * fwv (LL B) bv j) (aD (qx k hk)) ((aD (qL i k hg hf)).mono rfl) ((aD (hS1 k (by omega))).mono rfl) (by rw [aR, aR, aR]; exact iN _ _ _ rfl)
   refine ak ?_;show AWP _ _ _ _ _ _;refine ag ?_;refine aj ?_;refine gQ fun _ O=>?_;refine Z9 ?_;refine Z8 ?_;refine eQ O ?_;clear O;refine bb tok mixed (A := [[], [], [], [], [], [2, 3], [], [], [], [6, 7], [], [6, 7, 8], [6, 7, 8, 9, 10], [], [], [], [13, 14], [2, 3, 4, 6, 7, 8, 9, 10, 11, 13, 14, 15], [], []]) (an := [{}, {}, {}, {}, {}, {}, {}, {}, {}, {}, {}, {}, {}, {}, {}, {}, {}, {}, {}, {}]) rfl (by kernel_rfl) rfl fun _ O=>?_;refine Z9 ?_;refine Z9 ?_;refine Z9 ?_;refine Z9 ?_;refine ab rfl (x_o (i := i) (j := i) rfl rfl rfl rfl rfl hg (Nat.zero_add _)) rfl ?_;refine aQ rfl (jR (x := qzW (bv i - sm k fun j => LL B i j * fwv (LL B) bv j)) rfl rfl rfl rfl hg (by simp [fwR])) rfl ?_;refine Z9 ?_;refine Z9 ?_;refine ab rfl (nY rfl rfl rfl rfl rfl hg) rfl ?_;refine Z7 ?_;refine Z9 ?_;refine ab rfl (x_v rfl rfl rfl rfl rfl (show k < n by omega)) rfl ?_;refine Z7 ?_;refine Z9 ?_;refine Z9 ?_;refine ab rfl (x_o (i := k) (j := k) rfl rfl rfl rfl rfl (show k < n by omega) (Nat.zero_add _)) rfl ?_;refine aQ rfl (jR (x := qzW (fwv (LL B) bv k)) rfl rfl rfl rfl (show k < n by omega) (if_pos hf)) rfl ?_;refine ac rfl rfl (cl) rfl rfl rfl rfl ?_;refine ab rfl (x_o (i := i) (j := i) rfl rfl rfl rfl rfl hg (Nat.zero_add _)) rfl ?_;refine ah rfl (mT (qzW (bv i - sm (k + 1) fun j => LL B i j * fwv (LL B) bv j)) rfl rfl rfl hg) rfl rfl rfl ?_;refine eQ O ?_;clear O;rw [fw2];show AWP _ _ _ _ _ _;refine gR fun _ O=>?_;refine au rfl (aE (c := ((k + 1 : Nat) : Int)) (by omega) (by omega)) rfl ?_;refine Z9 ?_;refine eQ O ?_;clear O;exact ⟨k + 1, by omega, hf, Wk.mk' ⟨rfl, rfl, rfl, rfl, rfl, rfl, rfl, rfl, rfl, trivial⟩ ⟨rfl, trivial⟩⟩
  have hf : k = i := by simp at hf; omega
  subst hf
  refine aA ?_;show AWP _ _ _ _ _ _;rw [fw3];refine gR fun _ O=>?_;refine au rfl (aE (c := ((k + 1 : Nat) : Int)) (by omega) (by omega)) rfl ?_;refine Z9 ?_;refine eQ O ?_;clear O;exact ⟨k + 1, by omega, hg, Wk.mk' ⟨rfl, rfl, rfl, rfl, rfl, rfl, trivial⟩ ⟨rfl, trivial⟩⟩
 have hg : i = n := by simp at hg; omega
 subst hg
 refine aA ?_;show AWP _ _ _ _ _ _;rw [dv0];refine ag ?_;refine gQ fun _ O=>?_;refine Z9 ?_;refine az rfl rfl rfl ?_;refine Z9 ?_;refine eQ O ?_;clear O;refine aj (aI (α := Nat) (fun k => mk 133 [(6, V1 (dMs (ju B i))), (7, V1 (dRs (le B i))), (9, .val (.one (.own 38 4 0 i))), (78, dI i), (79, dI k)] [(38, some (.arr 4 (bd i (dvG B bv k))))] []) (fun k => k <= i) (fun k => i - k) 0 ?_ (Nat.zero_le _) ?_)
 ·exact Wk.mk' ⟨rfl, rfl, rfl, rfl, rfl, trivial⟩ ⟨rfl, trivial⟩
 intro k hk
 refine gQ fun _ O=>?_;refine Z6 ?_;refine eQ O ?_;clear O;refine ag ?_;refine ap rfl (fun hf => ?_) (fun hf => ?_)
 ·have hf : k < i := by simp at hf; omega
  have dk := hD k hf
  have cd := zN (qzW (fwv (LL B) bv k)) (qzW (DD B k)) (fwv (LL B) bv k / DD B k) ((aD (hS1 k hf)).mono rfl) ((aD (qD k hf)).mono rfl) (by rw [aR]; grind) (by rw [aR, aR])
  refine ak ?_;show AWP _ _ _ _ _ _;refine ag ?_;refine aj ?_;refine gQ fun _ O=>?_;refine Z9 ?_;refine Z8 ?_;refine eQ O ?_;clear O;refine bb tok mixed (A := [[], [], [], [], [], [2, 3], [], [], [], [6, 7], [2, 3, 4, 6, 7, 8], [2, 3, 4, 5, 6, 7, 8, 9], [2, 3, 4, 5, 6, 7, 8, 9, 10], [2, 3, 4, 5, 6, 7, 8, 9, 10], [], []]) (an := [{}, {}, {}, {}, {}, {}, {}, {}, {}, {}, {}, {}, {}, {}, {}, {}]) rfl (by kernel_rfl) rfl fun _ O=>?_;refine Z9 ?_;refine Z9 ?_;refine Z9 ?_;refine Z9 ?_;refine ab rfl (x_o (i := k) (j := k) rfl rfl rfl rfl rfl hf (Nat.zero_add _)) rfl ?_;refine aQ rfl (jR (x := qzW (fwv (LL B) bv k)) rfl rfl rfl rfl hf (if_neg (Nat.lt_irrefl k))) rfl ?_;refine Z9 ?_;refine Z9 ?_;refine ab rfl (x_v rfl rfl rfl rfl rfl hf) rfl ?_;refine Z7 ?_;refine ac rfl rfl (cd) rfl rfl rfl rfl ?_;refine Z9 ?_;refine am rfl rfl rfl ?_;refine am rfl rfl rfl ?_;refine ab rfl (x_o (i := k) (j := k) rfl rfl rfl rfl rfl hf (Nat.zero_add _)) rfl ?_;refine ah rfl (mT (qzW (fwv (LL B) bv k / DD B k)) rfl rfl rfl hf) rfl rfl rfl ?_;refine eQ O ?_;clear O;rw [dv1];show AWP _ _ _ _ _ _;refine gR fun _ O=>?_;refine au rfl (aE (c := ((k + 1 : Nat) : Int)) (by omega) (by omega)) rfl ?_;refine Z9 ?_;refine eQ O ?_;clear O;exact ⟨k + 1, by omega, hf, Wk.mk' ⟨rfl, rfl, rfl, rfl, rfl, trivial⟩ ⟨rfl, trivial⟩⟩
 have hf : k = i := by simp at hf; omega
 subst hf
 refine aA ?_;show AWP _ _ _ _ _ _;rw [bk0]
 have qc : ∀ i, i < k -> ql (fwv (LL B) bv i / DD B i) <= 720896 := fun i hi => rl (hS1 i hi) (qD i hi)
 refine ag ?_;refine gQ fun _ O=>?_;refine Z9 ?_;refine az rfl rfl rfl ?_;refine au rfl (ck (c := (k : Int) - 1 - (0 : Nat)) (by omega) (by omega)) rfl ?_;refine Z8 ?_;refine eQ O ?_;clear O;refine aj (aI (α := Nat) (fun s => mk 133 [(6, V1 (dMs (ju B k))), (9, .val (.one (.own 38 4 0 k))), (13, dI ((k : Int) - 1 - s))] [(38, some (.arr 4 (bd k (bkG B bv k s))))] []) (fun s => s <= k) (fun s => k - s) 0 ?_ (Nat.zero_le _) ?_)
 ·exact Wk.mk' ⟨rfl, rfl, rfl, trivial⟩ ⟨rfl, trivial⟩
 intro s hs
 refine ag ?_;refine gQ fun _ O=>?_;refine Z9 ?_;refine Z6 ?_;refine eQ O ?_;clear O;refine ap rfl (fun hd => ?_) (fun hd => ?_)
 ·obtain ⟨j, hj⟩ : ∃ j, k = j + s + 1 := ⟨k - s - 1, by simp at hd; omega⟩
  have hjk : j < k := by omega
  have ej : (k : Int) - 1 - s = (j : Int) := by omega
  rw [ej, bk1 B bv hj]
  have tg : ∀ t, t < k -> ql (bkF B bv k j t) <= 131072 := fun t ht => by
   simp only [bkF]; split
   ·exact Nat.le_trans (aC (qL t j ht (by omega)) (hS2 t ht)) (by decide)
   ·exact Nat.le_trans eC (by decide)
  have qx : ∀ p, p <= k -> ql (fwv (LL B) bv j / DD B j - sm p (bkF B bv k j)) <= 16777215 := fun p hp => Nat.le_trans (mm (qc j hjk) p fun t ht => tg t (by omega)) (by
   have := Nat.mul_le_mul_right (131072 + 1) (show p <= 16 by omega)
   omega)
  refine ak ?_;show AWP _ _ _ _ _ _;refine ag ?_;refine aj ?_;refine gQ fun _ O=>?_;refine Z9 ?_;refine au rfl (aE (c := ((j + 1 : Nat) : Int)) (by omega) (by omega)) rfl ?_;refine Z8 ?_;refine eQ O ?_;clear O;refine aj (aI (α := Nat) (fun p => mk 133 [(6, V1 (dMs (ju B k))), (9, .val (.one (.own 38 4 0 k))), (13, dI j), (14, dI p)] [(38, some (.arr 4 (bd k (bkR B bv k j p))))] []) (fun p => j + 1 <= p /\ p <= k) (fun p => k - p) (j + 1) ?_ ⟨Nat.le_refl _, hjk⟩ ?_)
  ·exact Wk.mk' ⟨rfl, rfl, rfl, rfl, trivial⟩ ⟨rfl, trivial⟩
  rintro p ⟨hp1, hp2⟩
  refine ag ?_;refine gQ fun _ O=>?_;refine Z9 ?_;refine Z9 ?_;refine az rfl rfl rfl ?_;refine Z6 ?_;refine eQ O ?_;clear O;refine ap rfl (fun hx => ?_) (fun hx => ?_)
  ·have hx : p < k := by simp at hx; omega
   have cl := ow (qzW (fwv (LL B) bv j / DD B j - sm p (bkF B bv k j))) (qzW (LL B p j)) (qzW (slv B bv k p)) (fwv (LL B) bv j / DD B j - sm (p + 1) (bkF B bv k j)) (aD (qx p hp2)) ((aD (qL p j hx (by omega))).mono rfl) ((aD (hS2 p hx)).mono rfl) (by rw [aR, aR, aR]; exact iN _ _ _ (if_pos (by omega)))
   refine ak ?_;show AWP _ _ _ _ _ _;refine ag ?_;refine aj ?_;refine bb tok mixed (A := [[], [], [], [], [], [2, 3], [], [], [], [6, 7], [], [6, 7, 8], [6, 7, 8, 9, 10], [], [], [], [13, 14], [2, 3, 4, 6, 7, 8, 9, 10, 11, 13, 14, 15], [], []]) (an := [{}, {}, {}, {}, {}, {}, {}, {}, {}, {}, {}, {}, {}, {}, {}, {}, {}, {}, {}, {}]) rfl (by kernel_rfl) rfl fun _ O=>?_;refine Z9 ?_;refine Z9 ?_;refine Z9 ?_;refine Z9 ?_;refine ab rfl (x_o (i := j) (j := j) rfl rfl rfl rfl rfl hjk (Nat.zero_add _)) rfl ?_;refine aQ rfl (jR (x := qzW (fwv (LL B) bv j / DD B j - sm p (bkF B bv k j))) rfl rfl rfl rfl hjk (by simp [bkR])) rfl ?_;refine Z9 ?_;refine Z9 ?_;refine ab rfl (nY rfl rfl rfl rfl rfl hx) rfl ?_;refine Z7 ?_;refine Z9 ?_;refine ab rfl (x_v rfl rfl rfl rfl rfl hjk) rfl ?_;refine Z7 ?_;refine Z9 ?_;refine Z9 ?_;refine ab rfl (x_o (i := p) (j := p) rfl rfl rfl rfl rfl hx (Nat.zero_add _)) rfl ?_;refine aQ rfl (jR (x := qzW (slv B bv k p)) rfl rfl rfl rfl hx (if_pos (by omega))) rfl ?_;refine ac rfl rfl (cl) rfl rfl rfl rfl ?_;refine ab rfl (x_o (i := j) (j := j) rfl rfl rfl rfl rfl hjk (Nat.zero_add _)) rfl ?_;refine ah rfl (mT (qzW (fwv (LL B) bv j / DD B j - sm (p + 1) (bkF B bv k j))) rfl rfl rfl hjk) rfl rfl rfl ?_;refine eQ O ?_;clear O;rw [bk2];show AWP _ _ _ _ _ _;refine gR fun _ O=>?_;refine Z9 ?_;refine au rfl (aE (c := ((p + 1 : Nat) : Int)) (by omega) (by omega)) rfl ?_;refine Z8 ?_;refine eQ O ?_;clear O;exact ⟨p + 1, by omega, ⟨by omega, hx⟩, Wk.mk' ⟨rfl, rfl, rfl, rfl, trivial⟩ ⟨rfl, trivial⟩⟩
  have hx : p = k := by simp at hx; omega
  subst hx
  refine aA ?_;show AWP _ _ _ _ _ _;rw [bk3 B bv hj];refine gR fun _ O=>?_;refine Z9 ?_;refine au rfl (ck (c := (p : Int) - 1 - (s + 1 : Nat)) (by omega) (by omega)) rfl ?_;refine Z8 ?_;refine eQ O ?_;clear O;exact ⟨s + 1, by omega, by omega, Wk.mk' ⟨rfl, rfl, rfl, trivial⟩ ⟨rfl, trivial⟩⟩
 have hd : s = k := by simp at hd; omega
 subst hd
 refine aA ?_;show AWP _ _ _ _ _ _;rw [bk4];refine cQ [9] [38] 38 [(9, V1 (dRs (gV B bv s)))] [] rfl ?_ trivial ?_
 ·exact ⟨bz (jz _ _).symm (by simp [gV, cS]), trivial⟩
 rw [if_pos rfl];refine gQ fun _ O=>?_;refine Z9 ?_;refine Z8 ?_;refine Z8 ?_;refine eQ O ?_;clear O;exact al aP
end Go.Proofs.YtfichkokppbipaaGreatDoor

/- Determinants by elimination. No condition. -/
namespace Go.Proofs.YtfichkokppbipaaGreatDoor
attribute [local irreducible] aM

def wV (V : Nat -> Nat -> RW) (s i j : Nat) (f : Nat -> Rat) : Nat -> Nat -> RW := fun q c => if q = s then (if i <= c /\ c < j then qzW (f c) else V q c) else V q c
structure EL (n i : Nat) (V : Nat -> Nat -> RW) (σ : Nat -> Nat) (A : Nat -> Nat -> Rat) : Prop where
 lt : ∀ r, r < n -> σ r < n
 inj : ∀ r s, r < n -> s < n -> σ r = σ s -> r = s
 ok : ∀ r c, i <= r -> r < n -> i <= c -> c < n -> (V (σ r) c).OK 65536
 v : ∀ r c, i <= r -> r < n -> i <= c -> c < n -> (V (σ r) c).v = A r c
structure ER (n i k r : Nat) (V : Nat -> Nat -> RW) (σ : Nat -> Nat) (A : Nat -> Nat -> Rat) : Prop where
 lt : ∀ r, r < n -> σ r < n
 inj : ∀ r s, r < n -> s < n -> σ r = σ s -> r = s
 ok : ∀ p c, i <= p -> p < n -> i <= c -> c < n -> (V (σ p) c).OK 65536
 v : ∀ p c, i <= p -> p < n -> i <= c -> c < n -> (V (σ p) c).v = if p < r then stp i k A p c else A (swp i k p) c
theorem ER.row {n i k r : Nat} {V : Nat -> Nat -> RW} {σ : Nat -> Nat} {A : Nat -> Nat -> Rat} (h : ER n i k r V σ A) (hir : i < r) (hr : r < n) (hq : ∀ c, i <= c -> c < n -> ql (stp i k A r c) <= 65536) :
  ER n i k (r + 1) (wV V (σ r) i n (fun c => stp i k A r c)) σ A := by
 refine ⟨h.lt, h.inj, fun p c h1 h2 h3 h4 => ?_, fun p c h1 h2 h3 h4 => ?_⟩
 ·by_cases e : p = r
  ·subst e; simp only [wV, if_true]; rw [if_pos ⟨h3, h4⟩]; exact aD (hq c h3 h4)
  ·have : σ p ≠ σ r := fun e' => e (h.inj p r h2 hr e')
   simp only [wV]; rw [if_neg this]; exact h.ok p c h1 h2 h3 h4
 ·by_cases e : p = r
  ·subst e; simp only [wV, if_true]; rw [if_pos ⟨h3, h4⟩, if_pos (by omega), aR]
  ·have : σ p ≠ σ r := fun e' => e (h.inj p r h2 hr e')
   simp only [wV]; rw [if_neg this, h.v p c h1 h2 h3 h4]
   by_cases hp : p < r
   ·rw [if_pos hp, if_pos (by omega)]
   ·rw [if_neg hp, if_neg (by omega)]
end Go.Proofs.YtfichkokppbipaaGreatDoor

/- Minors. No condition. -/
namespace Go.Proofs.YtfichkokppbipaaGreatDoor
attribute [local irreducible] aM

end Go.Proofs.YtfichkokppbipaaGreatDoor

/- The graph's resistances, plainly. No condition. -/
namespace Go.Proofs.YtfichkokppbipaaGreatDoor
attribute [local irreducible] aM

def wlk (l : LK) : WL := ⟨l.f.toNat, l.t.toNat, ((l.w : Int) : Rat)⟩
def wls (ls : List LK) : List WL := ls.map wlk
theorem uG (p : Nat -> Nat) (x : WL) (i j : Nat) : ∀ xs : List WL, lpl p (xs ++ [x]) i j = lpl p xs i j + x.w * (uu p x i * uu p x j)
 | [] => by simp only [List.nil_append, lpl]
 | y :: ys => by simp only [List.cons_append, lpl]; rw [uG p x i j ys]; grind
theorem Cj {f t : Nat} {w : Int} (h : f ≠ t) (i j : Nat) : ((lapD f t w i j : Int) : Rat) = (w : Rat) * (uu id ⟨f, t, (w : Rat)⟩ i * uu id ⟨f, t, (w : Rat)⟩ j) := by
 unfold lapD uu
 simp only [id]
 repeat' split
 all_goals first
  | (exfalso; omega)
  | (try simp only [Rat.intCast_neg, Rat.intCast_zero]
     grind)
theorem Ci {n : Nat} {ls : List LK} (h : ∀ l ∈ ls, LV n l) (i j : Nat) : ((lapM ls i j : Int) : Rat) = lpl id (wls ls) i j := by
 have : ∀ k, k <= ls.length -> ((lapM (ls.take k) i j : Int) : Rat) = lpl id (wls (ls.take k)) i j := by
  intro k
  induction k with
  | zero => intro _; rfl
  | succ k ih =>
   intro hk
   have lv := h ls[k] (List.getElem_mem (by omega))
   have hne : ls[k].f.toNat ≠ ls[k].t.toNat := by have := lv.f; have := lv.t; have := lv.ne; omega
   have e : wls (ls.take (k + 1)) = wls (ls.take k) ++ [wlk ls[k]] := by rw [wls, List.take_succ_eq_append_getElem (by omega), List.map_append]; rfl
   rw [kO (by omega), s6 hne, e, uG, Rat.intCast_add, ih (by omega), Cj hne]
   rfl
 have h := this ls.length (Nat.le_refl _)
 rwa [List.take_length] at h
section
variable {g : GR} (gv : GV g)
include gv
theorem gLV : ∀ l ∈ g.links, LV g.nodes.length l := fun l hl => b6.1 (gv.lk l hl)
theorem CR : ∀ x ∈ wls g.links, 0 < x.w := fun x hx => by
 obtain ⟨l, hl, rfl⟩ := List.mem_map.1 hx
 have := (gLV gv l hl).w
 show (0 : Rat) < ((l.w : Int) : Rat)
 have h : (0 : Int) < l.w := by omega
 exact_mod_cast h
theorem qT : ∀ x ∈ wls g.links, x.f < g.nodes.length /\ x.t < g.nodes.length := fun x hx => by
 obtain ⟨l, hl, rfl⟩ := List.mem_map.1 hx
 have h1 := (gLV gv l hl).f
 have h2 := (gLV gv l hl).t
 exact ⟨by show l.f.toNat < _; omega, by show l.t.toNat < _; omega⟩
theorem Dn : ∀ x ∈ wls g.links, x.f ≠ x.t := fun x hx => by
 obtain ⟨l, hl, rfl⟩ := List.mem_map.1 hx
 have h1 := (gLV gv l hl).f
 have h2 := (gLV gv l hl).t
 have h3 := (gLV gv l hl).ne
 show l.f.toNat ≠ l.t.toNat
 omega
end
theorem oe (ls : List LK) : (wls ls).map (fun x => (x.f, x.t)) = prs ls := by rw [wls, List.map_map]; rfl
def lab (g : GR) (v : Nat) : Nat := (d8 g).1.getD v 0
def zf (g : GR) (v : Nat) : Nat := fd (kq g) v
section
variable {g : GR} (gv : GV g)
include gv
theorem pP (v : Nat) : lab g v = qI (kq g) g.nodes.length v := by
 unfold lab qI; rw [d8, if_pos (bJ.2 gv)]
theorem DZ : ∀ p ∈ prs g.links, p.1 < g.nodes.length /\ p.2 < g.nodes.length := fun p hp => by
 rw [<- oe] at hp
 obtain ⟨x, hx, rfl⟩ := List.mem_map.1 hp
 exact qT gv x hx
theorem Al {u v : Nat} (hu : u < g.nodes.length) (hv : v < g.nodes.length) : lab g u = lab g v ↔ zf g u = zf g v := by
 rw [pP gv, pP gv]; exact Cl (ya _ _).1 hu hv
theorem s9 {u v : Nat} (hu : u < g.nodes.length) (hv : v < g.nodes.length) : lab g u = lab g v ↔ Cnn (prs g.links) u v := by
 rw [Al gv hu hv]
 unfold zf kq
 rw [nJ];exact o5 _ _ (DZ gv) u v hu hv
theorem mp : (d8 g).1.length = g.nodes.length := by rw [d8, if_pos (bJ.2 gv)]; exact lH _ _
theorem Ak {x : WL} (hx : x ∈ wls g.links) : lab g x.f = lab g x.t := by
 obtain ⟨h1, h2⟩ := qT gv x hx
 rw [s9 gv h1 h2, <- oe];exact .one (Or.inl (List.mem_map.2 ⟨x, hx, rfl⟩))
end
def grS (g : GR) (j v : Nat) : Bool := decide (lab g v = lab g j) && decide (v ≠ j)
def grL (g : GR) (j k : Nat) : List Nat := (List.range k).filter (grS g j)
def DM (g : GR) (j v : Nat) : List RW := (grL g j g.nodes.length).map fun w => qzW ((lapM g.links v w : Int) : Rat)
def xY (g : GR) (j : Nat) : List (List RW) := (grL g j g.nodes.length).map (DM g j)
def xZ (g : GR) (j : Nat) : Nat := kN g.nodes.length (grS g j)
def DN (g : GR) (i j : Nat) : Nat := kN i (grS g j)
def ES (g : GR) (i j : Nat) : List RW := cS (xZ g j) fun t => if t = DN g i j then qzW 1 else qzW 0
def EQ (g : GR) (i j : Nat) : Rat := if i = j then 0 else slv (ce (xY g j)) (d6 (ES g i j)) (xZ g j) (DN g i j)
structure RES (g : GR) (i j : Nat) : Prop where
 val : dN (xY g j) = true
 ok : okM 65536 (xY g j)
 fac : ym (ce (xY g j)) (xZ g j)
 pos : lG (ce (xY g j)) (xZ g j) = true
 sol : xQ (ce (xY g j)) (d6 (ES g i j)) (xZ g j)
 at_ : DN g i j < xZ g j
 res : IsR g.nodes.length (wls g.links) i j (EQ g i j)
 bnd : ql (EQ g i j) <= 65536
end Go.Proofs.YtfichkokppbipaaGreatDoor

/- Least squares on a graph, plainly: one coordinate. No condition. -/
namespace Go.Proofs.YtfichkokppbipaaGreatDoor
attribute [local irreducible] aM

def qe (d : LK -> Rat) (s : Nat -> Rat) : List LK -> Rat
 | [] => 0
 | l :: ls => qe d s ls + ((l.w : Int) : Rat) * ((s l.t.toNat - s l.f.toNat - d l) * (s l.t.toNat - s l.f.toNat - d l))
def gd (d : LK -> Rat) (s : Nat -> Rat) (v : Nat) : List LK -> Rat
 | [] => 0
 | l :: ls => gd d s v ls + ((l.w : Int) : Rat) * ((dl l.t.toNat v - dl l.f.toNat v) * (s l.t.toNat - s l.f.toNat - d l))
theorem un {n : Nat} (d : LK -> Rat) (s m : Nat -> Rat) : ∀ ls : List LK, (∀ l ∈ ls, l.f.toNat < n /\ l.t.toNat < n) ->
  qe d s ls = qe d m ls + EN (fun v => s v - m v) (fun v => s v - m v) (wls ls) + 2 * sm n (fun v => (s v - m v) * gd d m v ls)
 | [], _ => by
  have : sm n (fun v => (s v - m v) * gd d m v []) = 0 := gJ fun i _ => by simp only [gd]; grind
  rw [this]; show (0 : Rat) = 0 + 0 + 2 * 0; grind
 | l :: ls, h => by
  have ih := un (n := n) d s m ls fun l hl => h l (List.mem_cons_of_mem _ hl)
  obtain ⟨hf, ht⟩ := h l List.mem_cons_self
  have e1 : sm n (fun v => (s v - m v) * gd d m v (l :: ls)) = sm n (fun v => (s v - m v) * gd d m v ls) + (((l.w : Int) : Rat) * (m l.t.toNat - m l.f.toNat - d l)) * ((s l.t.toNat - m l.t.toNat) - (s l.f.toNat - m l.f.toNat)) := by
   have a1 := q6 (fun v => s v - m v) hf
   have a2 := q6 (fun v => s v - m v) ht
   have : sm n (fun v => (s v - m v) * gd d m v (l :: ls)) = sm n (fun v => 1 * ((s v - m v) * gd d m v ls) + 1 * ((((l.w : Int) : Rat) * (m l.t.toNat - m l.f.toNat - d l)) * ((s v - m v) * dl l.t.toNat v) + (-(((l.w : Int) : Rat) * (m l.t.toNat - m l.f.toNat - d l))) * ((s v - m v) * dl l.f.toNat v))) := sm_congr fun v _ => by
    simp only [gd]; grind
   rw [this, gU, gU, a1, a2]; grind
  rw [e1]
  have e2 : wls (l :: ls) = wlk l :: wls ls := rfl
  have e3 : (wlk l).w = ((l.w : Int) : Rat) := rfl
  have e4 : (wlk l).f = l.f.toNat := rfl
  have e5 : (wlk l).t = l.t.toNat := rfl
  rw [e2];simp only [qe, EN, e3, e4, e5];rw [ih]; grind
theorem Ax {n : Nat} (d : LK -> Rat) (s : Nat -> Rat) : ∀ ls : List LK, (∀ l ∈ ls, l.f.toNat < n /\ l.t.toNat < n) -> sm n (fun v => gd d s v ls) = 0
 | [], _ => gJ fun _ _ => rfl
 | l :: ls, h => by
  have ih := Ax (n := n) d s ls fun l hl => h l (List.mem_cons_of_mem _ hl)
  obtain ⟨hf, ht⟩ := h l List.mem_cons_self
  have a1 := q6 (fun _ => 1) hf
  have a2 := q6 (fun _ => 1) ht
  have : sm n (fun v => gd d s v (l :: ls)) = sm n (fun v => 1 * gd d s v ls + 1 * ((((l.w : Int) : Rat) * (s l.t.toNat - s l.f.toNat - d l)) * (1 * dl l.t.toNat v) + (-(((l.w : Int) : Rat) * (s l.t.toNat - s l.f.toNat - d l))) * (1 * dl l.f.toNat v))) := sm_congr fun v _ => by
   simp only [gd]; grind
  rw [this, gU, gU, a1, a2, ih]; grind
def rb (d : LK -> Rat) (v : Nat) : List LK -> Rat
 | [] => 0
 | l :: ls => rb d v ls + ((l.w : Int) : Rat) * ((dl l.t.toNat v - dl l.f.toNat v) * d l)
theorem Db (d : LK -> Rat) (s : Nat -> Rat) (v : Nat) : ∀ {ls : List LK}, (∀ l ∈ ls, l.f.toNat ≠ l.t.toNat) -> gd d s v ls = LU s (wls ls) v - rb d v ls
 | [], _ => by show (0 : Rat) = 0 - 0; grind
 | l :: ls, h => by
  have ih := Db d s v (ls := ls) fun l hl => h l (List.mem_cons_of_mem _ hl)
  have e2 : wls (l :: ls) = wlk l :: wls ls := rfl
  have e3 : (wlk l).w = ((l.w : Int) : Rat) := rfl
  have e4 : (wlk l).f = l.f.toNat := rfl
  have e5 : (wlk l).t = l.t.toNat := rfl
  have e6 := ED (x := wlk l) v
  rw [e4, e5] at e6;rw [e2];simp only [gd, LU, rb, e3, e4, e5, e6];rw [ih]; grind
theorem Eh {n : Nat} {d : LK -> Rat} {s : Nat -> Rat} {ls : List LK} (hl : ∀ l ∈ ls, l.f.toNat < n /\ l.t.toNat < n) (h : ∀ v, v < n -> v ≠ 0 -> gd d s v ls = 0) : ∀ v, v < n -> gd d s v ls = 0 := fun v hv => by
 by_cases e : v = 0
 ·subst e
  have := Ax d s ls hl
  rwa [eE (j := 0) _ hv fun i hi hne => h i hi hne] at this
 ·exact h v hv e
theorem vI {n : Nat} {d : LK -> Rat} {m : Nat -> Rat} {ls : List LK} (hl : ∀ l ∈ ls, l.f.toNat < n /\ l.t.toNat < n) (hm : ∀ v, v < n -> gd d m v ls = 0) (s : Nat -> Rat) :
  qe d s ls = qe d m ls + EN (fun v => s v - m v) (fun v => s v - m v) (wls ls) := by
 rw [un d s m ls hl, gJ fun v hv => by rw [hm v hv]; grind]; grind
theorem uo {n : Nat} {d : LK -> Rat} {m s : Nat -> Rat} {ls : List LK} (hl : ∀ l ∈ ls, l.f.toNat < n /\ l.t.toNat < n) (hw : ∀ l ∈ ls, 1 <= l.w) (hm : ∀ v, v < n -> gd d m v ls = 0) :
  qe d m ls <= qe d s ls /\ (qe d s ls = qe d m ls ↔ ∀ l ∈ ls, s l.f.toNat - m l.f.toNat = s l.t.toNat - m l.t.toNat) := by
 have e := vI hl hm s
 have hw' : ∀ x ∈ wls ls, 0 < x.w := fun x hx => by
  obtain ⟨l, hl, rfl⟩ := List.mem_map.1 hx
  show (0 : Rat) < ((l.w : Int) : Rat)
  have := hw l hl
  have h : (0 : Int) < l.w := by omega
  exact_mod_cast h
 have nn := vg (u := fun v => s v - m v) hw'
 refine ⟨by grind, ?_, ?_⟩
 ·intro h l hl
  exact mN (u := fun v => s v - m v) hw' (by grind) (wlk l) (List.mem_map.2 ⟨l, hl, rfl⟩)
 ·intro h
  have : EN (fun v => s v - m v) (fun v => s v - m v) (wls ls) = 0 := by
   clear e nn hm hw hw' hl
   induction ls with
   | nil => rfl
   | cons l ls ih =>
    have e2 : wls (l :: ls) = wlk l :: wls ls := rfl
    have e4 : (wlk l).f = l.f.toNat := rfl
    have e5 : (wlk l).t = l.t.toNat := rfl
    have h1 := h l List.mem_cons_self
    rw [e2];simp only [EN, e4, e5];rw [ih fun l hl => h l (List.mem_cons_of_mem _ hl), h1]; grind
  rw [e, this]; grind
/-! ### Connected along links -/
theorem r5 {y : Nat -> Rat} {ls : List LK} (h : ∀ l ∈ ls, y l.f.toNat = y l.t.toNat) {u v : Nat} (c : Cnn (prs ls) u v) : y u = y v := by
 rw [<- oe] at c
 exact wn (fun x hx => by
  obtain ⟨l, hl, rfl⟩ := List.mem_map.1 hx
  exact h l hl) c
end Go.Proofs.YtfichkokppbipaaGreatDoor

/- The spots with the least cost, plainly. No condition. -/
namespace Go.Proofs.YtfichkokppbipaaGreatDoor
attribute [local irreducible] aM

theorem pi (f : Nat -> Rat) : ∀ n : Nat, sm (n + 1) f = f 0 + sm n (fun i => f (i + 1))
 | 0 => by show (0 : Rat) + f 0 = f 0 + 0; grind
 | n + 1 => by rw [cB, pi f n, cB]; grind
def dX (g : GR) (l : LK) : Rat := alX (frN g l) l
def dY (g : GR) (l : LK) : Rat := alY (frN g l) l
theorem sD (d : LK -> Rat) (v : Nat) (l : LK) : ∀ ls : List LK, rb d v (ls ++ [l]) = rb d v ls + ((l.w : Int) : Rat) * ((dl l.t.toNat v - dl l.f.toNat v) * d l)
 | [] => by simp only [List.nil_append, rb]
 | x :: xs => by simp only [List.cons_append, rb]; rw [sD d v l xs]; grind
theorem Fa {n : Nat} {l : LK} (lv : LV n l) (v : Nat) : ((cfN v l : Int) : Rat) = ((l.w : Int) : Rat) * (dl l.t.toNat v - dl l.f.toNat v) := by
 have h1 := lv.f
 have h2 := lv.t
 have h3 := lv.ne
 unfold cfN dl
 by_cases hf : l.f = (v : Int)
 ·rw [if_pos hf, if_neg (by omega), if_pos (by omega), Rat.intCast_neg]; grind
 ·by_cases ht : l.t = (v : Int)
  ·rw [if_neg hf, if_pos ht, if_pos (by omega), if_neg (by omega)]; grind
  ·rw [if_neg hf, if_neg ht, if_neg (by omega), if_neg (by omega)]
   show (0 : Rat) = _; grind
section
variable {g : GR} (gv : GV g)
include gv
theorem zZ (v : Nat) : (nrL g g.links).1 v = rb (dX g) v g.links /\ (nrL g g.links).2 v = rb (dY g) v g.links := by
 have : ∀ k, k <= g.links.length -> (nrL g (g.links.take k)).1 v = rb (dX g) v (g.links.take k) /\ (nrL g (g.links.take k)).2 v = rb (dY g) v (g.links.take k) := by
  intro k
  induction k with
  | zero => intro _; exact ⟨rfl, rfl⟩
  | succ k ih =>
   intro hk
   obtain ⟨i1, i2⟩ := ih (by omega)
   have lv := gLV gv g.links[k] (List.getElem_mem (by omega))
   obtain ⟨a1, a2⟩ := vL (g := g) (nrL g (g.links.take k)) lv v
   rw [Fa lv v] at a1 a2;rw [kr g (by omega), List.take_succ_eq_append_getElem (by omega), sD, sD, a1, a2, i1, i2];refine ⟨?_, ?_⟩
   ·show _ + _ * dX g _ = _; grind
   ·show _ + _ * dY g _ = _; grind
 have h := this g.links.length (Nat.le_refl _)
 rwa [List.take_length] at h
theorem xo : g.nodes.length = (g.nodes.length - 1) + 1 := by have := gv.n1; omega
end
def nmM (g : GR) : List (List RW) := nrM g.nodes.length (lapM g.links) (g.nodes.length - 1)
def nmX (g : GR) : List RW := nrX (nrL g g.links).1 (g.nodes.length - 1)
def nmY (g : GR) : List RW := nrX (nrL g g.links).2 (g.nodes.length - 1)
theorem jN (g : GR) : (nmM g).length = g.nodes.length - 1 := by simp [nmM, nrM]
theorem jM (X : Nat -> Rat) (k : Nat) : (nrX X k).length = k := by simp [nrX]
theorem z8 {g : GR} {a b : Nat} (ha : a < g.nodes.length - 1) (hb : b < g.nodes.length - 1) : mtv (nmM g) a b = qzW ((lapM g.links (a + 1) (b + 1) : Int) : Rat) := by
 have e : (nmM g).getD a [] = ((List.range g.nodes.length).map fun j => qzW ((lapM g.links (a + 1) j : Int) : Rat)).drop 1 := by simp [nmM, nrM, gb, ha]
 unfold mtv
 rw [e, List.getD_eq_getElem?_getD, List.getElem?_drop, List.getElem?_map, List.getElem?_range (by omega)]
 show qzW ((lapM g.links (a + 1) (1 + b) : Int) : Rat) = _
 rw [Nat.add_comm 1 b]
theorem sR {X : Nat -> Rat} {k i : Nat} (h : i < k) : d6 (nrX X k) i = X (i + 1) := by
 unfold d6 nrX
 rw [List.getD_eq_getElem?_getD, List.getElem?_map, List.getElem?_range h];exact aR _
def cnB (g : GR) : Bool := decide (∀ v, v < g.nodes.length -> lab g v = lab g 0)
def slX (g : GR) (b : List RW) (v : Nat) : Rat := if v = 0 then 0 else slv (ce (nmM g)) (d6 b) (g.nodes.length - 1) (v - 1)
section
variable {g : GR} (gv : GV g)
include gv
theorem vM {a b : Nat} (ha : a < g.nodes.length - 1) (hb : b < g.nodes.length - 1) : ce (nmM g) a b = lpl id (wls g.links) (a + 1) (b + 1) := by
 unfold ce; rw [z8 ha hb, aR, Ci (gLV gv)]
theorem oI {a b : Nat} (ha : a < g.nodes.length - 1) (hb : b < g.nodes.length - 1) : ce (nmM g) a b = ce (nmM g) b a := by
 rw [vM gv ha hb, vM gv hb ha, uF]
theorem z7 {y : Nat -> Rat} (h0 : y 0 = 0) {a : Nat} (ha : a < g.nodes.length - 1) : sm (g.nodes.length - 1) (fun j => ce (nmM g) a j * y (j + 1)) = LU y (wls g.links) (a + 1) := by
 rw [<- yY (n := g.nodes.length) (a + 1) (qT gv), xo gv, pi, h0];rw [sm_congr fun j hj => by rw [vM gv ha hj]]; grind
theorem xa {y : Nat -> Rat} (h0 : y 0 = 0) : fm (g.nodes.length - 1) (ce (nmM g)) (fun i => y (i + 1)) = EN y y (wls g.links) := by
 unfold fm
 rw [sm_congr fun i hi => by rw [z7 gv h0 hi], <- yZ (n := g.nodes.length) (u := y) (v := y) (qT gv), xo gv, pi, h0];simp only [Nat.add_sub_cancel]; grind
theorem m0 : lG (ce (nmM g)) (g.nodes.length - 1) = cnB g := by
 have hn := gv.n1
 rw [Bool.eq_iff_iff]
 constructor
 ·intro h
  have hd := of_decide_eq_true h
  refine decide_eq_true fun v hv => Classical.byContradiction fun hne => ?_
  have hv0 : v ≠ 0 := fun e => hne (by rw [e])
  have p := C4 (B := ce (nmM g)) (n := g.nodes.length - 1) (fun i j hi hj => oI gv hi hj) hd (x := fun i => (fun u => if lab g u = lab g v then (1 : Rat) else 0) (i + 1)) ⟨v - 1, by omega, by
   show (if lab g (v - 1 + 1) = lab g v then (1 : Rat) else 0) ≠ 0
   rw [show v - 1 + 1 = v by omega, if_pos rfl]; grind⟩
  rw [xa gv (y := fun u => if lab g u = lab g v then (1 : Rat) else 0) (if_neg fun e => hne e.symm)] at p
  have z : ∀ ls : List WL, (∀ x ∈ ls, lab g x.f = lab g x.t) -> EN (fun u => if lab g u = lab g v then (1 : Rat) else 0) (fun u => if lab g u = lab g v then (1 : Rat) else 0) ls = 0 := by
   intro ls
   induction ls with
   | nil => intro _; rfl
   | cons x xs ih =>
    intro h
    simp only [EN];rw [ih fun y hy => h y (List.mem_cons_of_mem _ hy), h x List.mem_cons_self]; grind
  rw [z _ fun x hx => Ak gv hx] at p;exact absurd p (by decide)
 ·intro h
  have hc := of_decide_eq_true h
  refine decide_eq_true (D1 (fun i j hi hj => oI gv hi hj) fun x hx => ?_)
  obtain ⟨i, hi, hx⟩ := hx
  have e : fm (g.nodes.length - 1) (ce (nmM g)) x = EN (fun v => if v = 0 then 0 else x (v - 1)) (fun v => if v = 0 then 0 else x (v - 1)) (wls g.links) := xa gv (y := fun v => if v = 0 then 0 else x (v - 1)) rfl
  rw [e]
  have nn := vg (u := fun v => if v = 0 then 0 else x (v - 1)) (CR gv)
  refine Classical.byContradiction fun hz => hx ?_
  have f := mN (u := fun v => if v = 0 then 0 else x (v - 1)) (CR gv) (by grind)
  have c := (s9 gv (u := i + 1) (v := 0) (by omega) (by omega)).1 (hc (i + 1) (by omega))
  rw [<- oe] at c;exact wn (y := fun v => if v = 0 then 0 else x (v - 1)) f c
theorem CY {d : LK -> Rat} {b : List RW} (hb : ∀ i, i < g.nodes.length - 1 -> d6 b i = rb d (i + 1) g.links) (hc : cnB g = true) : ∀ v, v < g.nodes.length -> gd d (slX g b) v g.links = 0 := by
 have hn := gv.n1
 rw [<- m0 gv] at hc
 have hd := of_decide_eq_true hc
 refine Eh (fun l hl => ⟨(qT gv _ (List.mem_map.2 ⟨l, hl, rfl⟩)).1, (qT gv _ (List.mem_map.2 ⟨l, hl, rfl⟩)).2⟩) fun v hv hne => ?_;rw [Db d (slX g b) v fun l hl => Dn gv _ (List.mem_map.2 ⟨l, hl, rfl⟩)]
 have r := z7 gv (y := slX g b) (if_pos rfl) (a := v - 1) (by omega)
 have s := sq (B := ce (nmM g)) (n := g.nodes.length - 1) (b := d6 b) (fun i j hi hj => oI gv hi hj) (fun k hk => by have := hd k hk; grind) (i := v - 1) (by omega)
 rw [show v - 1 + 1 = v by omega] at r;rw [<- r, (sm_congr fun j _ => rfl : sm (g.nodes.length - 1) (fun j => ce (nmM g) (v - 1) j * slX g b (j + 1)) = sm (g.nodes.length - 1) (fun j => ce (nmM g) (v - 1) j * slv (ce (nmM g)) (d6 b) (g.nodes.length - 1) j)), s, hb _ (by omega), show v - 1 + 1 = v by omega]; grind
end
def mnX (g : GR) : Nat -> Rat := slX g (nmX g)
def mnY (g : GR) : Nat -> Rat := slX g (nmY g)
def mnL (g : GR) : List SP := (List.range g.nodes.length).map fun v => szW (mnX g v) (mnY g v)
def minV (g : GR) : List SP × Int := if bQ g = true then (if cnB g = true then (mnL g, 0) else ([], 10)) else ([], 1)
section
variable {g : GR} (gv : GV g)
include gv
theorem C5 (hc : cnB g = true) : (∀ v, v < g.nodes.length -> gd (dX g) (mnX g) v g.links = 0) /\ ∀ v, v < g.nodes.length -> gd (dY g) (mnY g) v g.links = 0 :=
 ⟨CY gv (fun i hi => by rw [nmX, sR hi, (zZ gv _).1]) hc, CY gv (fun i hi => by rw [nmY, sR hi, (zZ gv _).2]) hc⟩
end
/-! ### Words -/
structure SM (g : GR) : Prop where
 n6 : g.nodes.length <= 6
 l16 : g.links.length <= 16
 ok : ∀ r ∈ g.nodes, r.OK 2
theorem Ce {g : GR} (gv : GV g) (ok : ∀ r ∈ g.nodes, r.OK 2) (k : Nat) (hk : k <= g.links.length) (i : Nat) : ql ((nrL g (g.links.take k)).1 i) <= 1 + k * 18 /\ ql ((nrL g (g.links.take k)).2 i) <= 1 + k * 18 := by
 induction k generalizing i with
 | zero => exact ⟨eC, eC⟩
 | succ k ih =>
  have ih := ih (by omega)
  have hm : g.links[k] ∈ g.links := List.getElem_mem (by omega)
  have lv := gLV gv _ hm
  have o := lR (ok _ (iU lv)) rfl lv.ix lv.iy (m := 15) rfl
  have o1 := o.qx rfl
  have o2 := o.qy rfl
  rw [alS, dy] at o1;rw [alS, dx] at o2
  have lw := lv.w
  have w1 : ql ((cfN i g.links[k] : Int) : Rat) <= 2 := cb (by unfold cfN; (repeat' split) <;> exact ⟨by omega, by omega⟩)
  rw [kr g (by omega)]
  obtain ⟨a1, a2⟩ := vL (g := g) (nrL g (g.links.take k)) lv i
  rw [a1, a2];exact ⟨Nat.le_trans (bi (ih i).1 (aC w1 o1)) (by omega), Nat.le_trans (bi (ih i).2 (aC w1 o2)) (by omega)⟩
theorem um {f : Nat -> Rat} {M : Nat} : ∀ {k : Nat}, (∀ t, t < k -> ql (f t) <= M) -> ql (sm k f) <= 1 + k * (M + 1)
 | 0, _ => by show ql (0 : Rat) <= _; exact Nat.le_trans eC (by omega)
 | k + 1, h => by
  have ih := um (k := k) fun t ht => h t (by omega)
  rw [cB];exact Nat.le_trans (bi ih (h k (by omega))) (by rw [Nat.succ_mul]; omega)
theorem Bz {B : Nat -> Nat -> Rat} {n m J c : Nat} (hs : ∀ i j, i < n -> j < n -> B i j = B j i) (hB : ∀ i j, i < n -> j < n -> IB m (B i j)) {b : Nat -> Rat} (hb : ∀ i, i < n -> ql (b i) <= c) (hn : n <= 16) (hJ : n * (m + 4) < 32 * J) (hd : ∀ k, k < n -> 0 < DD B k) {i : Nat} (hi : i < n) : ql (slv B b n i) <= 1 + n * (J + c + 1) := by
 have hd' : ∀ k, k < n -> DD B k ≠ 0 := fun k hk => by have := hd k hk; grind
 have e : sm n (fun j => slv B (fun r => if r = j then 1 else 0) n i * b j) = slv B b n i := by
  refine y3 (x := fun i => sm n (fun j => slv B (fun r => if r = j then 1 else 0) n i * b j)) hs hd (fun r hr => ?_) hi;rw [sm_congr (g := fun k => sm n (fun j => B r k * slv B (fun r => if r = j then 1 else 0) n k * b j)) (fun k _ => by rw [<- jD]; exact sm_congr fun j _ => by grind), l8]
  rw [sm_congr (g := fun j => (if r = j then 1 else 0) * b j) (fun j hj => by
   have := sq (B := B) (n := n) (b := fun r => if r = j then 1 else 0) hs hd' hr
   rw [<- this, <- ph])]
  rw [eE (j := r) _ hr fun j _ hne => by rw [if_neg (fun e => hne e.symm)]; grind, if_pos rfl]; grind
 rw [<- e];refine um fun j hj => aC (Dz (m := m) (J := J) hs hB (fun a _ => ?_) hn hJ hd' hi) (hb j hj)
 show IB m (if a = j then 1 else 0)
 split
 ·exact wD.mono (Nat.zero_le _)
 ·exact CP m
structure NRM (g : GR) : Prop where
 len : (nmM g).length = g.nodes.length - 1
 rows : ∀ r ∈ nmM g, r.length = g.nodes.length - 1
 val : dN (nmM g) = true
 ok : okM 65536 (nmM g)
 fac : ym (ce (nmM g)) (g.nodes.length - 1)
 sol : lG (ce (nmM g)) (g.nodes.length - 1) = true -> xQ (ce (nmM g)) (d6 (nmX g)) (g.nodes.length - 1) /\ xQ (ce (nmM g)) (d6 (nmY g)) (g.nodes.length - 1)
 bx : ∀ x ∈ nmX g, x.OK 305
 bY : ∀ x ∈ nmY g, x.OK 305
 qx : cnB g = true -> ∀ v, v < g.nodes.length -> ql (mnX g v) <= 1600 /\ ql (mnY g v) <= 1600
theorem sQ {g : GR} (gv : GV g) (sm' : SM g) : NRM g := by
 have n6 := sm'.n6
 have n1 := gv.n1
 have hM : ∀ a b, -50331648 <= lapM g.links a b /\ lapM g.links a b <= 50331648 := fun a b => by
  have h1 := s8 g.links (gLV gv) a b
  have h2 := gv.l
  omega
 have hIB : ∀ a b, a < g.nodes.length - 1 -> b < g.nodes.length - 1 -> IB 26 (ce (nmM g) a b) := fun a b ha hb => by
  unfold ce; rw [z8 ha hb, aR]
  have := hM (a + 1) (b + 1)
  exact ⟨_, rfl, by
   have e : (2 : Nat) ^ 26 = 67108864 := by decide
   rw [e]; omega⟩
 have hs : ∀ a b, a < g.nodes.length - 1 -> b < g.nodes.length - 1 -> ce (nmM g) a b = ce (nmM g) b a := fun a b ha hb => oI gv ha hb
 have hJ : (g.nodes.length - 1) * (26 + 4) < 32 * 5 := by omega
 have hn16 : g.nodes.length - 1 <= 16 := by omega
 have qr : ∀ v, ql ((nrL g g.links).1 v) <= 305 /\ ql ((nrL g g.links).2 v) <= 305 := fun v => by
  have h := Ce gv sm'.ok g.links.length (Nat.le_refl _) v
  rw [List.take_length] at h
  have := sm'.l16
  exact ⟨by omega, by omega⟩
 have qbx : ∀ i, i < g.nodes.length - 1 -> ql (d6 (nmX g) i) <= 305 := fun i hi => by rw [nmX, sR hi]; exact (qr _).1
 have qby : ∀ i, i < g.nodes.length - 1 -> ql (d6 (nmY g) i) <= 305 := fun i hi => by rw [nmY, sR hi]; exact (qr _).2
 have hrows : ∀ r ∈ nmM g, r.length = g.nodes.length - 1 := fun r hr => by
  obtain ⟨a, _, rfl⟩ := List.mem_map.1 hr
  simp [gb]
 have sol : ∀ b : Nat -> Rat, (∀ i, i < g.nodes.length - 1 -> ql (b i) <= 305) -> lG (ce (nmM g)) (g.nodes.length - 1) = true -> xQ (ce (nmM g)) b (g.nodes.length - 1) /\ ∀ i, i < g.nodes.length - 1 -> ql (slv (ce (nmM g)) b (g.nodes.length - 1) i) <= 1600 := fun b hb hp => by
  have hd := of_decide_eq_true hp
  have hd' : ∀ k, k < g.nodes.length - 1 -> DD (ce (nmM g)) k ≠ 0 := fun k hk => by have := hd k hk; grind
  have qL : ∀ a b, a < g.nodes.length - 1 -> b < a -> ql (LL (ce (nmM g)) a b) <= 5 := fun a b ha hb => Di hs hIB hn16 hJ ha hb fun k' hk' => hd' k' (by omega)
  have q2 : ∀ i, i < g.nodes.length - 1 -> ql (slv (ce (nmM g)) b (g.nodes.length - 1) i) <= 1600 := fun i hi => by
   have := Bz hs hIB hb hn16 hJ hd hi
   have h5 : (g.nodes.length - 1) * (5 + 305 + 1) <= 5 * (5 + 305 + 1) := Nat.mul_le_mul_right _ (by omega)
   omega
  refine ⟨⟨fun a ha => ?_, fun a ha => Nat.le_trans (q2 a ha) (by decide)⟩, q2⟩
  have h1 := Ek qL hb a ha
  have h2 : 2 ^ a <= 2 ^ 5 := Nat.pow_le_pow_right (by decide) (by omega)
  have h3 : (305 + 5 + 1) * 2 ^ a <= 311 * 2 ^ 5 := Nat.mul_le_mul_left _ h2
  have h4 : 311 * 2 ^ 5 = 9952 := by decide
  omega
 refine ⟨jN g, hrows, ?_, ?_, ?_, fun hp => ⟨(sol _ qbx hp).1, (sol _ qby hp).1⟩, ?_, ?_, ?_⟩
 ·refine decide_eq_true ⟨by rw [jN]; omega, fun r hr => by rw [jN]; exact hrows r hr, fun a ha b hb => ?_⟩;rw [jN] at ha;exact hs a b ha (by omega)
 ·intro r hr x hx
  obtain ⟨a, _, rfl⟩ := List.mem_map.1 hr
  obtain ⟨w, _, rfl⟩ := List.mem_map.1 (List.mem_of_mem_drop hx)
  have := hM (a + 1) w
  exact (aD (cb ⟨by omega, by omega⟩)).mono rfl
 ·intro a ha hd
  have hd' : ∀ k, k < a -> DD (ce (nmM g)) k ≠ 0 := fun k hk => by have := hd k hk; grind
  exact ⟨Nat.le_trans (Fl hs hIB hn16 hJ ha hd') (by decide), fun b hb => Nat.le_trans (Di hs hIB hn16 hJ ha hb fun k' hk' => hd' k' (by omega)) (by decide)⟩
 ·intro x hx
  obtain ⟨a, _, rfl⟩ := List.mem_map.1 hx
  exact aD (qr _).1
 ·intro x hx
  obtain ⟨a, _, rfl⟩ := List.mem_map.1 hx
  exact aD (qr _).2
 ·intro hc v hv
  rw [<- m0 gv] at hc
  unfold mnX mnY slX
  by_cases e : v = 0
  ·rw [if_pos e, if_pos e]; exact ⟨by decide, by decide⟩
  ·rw [if_neg e, if_neg e];exact ⟨(sol _ qbx hc).2 _ (by omega), (sol _ qby hc).2 _ (by omega)⟩
end Go.Proofs.YtfichkokppbipaaGreatDoor

/- Costs and gradients by coordinates. No condition. -/
namespace Go.Proofs.YtfichkokppbipaaGreatDoor
attribute [local irreducible] aM

def xs (s : List SP) (v : Nat) : Rat := (s.getD v sp0).vx
def ys (s : List SP) (v : Nat) : Rat := (s.getD v sp0).vy
theorem tY {g : GR} {s : List SP} {l : LK} : (rsG g s l).vx = xs s l.t.toNat - xs s l.f.toNat - dX g l /\ (rsG g s l).vy = ys s l.t.toNat - ys s l.f.toNat - dY g l := by
 unfold rsG rsS
 rw [dy, dx];refine ⟨?_, ?_⟩
 ·show (atS s l.t).vx - ((atS s l.f).vx + dX g l) = (atS s l.t).vx - (atS s l.f).vx - dX g l; grind
 ·show (atS s l.t).vy - ((atS s l.f).vy + dY g l) = (atS s l.t).vy - (atS s l.f).vy - dY g l; grind
theorem xz (g : GR) (s : List SP) : ∀ (ls : List LK) (a : Rat), ls.foldl (fun a l => a + csT g s l) a = a + (qe (dX g) (xs s) ls + qe (dY g) (ys s) ls)
 | [], a => by simp only [List.foldl_nil, qe]; grind
 | l :: ls, a => by
  rw [List.foldl_cons, xz g s ls];simp only [qe, csT];rw [tY.1, tY.2]; grind
theorem A2 (g : GR) (s : List SP) : csR g s g.links = qe (dX g) (xs s) g.links + qe (dY g) (ys s) g.links := by
 unfold csR; rw [xz]; grind
theorem pH {d : LK -> Rat} {s m : Nat -> Rat} : ∀ {ls : List LK}, (∀ l ∈ ls, s l.f.toNat = m l.f.toNat /\ s l.t.toNat = m l.t.toNat) -> qe d s ls = qe d m ls
 | [], _ => rfl
 | l :: ls, h => by
  have ih := pH (d := d) (s := s) (m := m) (ls := ls) fun l hl => h l (List.mem_cons_of_mem _ hl)
  obtain ⟨h1, h2⟩ := h l List.mem_cons_self
  simp only [qe]; rw [ih, h1, h2]
theorem Ay {d : LK -> Rat} {s m : Nat -> Rat} {v : Nat} : ∀ {ls : List LK}, (∀ l ∈ ls, s l.f.toNat = m l.f.toNat /\ s l.t.toNat = m l.t.toNat) -> gd d s v ls = gd d m v ls
 | [], _ => rfl
 | l :: ls, h => by
  have ih := Ay (d := d) (s := s) (m := m) (v := v) (ls := ls) fun l hl => h l (List.mem_cons_of_mem _ hl)
  obtain ⟨h1, h2⟩ := h l List.mem_cons_self
  simp only [gd]; rw [ih, h1, h2]
theorem EV {g : GR} {v : Nat} (h : v < g.nodes.length) : (mnL g).getD v sp0 = szW (mnX g v) (mnY g v) := by
 unfold mnL; rw [List.getD_eq_getElem?_getD, List.getElem?_map, List.getElem?_range h]; rfl
theorem xh {g : GR} {v : Nat} (h : v < g.nodes.length) : xs (mnL g) v = mnX g v /\ ys (mnL g) v = mnY g v := by
 unfold xs ys; rw [EV h, dy, dx]; exact ⟨rfl, rfl⟩
theorem jO (g : GR) : (mnL g).length = g.nodes.length := by simp [mnL]
theorem j4 {g : GR} (gv : GV g) : ∀ l ∈ g.links, l.f.toNat < g.nodes.length /\ l.t.toNat < g.nodes.length := fun l hl => by
 have lv := gLV gv l hl
 have h1 := lv.f
 have h2 := lv.t
 omega
def lsQ (g : GR) : Rat := qe (dX g) (mnX g) g.links + qe (dY g) (mnY g) g.links
theorem A3 {g : GR} (gv : GV g) : csR g (mnL g) g.links = lsQ g := by
 rw [A2]; unfold lsQ;rw [pH fun l hl => ⟨(xh (j4 gv l hl).1).1, (xh (j4 gv l hl).2).1⟩, pH fun l hl => ⟨(xh (j4 gv l hl).1).2, (xh (j4 gv l hl).2).2⟩]
def lstV (g : GR) : RW × Int := if bQ g = true then (if cnB g = true then (qzW (lsQ g), 0) else (eh, 10)) else (eh, 1)
theorem Es {g : GR} (gv : GV g) (hc : cnB g = true) (s : List SP) :
  lsQ g <= csR g s g.links /\ (csR g s g.links = lsQ g ↔ ∀ v, v < g.nodes.length -> xs s v - mnX g v = xs s 0 - mnX g 0 /\ ys s v - mnY g v = ys s 0 - mnY g 0) := by
 obtain ⟨m1, m2⟩ := C5 gv hc
 have hw : ∀ l ∈ g.links, 1 <= l.w := fun l hl => (gLV gv l hl).w.1
 have a := uo (s := xs s) (j4 gv) hw m1
 have b := uo (s := ys s) (j4 gv) hw m2
 rw [A2]; unfold lsQ;refine ⟨by grind, ?_, ?_⟩
 ·intro h v hv
  have h1 := a.2.1 (by grind)
  have h2 := b.2.1 (by grind)
  have c := (s9 gv hv (by have := gv.n1; omega)).1 (of_decide_eq_true hc v hv)
  exact ⟨r5 (y := fun v => xs s v - mnX g v) h1 c, r5 (y := fun v => ys s v - mnY g v) h2 c⟩
 ·intro h
  rw [a.2.2 fun l hl => ((h _ (j4 gv l hl).1).1).trans ((h _ (j4 gv l hl).2).1).symm, b.2.2 fun l hl => ((h _ (j4 gv l hl).1).2).trans ((h _ (j4 gv l hl).2).2).symm]
theorem Ex {g : GR} (gv : GV g) (hc : cnB g = true) (s : List SP) :
  csR g s g.links = lsQ g + (EN (fun v => xs s v - mnX g v) (fun v => xs s v - mnX g v) (wls g.links) + EN (fun v => ys s v - mnY g v) (fun v => ys s v - mnY g v) (wls g.links)) := by
 obtain ⟨m1, m2⟩ := C5 gv hc
 rw [A2, vI (j4 gv) m1 (xs s), vI (j4 gv) m2 (ys s)]; unfold lsQ; grind
def Cs (g : GR) (s : List SP) : List SP := (List.range g.nodes.length).map fun v => szW (gd (dX g) (xs s) v g.links) (gd (dY g) (ys s) v g.links)
def grdV (g : GR) (s : List SP) : List SP × Int := if dq g s = true then (Cs g s, 0) else ([], 1)
/-! ### Words of costs -/
theorem xi {g : GR} (gv : GV g) (sm' : SM g) (hc : cnB g = true) : ∀ p ∈ mnL g, p.OK 1600 := fun p hp => by
 obtain ⟨v, hv, rfl⟩ := List.mem_map.1 hp
 have := (sQ gv sm').qx hc v (List.mem_range.1 hv)
 exact eZ this.1 this.2
end Go.Proofs.YtfichkokppbipaaGreatDoor

/- Graphs with the same costs have the same minimum. No condition. -/
namespace Go.Proofs.YtfichkokppbipaaGreatDoor
attribute [local irreducible] aM

theorem xg (g : GR) : mnX g 0 = 0 /\ mnY g 0 = 0 := by
 unfold mnX mnY slX; exact ⟨if_pos rfl, if_pos rfl⟩
/-! ### A link parted -/
theorem kU (d : LK -> Rat) (s : Nat -> Rat) (v : Nat) (x : LK) : ∀ ls : List LK, gd d s v (ls ++ [x]) = gd d s v ls + ((x.w : Int) : Rat) * ((dl x.t.toNat v - dl x.f.toNat v) * (s x.t.toNat - s x.f.toNat - d x))
 | [] => by simp only [List.nil_append, gd]
 | y :: ys => by simp only [List.cons_append, gd]; rw [kU d s v x ys]; grind
end Go.Proofs.YtfichkokppbipaaGreatDoor

/- adjust: Minimum, Least, Gradient, Worst. No condition. -/
namespace Go.Proofs.YtfichkokppbipaaGreatDoor
attribute [local irreducible] aM
open Go.RowKit

set_option maxHeartbeats 1000000 in
theorem vX (g : GR) (ok : ∀ r ∈ g.nodes, r.OK 4096) (hs : bQ g = true -> SM g) : Con Tryz.prog 17 [AG g.cs] { v := .tup [.one (.d (dSs (minV g).1)), .one (.d (lI (minV g).2))] } := by
 have cN := yk g ok
 have cz := iE 0 ⟨by decide, by decide⟩
 refine Z3 Tryz.func17 ?_
 intro w0 X
 rw [aq _ _ [(0, AG g.cs)] rfl rfl];refine gQ fun _ O=>?_;refine aF rfl rfl rfl rfl rfl rfl ?_;refine Z8 ?_;refine Z8 ?_;refine eQ O ?_;clear O
 by_cases hv : bQ g = true
 ·have gv := bJ.1 hv
  have S := hs hv
  have NR := sQ gv S
  have n6 := S.n6
  have n1 := gv.n1
  have eN : nrV g = (nmM g, nmX g, nmY g, 0) := by rw [nrV, if_pos hv]; rfl
  rw [eN] at cN
  have hlX : (nmX g).length = (nmM g).length := by rw [NR.len]; exact jM _ _
  have hlY : (nmY g).length = (nmM g).length := by rw [NR.len]; exact jM _ _
  have cX := tW (nmM g) (nmX g) (by rw [NR.len]; omega) (by rw [hlX, NR.len]; omega) (fun r hr => by rw [NR.rows r hr]; omega) NR.ok (fun x hx => (NR.bx x hx).mono rfl) (fun _ _ => by rw [NR.len]; exact ⟨NR.fac, fun hp => (NR.sol hp).1⟩)
  have cY := tW (nmM g) (nmY g) (by rw [NR.len]; omega) (by rw [hlY, NR.len]; omega) (fun r hr => by rw [NR.rows r hr]; omega) NR.ok (fun x hx => (NR.bY x hx).mono rfl) (fun _ _ => by rw [NR.len]; exact ⟨NR.fac, fun hp => (NR.sol hp).2⟩)
  have eX : dO (nmM g) (nmX g) = if cnB g = true then (gV (ce (nmM g)) (d6 (nmX g)) (g.nodes.length - 1), 0) else ([], 10) := by
   rw [dO, if_pos ⟨NR.val, hlX⟩, NR.len, m0 gv]
  have eY : dO (nmM g) (nmY g) = if cnB g = true then (gV (ce (nmM g)) (d6 (nmY g)) (g.nodes.length - 1), 0) else ([], 10) := by
   rw [dO, if_pos ⟨NR.val, hlY⟩, NR.len, m0 gv]
  rw [eX] at cX;rw [eY] at cY;rw [minV, if_pos hv]
  by_cases hc : cnB g = true
  ·rw [if_pos hc] at cX cY;rw [if_pos hc]
   have aX : ∀ i, i < g.nodes.length - 1 -> (gV (ce (nmM g)) (d6 (nmX g)) (g.nodes.length - 1))[i]? = some (qzW (mnX g (i + 1))) := fun i hi => by
    unfold gV cS; rw [List.getElem?_map, List.getElem?_range hi]; rfl
   have aY : ∀ i, i < g.nodes.length - 1 -> (gV (ce (nmM g)) (d6 (nmY g)) (g.nodes.length - 1))[i]? = some (qzW (mnY g (i + 1))) := fun i hi => by
    unfold gV cS; rw [List.getElem?_map, List.getElem?_range hi]; rfl
   have bX : (gV (ce (nmM g)) (d6 (nmX g)) (g.nodes.length - 1)).length = g.nodes.length - 1 := eK _ _
   have bY : (gV (ce (nmM g)) (d6 (nmY g)) (g.nodes.length - 1)).length = g.nodes.length - 1 := eK _ _
   have e0 := xg g
   have en : mnL g = (List.range (g.nodes.length - 1 + 1)).map fun v => szW (mnX g v) (mnY g v) := by
    unfold mnL; rw [<- xo gv]
   have hm : g.nodes.length - 1 <= 5 := by omega
   rw [en];generalize gV (ce (nmM g)) (d6 (nmX g)) (g.nodes.length - 1) = LX at cX aX bX;generalize gV (ce (nmM g)) (d6 (nmY g)) (g.nodes.length - 1) = LY at cY aY bY;generalize nmM g = M at cN cX cY;generalize nmX g = BX at cN cX;generalize nmY g = BY at cN cY;generalize mnX g = x at aX e0 ⊢;generalize mnY g = y at aY e0 ⊢;generalize g.nodes.length - 1 = m at aX aY bX bY hm ⊢;refine gQ fun _ O=>?_;refine Z7 ?_;refine ac rfl rfl (cN) rfl rfl rfl rfl ?_;refine Z9 ?_;refine am rfl rfl rfl ?_;refine am rfl rfl rfl ?_;refine am rfl rfl rfl ?_;refine am rfl rfl rfl ?_;refine Z8 ?_;refine Z8 ?_;refine Z8 ?_;refine Z8 ?_;refine eQ O ?_;clear O;refine ag ?_;refine gQ fun _ O=>?_;refine Z9 ?_;refine Z6 ?_;refine eQ O ?_;clear O;refine ap rfl (fun h => by cases h) (fun _ => ?_);refine ak ?_;show AWP _ _ _ _ _ _;refine gQ fun _ O=>?_;refine Z9 ?_;refine Z9 ?_;refine ac rfl rfl (cX) rfl rfl rfl rfl ?_;refine Z9 ?_;refine am rfl rfl rfl ?_;refine am rfl rfl rfl ?_;refine Z8 ?_;refine Z8 ?_;refine eQ O ?_;clear O;refine ag ?_;refine gQ fun _ O=>?_;refine Z9 ?_;refine Z6 ?_;refine eQ O ?_;clear O;refine ap rfl (fun h => by cases h) (fun _ => ?_);refine ak ?_;show AWP _ _ _ _ _ _;refine gQ fun _ O=>?_;refine Z9 ?_;refine Z9 ?_;refine ac rfl rfl (cY) rfl rfl rfl rfl ?_;refine Z9 ?_;refine am rfl rfl rfl ?_;refine am rfl rfl rfl ?_;refine Z8 ?_;refine Z8 ?_;refine eQ O ?_;clear O;refine gQ fun _ O=>?_;refine ac rfl rfl (cz) rfl rfl rfl rfl ?_;refine ac rfl rfl (cz) rfl rfl rfl rfl ?_;refine aL rfl rfl rfl ?_;refine aw rfl rfl rfl rfl ?_;refine Z8 ?_;refine eQ O ?_;clear O;refine ag ?_;refine gQ fun _ O=>?_;refine Z9 ?_;refine az rfl (a8 RW.dc rfl rfl) rfl ?_;refine Z9 ?_;refine eQ O ?_;clear O;refine aj (aI (α := Nat) (fun i => mk 60 [(8, V1 (dRs LX)), (9, V1 (dRs LY)), (11, .val (.one (.own 40 8 0 (i + 1)))), (41, V1 (dRs LX)), (42, dI LX.length), (43, dI i)] [(40, some (.arr 8 ((List.range (i + 1)).map fun v => (szW (x v) (y v)).dc)))] []) (fun i => i <= m) (fun i => m - i) 0 ?_ (Nat.zero_le _) ?_)
   ·refine Wk.mk' ⟨rfl, rfl, rfl, rfl, rfl, rfl, trivial⟩ ⟨?_, trivial⟩
    show _ = some (OO.arr 8 [(szW (x 0) (y 0)).dc])
    rw [e0.1, e0.2]; rfl
   intro i hi
   refine gQ fun _ O=>?_;refine Z6 ?_;refine eQ O ?_;clear O;refine ag ?_;refine ap rfl (fun hg => ?_) (fun hg => ?_)
   ·have hg : i < m := by simp at hg; omega
    have g1 : i < LX.length := by omega
    have g2 : i < LY.length := by omega
    have a1 : LX[i] = qzW (x (i + 1)) := by have := aX i hg; rw [List.getElem?_eq_getElem g1] at this; exact Option.some.inj this
    have a2 : LY[i] = qzW (y (i + 1)) := by have := aY i hg; rw [List.getElem?_eq_getElem g2] at this; exact Option.some.inj this
    have n1 : ((List.range (i + 1)).map fun v => (szW (x v) (y v)).dc) ++ [(SP.mk LX[i] LY[i]).dc] = (List.range (i + 1 + 1)).map fun v => (szW (x v) (y v)).dc := by
     rw [a1, a2, List.range_succ (n := i + 1), List.map_append]; rfl
    have z1 : ((List.range (i + 1)).map fun v => (szW (x v) (y v)).dc).length = i + 1 := by simp
    generalize ((List.range (i + 1)).map fun v => (szW (x v) (y v)).dc) = es at n1 z1 ⊢;refine ak ?_;show AWP _ _ _ _ _ _;refine ag ?_;refine aj ?_;refine gQ fun _ O=>?_;refine Z9 ?_;refine Z8 ?_;refine eQ O ?_;clear O;refine bb tok mixed (A := [[], [], [], [], [1, 2], [], [], [], [5, 6], [1, 2, 3, 5, 6, 7], [1, 2, 3, 4, 5, 6, 7, 8], [1, 2, 3, 4, 5, 6, 7, 8, 9], []]) (an := [{}, {}, {}, {}, {}, {}, {}, {}, {}, {}, {}, {}, {}]) rfl (by kernel_rfl) rfl fun _ O=>?_;refine Z9 ?_;refine Z9 ?_;refine Z9 ?_;refine ab rfl (x_m RW.dc rfl rfl rfl rfl g1 rfl) rfl ?_;refine Z7 ?_;refine Z9 ?_;refine Z9 ?_;refine ab rfl (x_m RW.dc rfl rfl rfl rfl g2 rfl) rfl ?_;refine Z7 ?_;refine aL rfl rfl rfl ?_;refine aw rfl rfl rfl rfl ?_;refine aO rfl (eI rfl rfl rfl rfl rfl rfl (by decide) (Nat.le_of_ble_eq_true rfl) rfl (by simp) rfl rfl z1.symm (by simp <;> omega)) rfl rfl rfl ?_;refine Z8 ?_;refine eQ O ?_;clear O;show AWP _ _ _ _ _ _;refine gR fun _ O=>?_;refine au rfl (aE (c := ((i + 1 : Nat) : Int)) (by omega) (by omega)) rfl ?_;refine Z9 ?_;refine eQ O ?_;clear O;refine ⟨i + 1, by omega, hg, Wk.rn [8, 9, 11, 41, 42, 43] [57] 57 40 rfl rfl rfl ⟨rfl, rfl, ?_, rfl, rfl, rfl, trivial⟩ ⟨?_, trivial⟩⟩
    ·show SV.val (.one (.own 40 8 0 _)) = _
     rw [List.length_append, z1]; rfl
    ·rw [<- n1]; rfl
   have hg : i = m := by simp at hg; omega
   subst hg
   refine aA ?_;show AWP _ _ _ _ _ _;refine cQ [11] [40] 40 [(11, V1 (dSs ((List.range (i + 1)).map fun v => szW (x v) (y v))))] [] rfl ?_ trivial ?_
   ·exact ⟨bz (by rw [List.map_map]; rfl) (by simp), trivial⟩
   refine gQ fun _ O=>?_;refine Z9 ?_;refine Z8 ?_;refine Z8 ?_;refine eQ O ?_;clear O;exact al aP
  ·rw [if_neg hc] at cX;rw [if_neg hc];refine gQ fun _ O=>?_;refine Z7 ?_;refine ac rfl rfl (cN) rfl rfl rfl rfl ?_;refine Z9 ?_;refine am rfl rfl rfl ?_;refine am rfl rfl rfl ?_;refine am rfl rfl rfl ?_;refine am rfl rfl rfl ?_;refine Z8 ?_;refine Z8 ?_;refine Z8 ?_;refine Z8 ?_;refine eQ O ?_;clear O;refine ag ?_;refine gQ fun _ O=>?_;refine Z9 ?_;refine Z6 ?_;refine eQ O ?_;clear O;refine ap rfl (fun h => by cases h) (fun _ => ?_);refine ak ?_;show AWP _ _ _ _ _ _;refine gQ fun _ O=>?_;refine Z9 ?_;refine Z9 ?_;refine ac rfl rfl (cX) rfl rfl rfl rfl ?_;refine Z9 ?_;refine am rfl rfl rfl ?_;refine am rfl rfl rfl ?_;refine Z8 ?_;refine Z8 ?_;refine eQ O ?_;clear O;refine ag ?_;refine gQ fun _ O=>?_;refine Z9 ?_;refine Z6 ?_;refine eQ O ?_;clear O;refine ap rfl (fun _ => ?_) (fun h => by cases h);refine gQ fun _ O=>?_;refine Z8 ?_;refine Z8 ?_;refine eQ O ?_;clear O;exact al aP
 ·have eN : nrV g = ([], [], [], 1) := by rw [nrV, if_neg hv]
  rw [eN] at cN;rw [minV, if_neg hv];refine gQ fun _ O=>?_;refine Z7 ?_;refine ac rfl rfl (cN) rfl rfl rfl rfl ?_;refine Z9 ?_;refine am rfl rfl rfl ?_;refine am rfl rfl rfl ?_;refine am rfl rfl rfl ?_;refine am rfl rfl rfl ?_;refine Z8 ?_;refine Z8 ?_;refine Z8 ?_;refine Z8 ?_;refine eQ O ?_;clear O;refine ag ?_;refine gQ fun _ O=>?_;refine Z9 ?_;refine Z6 ?_;refine eQ O ?_;clear O;refine ap rfl (fun _ => ?_) (fun h => by cases h);refine gQ fun _ O=>?_;refine Z9 ?_;refine Z8 ?_;refine Z8 ?_;refine eQ O ?_;clear O;exact al aP

theorem AB (g : GR) (ok : ∀ r ∈ g.nodes, r.OK 4096) (hs : bQ g = true -> SM g) : Con Tryz.prog 19 [AG g.cs] { v := .tup [.agg (lstV g).1.cs, .one (.d (lI (lstV g).2))] } := by
 have cM := vX g ok hs
 refine Z3 Tryz.func19 ?_
 intro w0 X
 rw [aq _ _ [(0, AG g.cs)] rfl rfl];refine gQ fun _ O=>?_;refine aF rfl rfl rfl rfl rfl rfl ?_;refine ar rfl rfl rfl rfl rfl rfl ?_;refine Z8 ?_;refine eQ O ?_;clear O
 by_cases hv : bQ g = true
 ·have gv := bJ.1 hv
  rw [minV, if_pos hv] at cM;rw [lstV, if_pos hv]
  by_cases hc : cnB g = true
  ·rw [if_pos hc] at cM;rw [if_pos hc]
   have cC := Cw g (mnL g) ok (fun p hp => (xi gv (hs hv) hc p hp).mono rfl)
   have e : hZ g (mnL g) = (qzW (lsQ g), 0) := by
    rw [hZ, if_pos (cK.2 ⟨gv, jO g⟩), A3 gv]
   rw [e] at cC;generalize mnL g = s at cM cC;refine gQ fun _ O=>?_;refine Z7 ?_;refine ac rfl rfl (cM) rfl rfl rfl rfl ?_;refine Z9 ?_;refine am rfl rfl rfl ?_;refine am rfl rfl rfl ?_;refine Z8 ?_;refine Z8 ?_;refine eQ O ?_;clear O;refine ag ?_;refine gQ fun _ O=>?_;refine Z9 ?_;refine Z6 ?_;refine eQ O ?_;clear O;refine ap rfl (fun h => by cases h) (fun _ => ?_);refine ak ?_;show AWP _ _ _ _ _ _;refine gQ fun _ O=>?_;refine Z7 ?_;refine Z9 ?_;refine ac rfl rfl (cC) rfl rfl rfl rfl ?_;refine am rfl rfl rfl ?_;refine am rfl rfl rfl ?_;refine ah rfl rfl rfl rfl rfl ?_;refine Z8 ?_;refine eQ O ?_;clear O;exact al aP
  ·rw [if_neg hc] at cM;rw [if_neg hc];refine gQ fun _ O=>?_;refine Z7 ?_;refine ac rfl rfl (cM) rfl rfl rfl rfl ?_;refine Z9 ?_;refine am rfl rfl rfl ?_;refine am rfl rfl rfl ?_;refine Z8 ?_;refine Z8 ?_;refine eQ O ?_;clear O;refine ag ?_;refine gQ fun _ O=>?_;refine Z9 ?_;refine Z6 ?_;refine eQ O ?_;clear O;refine ap rfl (fun _ => ?_) (fun h => by cases h);refine gQ fun _ O=>?_;refine aL rfl rfl rfl ?_;refine Z9 ?_;refine ah rfl rfl rfl rfl rfl ?_;refine Z8 ?_;refine eQ O ?_;clear O;exact al aP
 ·rw [minV, if_neg hv] at cM;rw [lstV, if_neg hv];refine gQ fun _ O=>?_;refine Z7 ?_;refine ac rfl rfl (cM) rfl rfl rfl rfl ?_;refine Z9 ?_;refine am rfl rfl rfl ?_;refine am rfl rfl rfl ?_;refine Z8 ?_;refine Z8 ?_;refine eQ O ?_;clear O;refine ag ?_;refine gQ fun _ O=>?_;refine Z9 ?_;refine Z6 ?_;refine eQ O ?_;clear O;refine ap rfl (fun _ => ?_) (fun h => by cases h);refine gQ fun _ O=>?_;refine aL rfl rfl rfl ?_;refine Z9 ?_;refine ah rfl rfl rfl rfl rfl ?_;refine Z8 ?_;refine eQ O ?_;clear O;exact al aP

theorem AU {T : Tab} {t : TypeId} (a b : Nat) : ba T .eql t (dI a) (dI b) = .set (dB (decide (a = b))) := by
 show bF (.bool ((a : Int) == (b : Int))) = _
 have : ((a : Int) == (b : Int)) = decide (a = b) := by rw [Bool.eq_iff_iff]; simp only [beq_iff_eq, decide_eq_true_eq]; omega
 rw [this]; rfl

theorem vf (g : GR) (s : List SP) : Con Tryz.prog 77 [AG g.cs, V1 (dSs s)] { v := dB (dq g s) } := by
 have cV := mz g
 have e : dq g s = (bQ g && decide (s.length = g.nodes.length)) := rfl
 rw [e];generalize bQ g = b at cV;refine Z3 Tryz.func77 ?_
 intro w0 X
 rw [aq _ _ [(0, AG g.cs), (1, V1 (dSs s))] rfl rfl];refine gQ fun _ O=>?_;refine aF rfl rfl rfl rfl rfl rfl ?_;refine Z8 ?_;refine eQ O ?_;clear O
 cases b with
 | true =>
  refine gQ fun _ O=>?_;refine Z7 ?_;refine ac rfl rfl (cV) rfl rfl rfl rfl ?_;refine Z9 ?_;refine Z9 ?_;refine az rfl (a8 SP.dc rfl rfl) rfl ?_;refine Z5 ?_;refine Z7 ?_;refine az rfl (a8 RW.dc rfl rfl) rfl ?_;refine au rfl (AU _ _) rfl ?_;refine Z4 ?_;refine Z8 ?_;refine eQ O ?_;clear O;exact al aP
 | false =>
  refine gQ fun _ O=>?_;refine Z7 ?_;refine ac rfl rfl (cV) rfl rfl rfl rfl ?_;refine Z9 ?_;refine aB rfl ?_;refine aB rfl ?_;refine aB rfl ?_;refine aB rfl ?_;refine aB rfl ?_;refine aB rfl ?_;refine Z4 ?_;refine Z8 ?_;refine eQ O ?_;clear O;exact al aP

theorem xD (a b : SP) (n : Int) (hn : I64 n) (oa : a.OK 8388608) (ob : b.OK 4194304) : Con Tryz.prog 79 [AG a.cs, AG b.cs, dI n] { v := AG (szW (a.vx + b.vx * (n : Rat)) (a.vy + b.vy * (n : Rat))).cs } := by
 have cO := iE n hn
 have on := cb hn
 have m1 := aC (ob.qx rfl) on
 have m2 := aC (ob.qy rfl) on
 have c1 := ko b.x (qzW (n : Rat)) (b.vx * (n : Rat)) (ob.x.mono rfl) ((aD on).mono rfl) (by rw [aR]; rfl)
 have c2 := vK a.x (qzW (b.vx * (n : Rat))) (a.vx + b.vx * (n : Rat)) (oa.x.mono rfl) ((aD m1).mono rfl) (by rw [aR]; rfl)
 have c3 := ko b.y (qzW (n : Rat)) (b.vy * (n : Rat)) (ob.y.mono rfl) ((aD on).mono rfl) (by rw [aR]; rfl)
 have c4 := vK a.y (qzW (b.vy * (n : Rat))) (a.vy + b.vy * (n : Rat)) (oa.y.mono rfl) ((aD m2).mono rfl) (by rw [aR]; rfl)
 refine Z3 Tryz.func79 ?_
 intro w0 X
 rw [aq _ _ [(0, AG a.cs), (1, AG b.cs), (2, dI n)] rfl rfl];refine gQ fun _ O=>?_;refine aF rfl rfl rfl rfl rfl rfl ?_;refine aF rfl rfl rfl rfl rfl rfl ?_;refine ar rfl rfl rfl rfl rfl rfl ?_;refine eQ O ?_;clear O;refine gQ fun _ O=>?_;refine Z9 ?_;refine ac rfl rfl (cO) rfl rfl rfl rfl ?_;refine ar rfl rfl rfl rfl rfl rfl ?_;refine ah rfl rfl rfl rfl rfl ?_;refine eQ O ?_;clear O;refine aH tok mixed (A := [[], [], [], [], [], [2], [0, 2, 3, 4], [], [], [], [], [], [0, 1, 2, 3, 4, 5, 9], [0, 1, 2, 3, 4, 5, 6, 7, 9, 10, 11], [0, 1, 2, 3, 4, 5, 7, 8, 9, 10, 11, 12], []]) (an := [{}, {}, {}, {}, {}, {}, {}, { c := [15, 16] }, { c := [15, 16] }, { c := [15, 16] }, { c := [15, 16] }, { c := [15, 16] }, {}, {}, {}, {}]) rfl (by kernel_rfl) rfl fun _ O=>?_;refine Z5 ?_;refine Z7 ?_;refine Z5 ?_;refine Z7 ?_;refine Z7 ?_;refine ac rfl rfl (c1) rfl rfl rfl rfl ?_;refine ac rfl rfl (c2) rfl rfl rfl rfl ?_;refine Z5 ?_;refine Z7 ?_;refine Z5 ?_;refine Z7 ?_;refine Z7 ?_;refine ac rfl rfl (c3) rfl rfl rfl rfl ?_;refine ac rfl rfl (c4) rfl rfl rfl rfl ?_;refine aL rfl rfl rfl ?_;refine ah rfl rfl rfl rfl rfl ?_;refine eQ O ?_;clear O;exact al aP

theorem Dg (i j v : Nat) : ql (dl i v - dl j v) <= 1 := by
 unfold dl; (repeat' split) <;> decide +kernel
theorem uN {g : GR} {s : List SP} (h : GS g s) (ok : ∀ r ∈ g.nodes, r.OK 4096) (os : ∀ p ∈ s, p.OK 4096) (v : Nat) : ∀ k, k <= g.links.length -> ql (gd (dX g) (xs s) v (g.links.take k)) <= 1 + k * 32800 /\ ql (gd (dY g) (ys s) v (g.links.take k)) <= 1 + k * 32800
 | 0, _ => ⟨eC, eC⟩
 | k + 1, hk => by
  have ih := uN h ok os v k (by omega)
  have hm : g.links[k] ∈ g.links := List.getElem_mem (by omega)
  have o := ki h hm ok os
  have lv := gLV h.gv _ hm
  have w1 := cb lv.iw
  have q1 := o.qx rfl
  have q2 := o.qy rfl
  rw [tY.1] at q1;rw [tY.2] at q2;rw [List.take_succ_eq_append_getElem (by omega), kU, kU];exact ⟨Nat.le_trans (bi ih.1 (aC w1 (aC (Dg _ _ v) q1))) (by omega), Nat.le_trans (bi ih.2 (aC w1 (aC (Dg _ _ v) q2))) (by omega)⟩
theorem Aw {d : LK -> Rat} {s X : Nat -> Rat} {ls : List LK} {l : LK} {f t : Nat} {r : Rat} (hX : X = fun v => gd d s v ls) (hf : l.f.toNat = f) (ht : l.t.toNat = t) (hne : f ≠ t) (hr : r = s l.t.toNat - s l.f.toNat - d l) :
  iZ (iZ X t (X t + r * ((l.w : Int) : Rat))) f (iZ X t (X t + r * ((l.w : Int) : Rat)) f + r * ((-l.w : Int) : Rat)) = fun v => gd d s v (ls ++ [l]) := by
 funext v
 rw [kU, <- hr, hf, ht]
 subst hX
 have e : ((-l.w : Int) : Rat) = -((l.w : Int) : Rat) := Rat.intCast_neg _
 rw [e]
 unfold iZ dl
 by_cases e1 : v = f
 ·subst e1
  simp only [if_true, if_neg hne]; grind
 ·by_cases e2 : v = t
  ·subst e2
   simp only [if_neg e1, if_true]; grind
  ·simp only [if_neg e1, if_neg e2]; grind

set_option maxHeartbeats 1000000 in
theorem Ei (g : GR) (s : List SP) (ok : ∀ r ∈ g.nodes, r.OK 4096) (os : ∀ p ∈ s, p.OK 4096) : Con Tryz.prog 21 [AG g.cs, V1 (dSs s)] { v := .tup [.one (.d (dSs (grdV g s).1)), .one (.d (lI (grdV g s).2))] } := by
 have cz := iE 0 ⟨by decide, by decide⟩
 refine Z3 Tryz.func21 ?_
 intro w0 X
 rw [aq _ _ [(0, AG g.cs), (1, V1 (dSs s))] rfl rfl];refine gQ fun _ O=>?_;refine aF rfl rfl rfl rfl rfl rfl ?_;refine Z8 ?_;refine Z8 ?_;refine eQ O ?_;clear O;refine ag ?_;refine gQ fun _ O=>?_;refine Z7 ?_;refine Z9 ?_;refine ac rfl rfl (vf g s) rfl rfl rfl rfl ?_;refine dz rfl rfl rfl ?_;refine eQ O ?_;clear O;refine ap rfl (fun hc => ?_) (fun hc => ?_)
 ·rw [Bool.not_eq_true'] at hc
  have e : grdV g s = ([], 1) := by rw [grdV, if_neg (by rw [hc]; simp)]
  rw [e];refine gQ fun _ O=>?_;refine Z8 ?_;refine Z8 ?_;refine eQ O ?_;clear O;exact al aP
 rw [Bool.not_eq_false'] at hc
 have h := cK.1 hc
 have gv := h.gv
 rw [grdV, if_pos hc]
 have hsn := h.hs
 obtain ⟨n, hn⟩ : ∃ n, n = g.nodes.length := ⟨_, rfl⟩
 have eG : Cs g s = (List.range n).map fun v => szW (gd (dX g) (xs s) v g.links) (gd (dY g) (ys s) v g.links) := by rw [hn]; rfl
 have n16 := gv.n2
 have l48 := gv.l
 rw [<- hn] at n16 hsn;rw [eG];refine ak ?_;show AWP _ _ _ _ _ _;refine gQ fun _ O=>?_;refine Z9 ?_;refine az rfl (a8 SP.dc rfl rfl) rfl ?_;refine br (sz := _) (es := _) (f := _) (v := _) rfl (sV (l := n) rfl rfl rfl rfl rfl (Nat.le_of_ble_eq_true rfl) (by decide) (by rw [hsn]) (by rw [hsn]) (by omega)) rfl rfl ?_;refine Z8 ?_;refine eQ O ?_;clear O;refine ag ?_;refine gQ fun _ O=>?_;refine Z9 ?_;refine az rfl rfl rfl ?_;refine Z9 ?_;refine eQ O ?_;clear O;refine aj (aI (α := Nat) (fun i => mk 75 [(1, V1 (dSs s)), (2, .ptr 2 0), (6, .val (.one (.own 18 8 0 n))), (20, dI n), (21, dI i)] [(2, some (.box g.cs)), (18, some (.arr 8 ((List.range i).map (fun _ => (szW 0 0).dc) ++ List.replicate (n - i) sp0.dc)))] []) (fun i => i <= n) (fun i => n - i) 0 ?_ (Nat.zero_le _) ?_)
 ·exact Wk.mk' ⟨rfl, rfl, rfl, rfl, rfl, trivial⟩ ⟨rfl, rfl, trivial⟩
 intro i hi
 refine gQ fun _ O=>?_;refine Z6 ?_;refine eQ O ?_;clear O;refine ag ?_;refine ap rfl (fun hg => ?_) (fun hg => ?_)
 ·have hg : i < n := by simp at hg; omega
  have hel : ∀ el ∈ (List.range i).map (fun _ => (szW 0 0).dc) ++ List.replicate (n - i) sp0.dc, el.length = 8 := by
   intro el h
   rcases List.mem_append.1 h with h | h
   ·obtain ⟨_, _, rfl⟩ := List.mem_map.1 h; rfl
   ·rw [List.eq_of_mem_replicate h]; rfl
  have hlen : i < ((List.range i).map (fun _ => (szW 0 0).dc) ++ List.replicate (n - i) sp0.dc).length := by simp; omega
  have hset : ((List.range i).map (fun _ => (szW 0 0).dc) ++ List.replicate (n - i) sp0.dc).set i (szW 0 0).dc = (List.range (i + 1)).map (fun _ => (szW 0 0).dc) ++ List.replicate (n - (i + 1)) sp0.dc := by
   obtain ⟨k, hk⟩ : ∃ k, n - i = k + 1 := ⟨n - i - 1, by omega⟩
   rw [hk, List.replicate_succ, oo (by simp), show n - (i + 1) = k by omega, List.range_succ, List.map_append, List.append_assoc]; rfl
  generalize (List.range i).map (fun _ => (szW 0 0).dc) ++ List.replicate (n - i) sp0.dc = es at hel hlen hset ⊢;refine ak ?_;show AWP _ _ _ _ _ _;refine ag ?_;refine aj ?_;refine gQ fun _ O=>?_;refine Z9 ?_;refine Z8 ?_;refine eQ O ?_;clear O;refine gR fun _ O=>?_;refine Z9 ?_;refine Z9 ?_;refine ac rfl rfl (cz) rfl rfl rfl rfl ?_;refine ac rfl rfl (cz) rfl rfl rfl rfl ?_;refine aL rfl rfl rfl ?_;refine ab rfl (x_o (i := i) (j := i) rfl rfl rfl rfl rfl hg (Nat.zero_add _)) rfl ?_;refine ah rfl (xP (p := szW 0 0) rfl rfl rfl hlen hel) rfl rfl rfl ?_;refine eQ O ?_;clear O;rw [hset];show AWP _ _ _ _ _ _;refine gR fun _ O=>?_;refine au rfl (aE (c := ((i + 1 : Nat) : Int)) (by omega) (by omega)) rfl ?_;refine Z9 ?_;refine eQ O ?_;clear O;exact ⟨i + 1, by omega, hg, Wk.mk' ⟨rfl, rfl, rfl, rfl, rfl, trivial⟩ ⟨rfl, rfl, trivial⟩⟩
 have hg : n = i := by simp at hg; omega
 subst hg
 rw [Nat.sub_self, List.replicate_zero, List.append_nil];refine aA ?_;show AWP _ _ _ _ _ _;refine ag ?_;refine gQ fun _ O=>?_;refine Z5 ?_;refine Z7 ?_;refine az rfl (a8 LK.dc rfl rfl) rfl ?_;refine Z9 ?_;refine eQ O ?_;clear O;refine aj (aI (α := Nat) (fun k => mk 75 [(1, V1 (dSs s)), (2, .ptr 2 0), (6, .val (.one (.own 18 8 0 n))), (32, V1 (dLs g.links)), (33, dI g.links.length), (34, dI k)] [(2, some (.box g.cs)), (18, some (.arr 8 (spI n (fun v => gd (dX g) (xs s) v (g.links.take k)) (fun v => gd (dY g) (ys s) v (g.links.take k)))))] []) (fun k => k <= g.links.length) (fun k => g.links.length - k) 0 ?_ (Nat.zero_le _) ?_)
 ·exact Wk.mk' ⟨rfl, rfl, rfl, rfl, rfl, rfl, trivial⟩ ⟨rfl, rfl, trivial⟩
 intro k hk
 refine gQ fun _ O=>?_;refine Z6 ?_;refine eQ O ?_;clear O;refine ag ?_;refine ap rfl (fun hg => ?_) (fun hg => ?_)
 ·have hg : k < g.links.length := by simp at hg; omega
  obtain ⟨X, hX0⟩ : ∃ X : Nat -> Rat, X = fun v => gd (dX g) (xs s) v (g.links.take k) := ⟨_, rfl⟩
  obtain ⟨Y, hY0⟩ : ∃ Y : Nat -> Rat, Y = fun v => gd (dY g) (ys s) v (g.links.take k) := ⟨_, rfl⟩
  rw [<- hX0, <- hY0]
  have bX : ∀ v, ql (X v) <= 2000000 := fun v => by rw [hX0]; exact Nat.le_trans (uN h ok os v k hk).1 (by omega)
  have bY : ∀ v, ql (Y v) <= 2000000 := fun v => by rw [hY0]; exact Nat.le_trans (uN h ok os v k hk).2 (by omega)
  obtain ⟨l, hl⟩ : ∃ l, l = g.links[k] := ⟨_, rfl⟩
  have hm : l ∈ g.links := hl ▸ List.getElem_mem hg
  have lv := gLV gv l hm
  have o := ki h hm ok os
  have cR := nN g s (k : Int) (fun r hr => (ok r hr).mono rfl) (fun p hp => (os p hp).mono rfl)
  have eR : gL g s (k : Int) = (rsG g s l, 0) := by
   rw [gL, if_pos hc, dif_pos ⟨by omega, by simpa using hg⟩];simp only [Int.toNat_natCast, <- hl]
  rw [eR] at cR
  have er1 := (tY (g := g) (s := s) (l := l)).1
  have er2 := (tY (g := g) (s := s) (l := l)).2
  have lw := lv.w
  rw [<- hn] at lv
  have iw2 : I64 (-l.w) := ⟨by omega, by omega⟩
  obtain ⟨i, j, hi, hj, e1, e2, hne⟩ := lv.lt
  have uX := Aw (d := dX g) (s := xs s) (ls := g.links.take k) (l := l) (f := i) (t := j) hX0 (by omega) (by omega) (by omega) er1
  have uY := Aw (d := dY g) (s := ys s) (ls := g.links.take k) (l := l) (f := i) (t := j) hY0 (by omega) (by omega) (by omega) er2
  rw [hl, <- List.take_succ_eq_append_getElem hg, <- hl] at uX uY;generalize rsG g s l = r at cR o uX uY
  have p1 := xD (szW (X j) (Y j)) r l.w lv.iw (eZ (aN (bX j) rfl) (aN (bY j) rfl)) (o.mono rfl)
  rw [dy, dx] at p1
  obtain ⟨X1, hX1⟩ : ∃ X1, X1 = iZ X j (X j + r.vx * ((l.w : Int) : Rat)) := ⟨_, rfl⟩
  obtain ⟨Y1, hY1⟩ : ∃ Y1, Y1 = iZ Y j (Y j + r.vy * ((l.w : Int) : Rat)) := ⟨_, rfl⟩
  have m1 := aC (o.qx rfl) (cb lv.iw)
  have m2 := aC (o.qy rfl) (cb lv.iw)
  have bX2 : ql (X1 i) <= 8388608 := hX1 ▸ iM (fun i => aN (bX i) rfl) (aN (bi (bX j) m1) rfl) i
  have bY2 : ql (Y1 i) <= 8388608 := hY1 ▸ iM (fun i => aN (bY i) rfl) (aN (bi (bY j) m2) rfl) i
  have p2 := xD (szW (X1 i) (Y1 i)) r (-l.w) iw2 (eZ bX2 bY2) (o.mono rfl)
  rw [dy, dx] at p2;rw [<- hX1] at uX;rw [<- hY1] at uY
  have hel : ∀ (X Y : Nat -> Rat), ∀ el ∈ spI n X Y, el.length = 8 := by
   intro X Y el h
   obtain ⟨_, _, rfl⟩ := List.mem_map.1 h; rfl
  refine ak ?_;show AWP _ _ _ _ _ _;refine ag ?_;refine aj ?_;refine gQ fun _ O=>?_;refine Z9 ?_;refine ab rfl (x_m LK.dc rfl rfl rfl rfl hg rfl) rfl ?_;refine Z7 ?_;refine ar rfl rfl rfl rfl rfl rfl ?_;refine Z8 ?_;refine ah rfl rfl rfl rfl rfl ?_;refine eQ O ?_;clear O;rw [<- hl];refine gQ fun _ O=>?_;refine Z7 ?_;refine Z9 ?_;refine Z9 ?_;refine ac rfl rfl (cR) rfl rfl rfl rfl ?_;refine Z9 ?_;refine am rfl rfl rfl ?_;refine am rfl rfl rfl ?_;refine ar rfl rfl rfl rfl rfl rfl ?_;refine ah rfl rfl rfl rfl rfl ?_;refine Z8 ?_;refine eQ O ?_;clear O;refine aH tok mixed (A := [[], [], [], [], [], [], [4], [3, 4, 5], [], [], [], [3, 4, 5, 6, 9], [], []]) (an := [{}, {}, {}, {}, {}, {}, {}, {}, {}, {}, {}, {}, {}, {}]) rfl (by kernel_rfl) rfl fun _ O=>?_;refine Z9 ?_;refine Z5 ?_;refine Z7 ?_;refine Z9 ?_;refine Z5 ?_;refine Z7 ?_;refine ab rfl (x_o (i := j) (j := j) rfl rfl rfl rfl e2 hj (Nat.zero_add _)) rfl ?_;refine aQ rfl (l_o rfl rfl (e7 hj) rfl rfl) rfl ?_;refine Z7 ?_;refine Z5 ?_;refine Z7 ?_;refine ac rfl rfl (p1) rfl rfl rfl rfl ?_;refine ab rfl (x_o (i := j) (j := j) rfl rfl rfl rfl e2 hj (Nat.zero_add _)) rfl ?_;refine ah rfl (xP (p := szW (X j + r.vx * ((l.w : Int) : Rat)) (Y j + r.vy * ((l.w : Int) : Rat))) rfl rfl rfl (by rw [dV]; exact hj) (hel _ _)) rfl rfl rfl ?_;refine eQ O ?_;clear O;rw [ol, <- hX1, <- hY1];refine bb tok mixed (A := [[], [], [], [], [], [], [4], [3, 4, 5], [], [], [], [9], [3, 4, 5, 6, 9, 10], [], []]) (an := [{}, {}, {}, {}, {}, {}, {}, {}, {}, {}, {}, {}, {}, {}, {}]) rfl (by kernel_rfl) rfl fun _ O=>?_;refine Z9 ?_;refine Z5 ?_;refine Z7 ?_;refine Z9 ?_;refine Z5 ?_;refine Z7 ?_;refine ab rfl (x_o (i := i) (j := i) rfl rfl rfl rfl e1 hi (Nat.zero_add _)) rfl ?_;refine aQ rfl (l_o rfl rfl (e7 hi) rfl rfl) rfl ?_;refine Z7 ?_;refine Z5 ?_;refine Z7 ?_;refine dz rfl (xd (by omega)) rfl ?_;refine ac rfl rfl (p2) rfl rfl rfl rfl ?_;refine ab rfl (x_o (i := i) (j := i) rfl rfl rfl rfl e1 hi (Nat.zero_add _)) rfl ?_;refine ah rfl (xP (p := szW (X1 i + r.vx * ((-l.w : Int) : Rat)) (Y1 i + r.vy * ((-l.w : Int) : Rat))) rfl rfl rfl (by rw [dV]; exact hi) (hel _ _)) rfl rfl rfl ?_;refine eQ O ?_;clear O;rw [ol];show AWP _ _ _ _ _ _;refine gR fun _ O=>?_;refine au rfl (aE (c := ((k + 1 : Nat) : Int)) (by omega) (by omega)) rfl ?_;refine Z9 ?_;refine eQ O ?_;clear O;refine ⟨k + 1, by omega, hg, Wk.mk' ⟨rfl, rfl, rfl, rfl, rfl, rfl, trivial⟩ ⟨rfl, ?_, trivial⟩⟩;rw [<- uX, <- uY]; rfl
 have hg : k = g.links.length := by simp at hg; omega
 subst hg
 rw [List.take_length];refine aA ?_;show AWP _ _ _ _ _ _;refine cQ [6] [18] 18 [(6, V1 (dSs ((List.range n).map fun v => szW (gd (dX g) (xs s) v g.links) (gd (dY g) (ys s) v g.links))))] [] rfl ?_ trivial ?_
 ·exact ⟨bz (by unfold spI; rw [List.map_map]; rfl) (by simp), trivial⟩
 refine gQ fun _ O=>?_;refine Z9 ?_;refine Z8 ?_;refine Z8 ?_;refine eQ O ?_;clear O;exact al aP
end Go.Proofs.YtfichkokppbipaaGreatDoor

/- adjust: Worst, New, Graph; the law's small functions. No condition. -/
namespace Go.Proofs.YtfichkokppbipaaGreatDoor
attribute [local irreducible] aM
open Go.RowKit

theorem AT {T : Tab} {t : TypeId} (a b : Nat) : ba T .neq t (dI a) (dI b) = .set (dB (decide (a ≠ b))) := by
 show bF (.bool (!((a : Int) == (b : Int)))) = _
 have : (!((a : Int) == (b : Int))) = decide (a ≠ b) := by
  rw [Bool.eq_iff_iff]; simp only [Bool.not_eq_true', beq_eq_false_iff_ne, ne_eq, decide_eq_true_eq]; omega
 rw [this]; rfl
theorem mH {T : Tab} {t : TypeId} (a b : Nat) : ba T .gtr t (dI a) (dI b) = .set (dB (decide (b < a))) := by
 show bF (.bool (decide ((a : Int) > (b : Int)))) = _
 have : (decide ((a : Int) > (b : Int))) = decide (b < a) := by
  rw [Bool.eq_iff_iff, decide_eq_true_eq, decide_eq_true_eq]; omega
 rw [this]; rfl
theorem E6 {T : Tab} {t : TypeId} (a b : Nat) : ba T .leq t (dI a) (dI b) = .set (dB (decide (a <= b))) := by
 show bF (.bool (decide ((a : Int) <= (b : Int)))) = _
 have : (decide ((a : Int) <= (b : Int))) = decide (a <= b) := by
  rw [Bool.eq_iff_iff, decide_eq_true_eq, decide_eq_true_eq]; omega
 rw [this]; rfl
theorem Df {T : Tab} {t : TypeId} {a b : Int} {c : Bool} (h : decide (a > b) = c) : ba T .gtr t (dI a) (dI b) = .set (dB c) := by subst h; rfl
theorem E5 {T : Tab} {t : TypeId} {a b : Int} {c : Bool} (h : decide (a < b) = c) : ba T .lss t (dI a) (dI b) = .set (dB c) := by subst h; rfl
theorem E4 {T : Tab} {t : TypeId} {a b : Int} {c : Bool} (h : (a != b) = c) : ba T .neq t (dI a) (dI b) = .set (dB c) := by subst h; rfl
/-! ### Small inputs -/
def w1 (r : RW) : Bool := decide (r.wp.length <= 1 /\ r.wq.length <= 1)
def vZ (g : GR) : Bool := decide ((g.nodes.length <= 5 \/ g.nodes.length = 17) /\ (g.links.length <= 9 \/ g.links.length = 49))
def rH (g : GR) : Bool := vZ g && g.nodes.all w1
def xT (l : List SP) : Bool := l.all (fun p => w1 p.x && w1 p.y) && decide (l.length <= 6)
theorem Cx (g : GR) : Con Tryz.prog 15 [AG g.cs] { v := dB (rH g) } := by
 refine Z3 Tryz.func15 ?_
 intro w0 X
 rw [aq _ _ [(0, AG g.cs)] rfl rfl];refine gQ fun _ O=>?_;refine aF rfl rfl rfl rfl rfl rfl ?_;refine Z8 ?_;refine eQ O ?_;clear O;refine ag ?_;refine aT (α := Bool) (fun c => mk 53 [(1, .ptr 1 0), (25, dB c)] [(1, some (.box g.cs))] []) (fun c => c = !vZ g) ?_ ?_
 ·refine bO fun _ O=>?_;refine aa tok rfl ?_;refine Z5 ?_;refine ae ?_;refine aa tok rfl ?_;refine Z7 ?_;refine ae ?_;refine aa tok rfl ?_;refine az rfl (a8 RW.dc rfl rfl) rfl ?_;refine ae ?_;refine aa tok rfl ?_;refine au rfl (mH _ 5) rfl ?_;refine ae ?_;refine aa tok rfl ?_;refine Z9 ?_;refine ae ?_;refine aV (fun h0 => ?_) (fun h0 => ?_)
  ·refine aa tok rfl ?_;refine Z5 ?_;refine ae ?_;refine aa tok rfl ?_;refine Z7 ?_;refine ae ?_;refine aa tok rfl ?_;refine az rfl (a8 RW.dc rfl rfl) rfl ?_;refine ae ?_;refine aa tok rfl ?_;refine au rfl (AT _ 17) rfl ?_;refine ae ?_;refine aa tok rfl ?_;refine Z4 ?_;refine ae ?_;refine aa tok rfl ?_;refine Z9 ?_;refine ae ?_;refine aV (fun h1 => ?_) (fun h1 => ?_)
   ·refine ai rfl rfl ?_;refine ai rfl rfl ?_;refine ai rfl rfl ?_;refine ai rfl rfl ?_;refine ai rfl rfl ?_;refine bu rfl rfl rfl ?_;refine bu rfl rfl rfl ?_;refine bu rfl rfl rfl ?_;refine bu rfl rfl rfl ?_;refine ai rfl rfl ?_;refine aa tok rfl ?_;refine Z4 ?_;refine ae ?_;refine aW rfl (O _ ?_); clear O;exact ⟨_, (by simp only [decide_eq_true_eq, decide_eq_false_iff_not] at h0 h1; unfold vZ; rw [Bool.eq_iff_iff]; simp only [decide_eq_true_eq, Bool.not_eq_true', decide_eq_false_iff_not, reduceCtorEq, false_iff, true_iff]; omega), Wk.mk' ⟨rfl, rfl, trivial⟩ ⟨rfl, trivial⟩⟩
   ·refine aa tok rfl ?_;refine Z5 ?_;refine ae ?_;refine aa tok rfl ?_;refine Z7 ?_;refine ae ?_;refine aa tok rfl ?_;refine az rfl (a8 LK.dc rfl rfl) rfl ?_;refine ae ?_;refine aa tok rfl ?_;refine au rfl (mH _ 9) rfl ?_;refine ae ?_;refine aa tok rfl ?_;refine Z9 ?_;refine ae ?_;refine aV (fun h2 => ?_) (fun h2 => ?_)
    ·refine aa tok rfl ?_;refine Z5 ?_;refine ae ?_;refine aa tok rfl ?_;refine Z7 ?_;refine ae ?_;refine aa tok rfl ?_;refine az rfl (a8 LK.dc rfl rfl) rfl ?_;refine ae ?_;refine aa tok rfl ?_;refine au rfl (AT _ 49) rfl ?_;refine ae ?_;refine aa tok rfl ?_;refine Z4 ?_;refine ae ?_;refine aa tok rfl ?_;refine Z4 ?_;refine ae ?_;refine aW rfl (O _ ?_); clear O;exact ⟨_, (by simp only [decide_eq_true_eq, decide_eq_false_iff_not] at h0 h1 h2; unfold vZ; rw [Bool.eq_iff_iff]; simp only [decide_eq_true_eq, Bool.not_eq_true', decide_eq_false_iff_not, reduceCtorEq, false_iff, true_iff]; omega), Wk.mk' ⟨rfl, rfl, trivial⟩ ⟨rfl, trivial⟩⟩
    ·refine ai rfl rfl ?_;refine ai rfl rfl ?_;refine ai rfl rfl ?_;refine ai rfl rfl ?_;refine aa tok rfl ?_;refine Z4 ?_;refine ae ?_;refine aa tok rfl ?_;refine Z4 ?_;refine ae ?_;refine aW rfl (O _ ?_); clear O;exact ⟨_, (by simp only [decide_eq_true_eq, decide_eq_false_iff_not] at h0 h1 h2; unfold vZ; rw [Bool.eq_iff_iff]; simp only [decide_eq_true_eq, Bool.not_eq_true', decide_eq_false_iff_not, reduceCtorEq, false_iff, true_iff]; omega), Wk.mk' ⟨rfl, rfl, trivial⟩ ⟨rfl, trivial⟩⟩
  ·refine ai rfl rfl ?_;refine ai rfl rfl ?_;refine ai rfl rfl ?_;refine ai rfl rfl ?_;refine aa tok rfl ?_;refine Z4 ?_;refine ae ?_;refine aa tok rfl ?_;refine Z9 ?_;refine ae ?_;refine aa tok rfl ?_;refine Z5 ?_;refine ae ?_;refine aa tok rfl ?_;refine Z7 ?_;refine ae ?_;refine aa tok rfl ?_;refine az rfl (a8 LK.dc rfl rfl) rfl ?_;refine ae ?_;refine aa tok rfl ?_;refine au rfl (mH _ 9) rfl ?_;refine ae ?_;refine aa tok rfl ?_;refine Z9 ?_;refine ae ?_;refine aV (fun h1 => ?_) (fun h1 => ?_)
   ·refine aa tok rfl ?_;refine Z5 ?_;refine ae ?_;refine aa tok rfl ?_;refine Z7 ?_;refine ae ?_;refine aa tok rfl ?_;refine az rfl (a8 LK.dc rfl rfl) rfl ?_;refine ae ?_;refine aa tok rfl ?_;refine au rfl (AT _ 49) rfl ?_;refine ae ?_;refine aa tok rfl ?_;refine Z4 ?_;refine ae ?_;refine aa tok rfl ?_;refine Z4 ?_;refine ae ?_;refine aW rfl (O _ ?_); clear O;exact ⟨_, (by simp only [decide_eq_true_eq, decide_eq_false_iff_not] at h0 h1; unfold vZ; rw [Bool.eq_iff_iff]; simp only [decide_eq_true_eq, Bool.not_eq_true', decide_eq_false_iff_not, reduceCtorEq, false_iff, true_iff]; omega), Wk.mk' ⟨rfl, rfl, trivial⟩ ⟨rfl, trivial⟩⟩
   ·refine ai rfl rfl ?_;refine ai rfl rfl ?_;refine ai rfl rfl ?_;refine ai rfl rfl ?_;refine aa tok rfl ?_;refine Z4 ?_;refine ae ?_;refine aa tok rfl ?_;refine Z4 ?_;refine ae ?_;refine aW rfl (O _ ?_); clear O;exact ⟨_, (by simp only [decide_eq_true_eq, decide_eq_false_iff_not] at h0 h1; unfold vZ; rw [Bool.eq_iff_iff]; simp only [decide_eq_true_eq, Bool.not_eq_true', decide_eq_false_iff_not, reduceCtorEq, false_iff, true_iff]; omega), Wk.mk' ⟨rfl, rfl, trivial⟩ ⟨rfl, trivial⟩⟩
 rintro c rfl
 refine ap rfl (fun hd => ?_) (fun hd => ?_)
 ·rw [Bool.not_eq_true'] at hd;rw [rH, hd];refine gQ fun _ O=>?_;refine Z8 ?_;refine eQ O ?_;clear O;exact al aP
 rw [Bool.not_eq_false'] at hd
 have h17 : g.nodes.length <= 17 := by have := (of_decide_eq_true hd).1; omega
 rw [rH, hd, Bool.true_and];refine ak ?_;show AWP _ _ _ _ _ _;refine ag ?_;refine gQ fun _ O=>?_;refine Z8 ?_;refine eQ O ?_;clear O;refine aj (aI (α := Nat) (fun i => mk 53 [(1, .ptr 1 0), (3, dI i)] [(1, some (.box g.cs))] []) (fun i => i <= g.nodes.length /\ (g.nodes.take i).all w1 = true) (fun i => g.nodes.length - i) 0 ?_ ⟨Nat.zero_le _, rfl⟩ ?_)
 ·exact Wk.mk' ⟨rfl, rfl, trivial⟩ ⟨rfl, trivial⟩
 rintro i ⟨hi, ht⟩
 refine ag ?_;refine gQ fun _ O=>?_;refine Z9 ?_;refine Z5 ?_;refine Z7 ?_;refine az rfl (a8 RW.dc rfl rfl) rfl ?_;refine Z6 ?_;refine eQ O ?_;clear O;refine ap rfl (fun hg => ?_) (fun hg => ?_)
 ·have hg : i < g.nodes.length := by simp at hg; omega
  obtain ⟨r, hr⟩ : ∃ r, r = g.nodes[i] := ⟨_, rfl⟩
  refine ak ?_;show AWP _ _ _ _ _ _;refine ag ?_;refine aj ?_;refine aT (α := Bool) (fun c => mk 53 [(1, .ptr 1 0), (3, dI i), (52, dB c)] [(1, some (.box g.cs))] []) (fun c => c = !w1 r) ?_ ?_
  ·refine bO fun _ O=>?_;refine aa tok rfl ?_;refine Z5 ?_;refine ae ?_;refine aa tok rfl ?_;refine Z7 ?_;refine ae ?_;refine aa tok rfl ?_;refine Z9 ?_;refine ae ?_;refine aa tok rfl ?_;refine ab rfl (x_m RW.dc rfl rfl rfl rfl hg rfl) rfl ?_;refine ae ?_;refine aa tok rfl ?_;refine Z5 ?_;refine ae ?_;refine aa tok rfl ?_;refine Z5 ?_;refine ae ?_;refine aa tok rfl ?_;refine Z7 ?_;refine ae ?_;refine aa tok rfl ?_;refine az rfl (aU (ws := g.nodes[i].wp) rfl rfl rfl) rfl ?_;refine ae ?_;refine aa tok rfl ?_;refine au rfl (mH _ 1) rfl ?_;refine ae ?_;refine aa tok rfl ?_;refine Z9 ?_;refine ae ?_;refine aV (fun h0 => ?_) (fun h0 => ?_)
   ·refine ai rfl rfl ?_;refine ai rfl rfl ?_;refine ai rfl rfl ?_;refine ai rfl rfl ?_;refine ai rfl rfl ?_;refine ai rfl rfl ?_;refine ai rfl rfl ?_;refine ai rfl rfl ?_;refine ai rfl rfl ?_;refine aa tok rfl ?_;refine Z4 ?_;refine ae ?_;refine aW rfl (O _ ?_); clear O;exact ⟨_, (by simp only [decide_eq_true_eq, decide_eq_false_iff_not] at h0; unfold w1; rw [hr, Bool.eq_iff_iff]; simp only [decide_eq_true_eq, Bool.not_eq_true', decide_eq_false_iff_not, reduceCtorEq, false_iff, true_iff]; omega), Wk.mk' ⟨rfl, rfl, rfl, trivial⟩ ⟨rfl, trivial⟩⟩
   ·refine aa tok rfl ?_;refine Z5 ?_;refine ae ?_;refine aa tok rfl ?_;refine Z7 ?_;refine ae ?_;refine aa tok rfl ?_;refine Z9 ?_;refine ae ?_;refine aa tok rfl ?_;refine ab rfl (x_m RW.dc rfl rfl rfl rfl hg rfl) rfl ?_;refine ae ?_;refine aa tok rfl ?_;refine Z5 ?_;refine ae ?_;refine aa tok rfl ?_;refine Z5 ?_;refine ae ?_;refine aa tok rfl ?_;refine Z7 ?_;refine ae ?_;refine aa tok rfl ?_;refine az rfl (aU (ws := g.nodes[i].wq) rfl rfl rfl) rfl ?_;refine ae ?_;refine aa tok rfl ?_;refine au rfl (mH _ 1) rfl ?_;refine ae ?_;refine aa tok rfl ?_;refine Z4 ?_;refine ae ?_;refine aW rfl (O _ ?_); clear O;exact ⟨_, (by simp only [decide_eq_true_eq, decide_eq_false_iff_not] at h0; unfold w1; rw [hr, Bool.eq_iff_iff]; simp only [decide_eq_true_eq, Bool.not_eq_true', decide_eq_false_iff_not, reduceCtorEq, false_iff, true_iff]; omega), Wk.mk' ⟨rfl, rfl, rfl, trivial⟩ ⟨rfl, trivial⟩⟩
  rintro c rfl
  refine ap rfl (fun hd => ?_) (fun hd => ?_)
  ·refine gQ fun _ O=>?_;refine Z8 ?_;refine eQ O ?_;clear O;exact al (bI (h3 := by exact eU (by rw [Bool.not_eq_true'] at hd; rw [List.all_eq_false]; exact ⟨r, hr ▸ List.getElem_mem hg, by rw [hd]; simp⟩)))
  ·refine ak ?_;show AWP _ _ _ _ _ _;refine gR fun _ O=>?_;refine Z9 ?_;refine au rfl (aE rfl (by omega)) rfl ?_;refine Z8 ?_;refine eQ O ?_;clear O;refine ⟨i + 1, by omega, ⟨hg, ?_⟩, Wk.mk' ⟨rfl, rfl, trivial⟩ ⟨rfl, trivial⟩⟩;rw [List.take_succ_eq_append_getElem hg, List.all_append, ht, <- hr];rw [Bool.not_eq_false'] at hd
   simp [hd]
 ·have hg : i = g.nodes.length := by simp at hg; omega
  subst hg
  rw [List.take_length] at ht;rw [ht];refine aA ?_;show AWP _ _ _ _ _ _;refine gQ fun _ O=>?_;refine Z8 ?_;refine eQ O ?_;clear O;exact al aP

theorem DB (l : List SP) (hl : l.length <= 9223372036854775807) : Con Tryz.prog 16 [V1 (dSs l)] { v := dB (xT l) } := by
 refine Z3 Tryz.func16 ?_
 intro w0 X
 rw [aq _ _ [(0, V1 (dSs l))] rfl rfl];refine gQ fun _ O=>?_;refine Z8 ?_;refine eQ O ?_;clear O;refine ag ?_;refine gQ fun _ O=>?_;refine Z8 ?_;refine eQ O ?_;clear O;refine aj (aI (α := Nat) (fun i => mk 55 [(0, V1 (dSs l)), (3, dI i)] [] []) (fun i => i <= l.length /\ (l.take i).all (fun p => w1 p.x && w1 p.y) = true) (fun i => l.length - i) 0 ?_ ⟨Nat.zero_le _, rfl⟩ ?_)
 ·exact Wk.mk' ⟨rfl, rfl, trivial⟩ trivial
 rintro i ⟨hi, ht⟩
 refine ag ?_;refine gQ fun _ O=>?_;refine Z9 ?_;refine Z9 ?_;refine az rfl (a8 SP.dc rfl rfl) rfl ?_;refine Z6 ?_;refine eQ O ?_;clear O;refine ap rfl (fun hg => ?_) (fun hg => ?_)
 ·have hg : i < l.length := by simp at hg; omega
  obtain ⟨r, hr⟩ : ∃ r, r = l[i] := ⟨_, rfl⟩
  refine ak ?_;show AWP _ _ _ _ _ _;refine ag ?_;refine aj ?_;refine aT (α := Bool) (fun c => mk 55 [(0, V1 (dSs l)), (3, dI i), (51, dB c)] [] []) (fun c => c = !(w1 r.x && w1 r.y)) ?_ ?_
  ·refine bO fun _ O=>?_;refine aa tok rfl ?_;refine Z9 ?_;refine ae ?_;refine aa tok rfl ?_;refine Z9 ?_;refine ae ?_;refine aa tok rfl ?_;refine ab rfl (x_m SP.dc rfl rfl rfl rfl hg rfl) rfl ?_;refine ae ?_;refine aa tok rfl ?_;refine Z5 ?_;refine ae ?_;refine aa tok rfl ?_;refine Z5 ?_;refine ae ?_;refine aa tok rfl ?_;refine Z5 ?_;refine ae ?_;refine aa tok rfl ?_;refine Z7 ?_;refine ae ?_;refine aa tok rfl ?_;refine az rfl (aU (ws := l[i].x.wp) rfl rfl rfl) rfl ?_;refine ae ?_;refine aa tok rfl ?_;refine au rfl (mH _ 1) rfl ?_;refine ae ?_;refine aa tok rfl ?_;refine Z9 ?_;refine ae ?_;refine aV (fun h0 => ?_) (fun h0 => ?_)
   ·refine ai rfl rfl ?_;refine ai rfl rfl ?_;refine ai rfl rfl ?_;refine ai rfl rfl ?_;refine ai rfl rfl ?_;refine ai rfl rfl ?_;refine ai rfl rfl ?_;refine ai rfl rfl ?_;refine ai rfl rfl ?_;refine aa tok rfl ?_;refine Z4 ?_;refine ae ?_;refine aa tok rfl ?_;refine Z9 ?_;refine ae ?_;refine ai rfl rfl ?_;refine ai rfl rfl ?_;refine ai rfl rfl ?_;refine ai rfl rfl ?_;refine ai rfl rfl ?_;refine ai rfl rfl ?_;refine ai rfl rfl ?_;refine ai rfl rfl ?_;refine ai rfl rfl ?_;refine aa tok rfl ?_;refine Z4 ?_;refine ae ?_;refine aa tok rfl ?_;refine Z9 ?_;refine ae ?_;refine ai rfl rfl ?_;refine ai rfl rfl ?_;refine ai rfl rfl ?_;refine ai rfl rfl ?_;refine ai rfl rfl ?_;refine ai rfl rfl ?_;refine ai rfl rfl ?_;refine ai rfl rfl ?_;refine ai rfl rfl ?_;refine aa tok rfl ?_;refine Z4 ?_;refine ae ?_;refine aW rfl (O _ ?_); clear O;exact ⟨_, (by simp only [decide_eq_true_eq, decide_eq_false_iff_not] at h0; unfold w1; rw [hr, Bool.eq_iff_iff]; simp only [decide_eq_true_eq, Bool.not_eq_true', Bool.and_eq_false_iff, decide_eq_false_iff_not, reduceCtorEq, false_iff, true_iff]; omega), Wk.mk' ⟨rfl, rfl, rfl, trivial⟩ trivial⟩
   ·refine aa tok rfl ?_;refine Z9 ?_;refine ae ?_;refine aa tok rfl ?_;refine Z9 ?_;refine ae ?_;refine aa tok rfl ?_;refine ab rfl (x_m SP.dc rfl rfl rfl rfl hg rfl) rfl ?_;refine ae ?_;refine aa tok rfl ?_;refine Z5 ?_;refine ae ?_;refine aa tok rfl ?_;refine Z5 ?_;refine ae ?_;refine aa tok rfl ?_;refine Z5 ?_;refine ae ?_;refine aa tok rfl ?_;refine Z7 ?_;refine ae ?_;refine aa tok rfl ?_;refine az rfl (aU (ws := l[i].x.wq) rfl rfl rfl) rfl ?_;refine ae ?_;refine aa tok rfl ?_;refine au rfl (mH _ 1) rfl ?_;refine ae ?_;refine aa tok rfl ?_;refine Z4 ?_;refine ae ?_;refine aa tok rfl ?_;refine Z9 ?_;refine ae ?_;refine aV (fun h1 => ?_) (fun h1 => ?_)
    ·refine ai rfl rfl ?_;refine ai rfl rfl ?_;refine ai rfl rfl ?_;refine ai rfl rfl ?_;refine ai rfl rfl ?_;refine ai rfl rfl ?_;refine ai rfl rfl ?_;refine ai rfl rfl ?_;refine ai rfl rfl ?_;refine aa tok rfl ?_;refine Z4 ?_;refine ae ?_;refine aa tok rfl ?_;refine Z9 ?_;refine ae ?_;refine ai rfl rfl ?_;refine ai rfl rfl ?_;refine ai rfl rfl ?_;refine ai rfl rfl ?_;refine ai rfl rfl ?_;refine ai rfl rfl ?_;refine ai rfl rfl ?_;refine ai rfl rfl ?_;refine ai rfl rfl ?_;refine aa tok rfl ?_;refine Z4 ?_;refine ae ?_;refine aW rfl (O _ ?_); clear O;exact ⟨_, (by simp only [decide_eq_true_eq, decide_eq_false_iff_not] at h0 h1; unfold w1; rw [hr, Bool.eq_iff_iff]; simp only [decide_eq_true_eq, Bool.not_eq_true', Bool.and_eq_false_iff, decide_eq_false_iff_not, reduceCtorEq, false_iff, true_iff]; omega), Wk.mk' ⟨rfl, rfl, rfl, trivial⟩ trivial⟩
    ·refine aa tok rfl ?_;refine Z9 ?_;refine ae ?_;refine aa tok rfl ?_;refine Z9 ?_;refine ae ?_;refine aa tok rfl ?_;refine ab rfl (x_m SP.dc rfl rfl rfl rfl hg rfl) rfl ?_;refine ae ?_;refine aa tok rfl ?_;refine Z5 ?_;refine ae ?_;refine aa tok rfl ?_;refine Z5 ?_;refine ae ?_;refine aa tok rfl ?_;refine Z5 ?_;refine ae ?_;refine aa tok rfl ?_;refine Z7 ?_;refine ae ?_;refine aa tok rfl ?_;refine az rfl (aU (ws := l[i].y.wp) rfl rfl rfl) rfl ?_;refine ae ?_;refine aa tok rfl ?_;refine au rfl (mH _ 1) rfl ?_;refine ae ?_;refine aa tok rfl ?_;refine Z4 ?_;refine ae ?_;refine aa tok rfl ?_;refine Z9 ?_;refine ae ?_;refine aV (fun h2 => ?_) (fun h2 => ?_)
     ·refine ai rfl rfl ?_;refine ai rfl rfl ?_;refine ai rfl rfl ?_;refine ai rfl rfl ?_;refine ai rfl rfl ?_;refine ai rfl rfl ?_;refine ai rfl rfl ?_;refine ai rfl rfl ?_;refine ai rfl rfl ?_;refine aa tok rfl ?_;refine Z4 ?_;refine ae ?_;refine aW rfl (O _ ?_); clear O;exact ⟨_, (by simp only [decide_eq_true_eq, decide_eq_false_iff_not] at h0 h1 h2; unfold w1; rw [hr, Bool.eq_iff_iff]; simp only [decide_eq_true_eq, Bool.not_eq_true', Bool.and_eq_false_iff, decide_eq_false_iff_not, reduceCtorEq, false_iff, true_iff]; omega), Wk.mk' ⟨rfl, rfl, rfl, trivial⟩ trivial⟩
     ·refine aa tok rfl ?_;refine Z9 ?_;refine ae ?_;refine aa tok rfl ?_;refine Z9 ?_;refine ae ?_;refine aa tok rfl ?_;refine ab rfl (x_m SP.dc rfl rfl rfl rfl hg rfl) rfl ?_;refine ae ?_;refine aa tok rfl ?_;refine Z5 ?_;refine ae ?_;refine aa tok rfl ?_;refine Z5 ?_;refine ae ?_;refine aa tok rfl ?_;refine Z5 ?_;refine ae ?_;refine aa tok rfl ?_;refine Z7 ?_;refine ae ?_;refine aa tok rfl ?_;refine az rfl (aU (ws := l[i].y.wq) rfl rfl rfl) rfl ?_;refine ae ?_;refine aa tok rfl ?_;refine au rfl (mH _ 1) rfl ?_;refine ae ?_;refine aa tok rfl ?_;refine Z4 ?_;refine ae ?_;refine aW rfl (O _ ?_); clear O;exact ⟨_, (by simp only [decide_eq_true_eq, decide_eq_false_iff_not] at h0 h1 h2; unfold w1; rw [hr, Bool.eq_iff_iff]; simp only [decide_eq_true_eq, Bool.not_eq_true', Bool.and_eq_false_iff, decide_eq_false_iff_not, reduceCtorEq, false_iff, true_iff]; omega), Wk.mk' ⟨rfl, rfl, rfl, trivial⟩ trivial⟩
  rintro c rfl
  refine ap rfl (fun hd => ?_) (fun hd => ?_)
  ·refine gQ fun _ O=>?_;refine Z8 ?_;refine eQ O ?_;clear O;exact al (bI (h3 := by exact eU (by rw [Bool.not_eq_true'] at hd; unfold xT; rw [Bool.and_eq_false_iff]; left; rw [List.all_eq_false]; exact ⟨r, hr ▸ List.getElem_mem hg, by rw [hd]; simp⟩)))
  ·refine ak ?_;show AWP _ _ _ _ _ _;refine gR fun _ O=>?_;refine Z9 ?_;refine au rfl (aE (c := ((i + 1 : Nat) : Int)) (by omega) (by omega)) rfl ?_;refine Z8 ?_;refine eQ O ?_;clear O;refine ⟨i + 1, by omega, ⟨hg, ?_⟩, Wk.mk' ⟨rfl, rfl, trivial⟩ trivial⟩;rw [List.take_succ_eq_append_getElem hg, List.all_append, ht, <- hr];rw [Bool.not_eq_false'] at hd
   simp [hd]
 ·have hg : i = l.length := by simp at hg; omega
  subst hg
  rw [List.take_length] at ht;rw [xT, ht, Bool.true_and];refine aA ?_;show AWP _ _ _ _ _ _;refine gQ fun _ O=>?_;refine Z9 ?_;refine az rfl (a8 SP.dc rfl rfl) rfl ?_;refine au rfl (E6 _ 6) rfl ?_;refine Z8 ?_;refine eQ O ?_;clear O;exact al aP
theorem AF {g : GR} (hg : ∀ r ∈ g.nodes, r.W) (h : rH g = true) : (∀ r ∈ g.nodes, r.OK 1) /\ (bQ g = true -> SM g) /\ g.links.length <= 49 := by
 rw [rH, Bool.and_eq_true] at h
 obtain ⟨h1, h2⟩ := h
 have h1 := of_decide_eq_true h1
 have ok : ∀ r ∈ g.nodes, r.OK 1 := fun r hr => by
  have := of_decide_eq_true (List.all_eq_true.1 h2 r hr)
  exact ⟨(hg r hr).1, (hg r hr).2, this.1, this.2⟩
 refine ⟨ok, fun hv => ?_, by omega⟩
 have gv := bJ.1 hv
 have := gv.n2
 have := gv.l
 exact ⟨by omega, by omega, fun r hr => (ok r hr).mono rfl⟩
theorem BE {s : List SP} (hs : ∀ p ∈ s, p.W) (h : xT s = true) : (∀ p ∈ s, p.OK 1) /\ s.length <= 6 := by
 rw [xT, Bool.and_eq_true] at h
 obtain ⟨h1, h2⟩ := h
 refine ⟨fun p hp => ?_, of_decide_eq_true h2⟩
 have := List.all_eq_true.1 h1 p hp
 rw [Bool.and_eq_true] at this
 have a := of_decide_eq_true this.1
 have b := of_decide_eq_true this.2
 exact ⟨⟨(hs p hp).1.1, (hs p hp).1.2, a.1, a.2⟩, ⟨(hs p hp).2.1, (hs p hp).2.2, b.1, b.2⟩⟩

/-! ### New and Graph -/
def Fp : Tab := { tab with dat := fun t => Nat.beq t 22 }

theorem EE : TOK Tryz.prog Fp := ⟨tok.ty, tok.clo, tok.eqs⟩

theorem Ev (r : RW) (ok : r.OK 268435456) : Con Tryz.prog 69 [AG r.cs] { v := .pd [dRs [pz2 r.cn], .sl []] } := by
 have cN := wK r ok
 generalize pz2 r.cn = q at cN ⊢;refine wm (fn := Tryz.f69) Tryz.func69 (by kernel_rfl) rfl ?_
 intro w0 X
 rw [aq _ _ [(0, AG r.cs)] rfl rfl];refine aK EE fun _ O=>?_;refine aF rfl rfl rfl rfl rfl rfl ?_;refine Z8 ?_;refine eQ O ?_;clear O;refine aK EE fun _ O=>?_;refine Z7 ?_;refine ac rfl rfl (cN) rfl rfl rfl rfl ?_;refine gE rfl rfl rfl rfl ?_;refine aL rfl rfl rfl ?_;refine aL rfl rfl rfl ?_;refine aF rfl rfl rfl rfl rfl rfl ?_;refine Z8 ?_;refine eQ O ?_;clear O;refine al ?_;exact ⟨2, 8, [.d (dRs [q]), .nil], rfl, by rw [g6]; rfl, rfl, rfl⟩
end Go.Proofs.YtfichkokppbipaaGreatDoor

/- adjust: Worst, Graph; awake. No condition. -/
namespace Go.Proofs.YtfichkokppbipaaGreatDoor
attribute [local irreducible] aM
open Go.RowKit

theorem xW (ls : List LK) (hn : ls.length <= 1048576) : Con Tryz.prog 136 [V1 (dLs ls)] { v := V1 (dLs ls) } := by
 refine Z3 Tryz.func136 ?_
 intro w0 X
 rw [aq _ _ [(0, V1 (dLs ls))] rfl rfl];refine gQ fun _ O=>?_;refine Z8 ?_;refine eQ O ?_;clear O;refine ag ?_;refine r6 (es := ls.map LK.dc) tok rfl rfl rfl rfl rfl rfl rfl rfl rfl rfl fun b hb => ?_;rw [i7, i7];refine ap rfl (fun hc => ?_) (fun hc => ?_)
 ·have : ls = [] := by have := hb hc; simpa using this
  subst this
  refine gQ fun _ O=>?_;refine Z8 ?_;refine eQ O ?_;clear O;exact al aP
 ·refine ak ?_;show AWP _ _ _ _ _ _;refine gQ fun _ O=>?_;refine aw rfl rfl rfl rfl ?_;refine Z9 ?_;refine aO rfl (eI (es := []) rfl rfl rfl rfl rfl rfl (by decide) (Nat.le_of_ble_eq_true rfl) rfl (fun e he => by obtain ⟨x, _, rfl⟩ := List.mem_map.1 he; rfl) rfl rfl rfl (by simp; omega)) rfl rfl rfl ?_;refine Z8 ?_;refine eQ O ?_;clear O;refine cQ [2] [7] 7 [(2, V1 (dLs ls))] [] rfl ?_ trivial ?_
  ·exact ⟨bz (List.nil_append _) (by simp), trivial⟩
  exact al aP
set_option maxHeartbeats 1000000 in
theorem Be (ns : List RW) (ls : List LK) (ok : ∀ r ∈ ns, r.OK 268435456) (hn : ns.length <= 1048576) (hl : ls.length <= 1048576) : Con Tryz.prog 71 [.pd [dRs ns, dLs ls]] { v := AG (GR.mk (ns.map fun r => pz2 r.cn) ls).cs } := by
 have cC := xW ls hl
 refine Z3 Tryz.func71 ?_
 intro w0 X
 rw [aq _ _ [(0, .pd [dRs ns, dLs ls])] rfl rfl];refine gQ fun _ O=>?_;refine ar rfl rfl rfl rfl rfl rfl ?_;refine eQ O ?_;clear O;refine ag ?_;refine cv fun _ O=>?_;refine aa tok rfl ?_;refine Z9 ?_;refine ae ?_;refine EC (e := 159) rfl rfl rfl (by kernel_rfl) ?_;refine aW rfl (O _ ?_); clear O;refine ap rfl (fun h => by cases h) (fun _ => ?_);refine ak ?_;show AWP _ _ _ _ _ _;refine cv fun _ O=>?_;refine aa tok rfl ?_;refine Z9 ?_;refine ae ?_;refine CU rfl rfl rfl ?_;refine aa tok rfl ?_;refine Z5 ?_;refine ae ?_;refine aa tok rfl ?_;refine Z5 ?_;refine ae ?_;refine aa tok rfl ?_;refine Z7 ?_;refine ae ?_;refine aa tok rfl ?_;refine ac rfl rfl (cC) rfl rfl rfl rfl ?_;refine ae ?_;refine aa tok rfl ?_;refine aL rfl rfl rfl ?_;refine ae ?_;refine aa tok rfl ?_;refine ar rfl rfl rfl rfl rfl rfl ?_;refine ae ?_;refine aa tok rfl ?_;refine ah rfl rfl rfl rfl rfl ?_;refine ae ?_;refine aW rfl (O _ ?_); clear O;refine ag ?_;refine cv fun _ O=>?_;refine aa tok rfl ?_;refine Z9 ?_;refine ae ?_;refine CU rfl rfl rfl ?_;refine aa tok rfl ?_;refine Z5 ?_;refine ae ?_;refine aa tok rfl ?_;refine Z5 ?_;refine ae ?_;refine aa tok rfl ?_;refine Z7 ?_;refine ae ?_;refine aa tok rfl ?_;refine az rfl (a8 RW.dc rfl rfl) rfl ?_;refine ae ?_;refine aa tok rfl ?_;refine Z9 ?_;refine ae ?_;refine aW rfl (O _ ?_); clear O;refine aj (aI (α := Nat) (fun i => mk 35 [(2, .ptr 2 0), (3, .ptr 3 0), (20, V1 (dRs ns)), (21, dI ns.length), (22, dI i)] [(2, some (.box [.nil, .nil])), (3, some (.box [EU 200 4 i, .d (dLs ls)])), (200, bB 4 (((ns.take i).map fun r => pz2 r.cn).map RW.dc) i)] [3]) (fun i => i <= ns.length) (fun i => ns.length - i) 0 ?_ (Nat.zero_le _) ?_)
 ·exact Wk.trans (Wk.rbE rfl) (Wk.mk' ⟨rfl, rfl, rfl, rfl, rfl, trivial⟩ ⟨rfl, rfl, rfl, trivial⟩)
 intro i hi
 refine gQ fun _ O=>?_;refine Z6 ?_;refine eQ O ?_;clear O;refine ag ?_;refine ap rfl (fun hg => ?_) (fun hg => ?_)
 ·have hg : i < ns.length := by simp at hg; omega
  have cN := wK ns[i] (ok _ (List.getElem_mem hg))
  have n1 : ((ns.take i).map fun r => pz2 r.cn).map RW.dc ++ [(pz2 (ns[i]).cn).dc] = ((ns.take (i + 1)).map fun r => pz2 r.cn).map RW.dc := by
   rw [List.take_succ_eq_append_getElem hg, List.map_append, List.map_append]; rfl
  have z1 : (((ns.take i).map fun r => pz2 r.cn).map RW.dc).length = i := by simp; omega
  generalize pz2 (ns[i]).cn = q at cN n1;generalize ((ns.take i).map fun r => pz2 r.cn).map RW.dc = es at n1 z1 ⊢;refine ak ?_;show AWP _ _ _ _ _ _;refine ag ?_;refine aj ?_
  rcases i with _ | i
  ·refine gQ fun _ O=>?_;refine ab rfl (x_m RW.dc rfl rfl rfl rfl hg rfl) rfl ?_;refine Z7 ?_;refine ar rfl rfl rfl rfl rfl rfl ?_;refine ah rfl rfl rfl rfl rfl ?_;refine eQ O ?_;clear O;refine bb tok mixed (A := [[], [], [], [], [2], [0, 2], [], []]) (an := [{}, {}, {}, {}, {}, {}, {}, {}]) rfl (by kernel_rfl) rfl fun _ O=>?_;refine Z5 ?_;refine Z7 ?_;refine Z7 ?_;refine ac rfl rfl (cN) rfl rfl rfl rfl ?_;refine aw rfl rfl rfl rfl ?_;refine aO rfl (da rfl rfl rfl rfl rfl (by decide) (Nat.le_of_ble_eq_true rfl) rfl (by simp) rfl (by simp) (by simp)) rfl rfl rfl ?_;refine Z5 ?_;refine jk rfl rfl rfl rfl rfl ?_;refine eQ O ?_;clear O;show AWP _ _ _ _ _ _;refine gR fun _ O=>?_;refine au rfl (aE (c := ((0 + 1 : Nat) : Int)) (by omega) (by omega)) rfl ?_;refine Z9 ?_;refine eQ O ?_;clear O;refine ⟨0 + 1, by omega, hg, Wk.rnB [2, 3, 20, 21, 22] [2, 3, 31] 31 200 rfl rfl rfl ⟨rfl, rfl, rfl, rfl, rfl, trivial⟩ ⟨rfl, ?_, ?_, trivial⟩ rfl⟩
   ·first
     | rfl
     | (show some (OO.box [.own 200 4 0 _, _]) = _
        rw [List.length_append, z1]; rfl)
   ·first
     | (rw [<- n1, List.length_eq_zero_iff.1 z1]; rfl)
     | (rw [<- n1]; rfl)
  ·refine gQ fun _ O=>?_;refine ab rfl (x_m RW.dc rfl rfl rfl rfl hg rfl) rfl ?_;refine Z7 ?_;refine ar rfl rfl rfl rfl rfl rfl ?_;refine ah rfl rfl rfl rfl rfl ?_;refine eQ O ?_;clear O;refine bb tok mixed (A := [[], [], [], [], [2], [0, 2], [], []]) (an := [{}, {}, {}, {}, {}, {}, {}, {}]) rfl (by kernel_rfl) rfl fun _ O=>?_;refine Z5 ?_;refine Z7 ?_;refine Z7 ?_;refine ac rfl rfl (cN) rfl rfl rfl rfl ?_;refine aw rfl rfl rfl rfl ?_;refine aO rfl (eI rfl rfl rfl rfl rfl rfl (by decide) (Nat.le_of_ble_eq_true rfl) rfl (by simp) rfl rfl z1.symm (by simp <;> omega)) rfl rfl rfl ?_;refine Z5 ?_;refine jk rfl rfl rfl rfl rfl ?_;refine eQ O ?_;clear O;show AWP _ _ _ _ _ _;refine gR fun _ O=>?_;refine au rfl (aE (c := ((i + 1 + 1 : Nat) : Int)) (by omega) (by omega)) rfl ?_;refine Z9 ?_;refine eQ O ?_;clear O;refine ⟨i + 1 + 1, by omega, hg, Wk.rnB [2, 3, 20, 21, 22] [2, 3, 31] 31 200 rfl rfl rfl ⟨rfl, rfl, rfl, rfl, rfl, trivial⟩ ⟨rfl, ?_, ?_, trivial⟩ rfl⟩
   ·first
     | rfl
     | (show some (OO.box [.own 200 4 0 _, _]) = _
        rw [List.length_append, z1]; rfl)
   ·first
     | (rw [<- n1, List.length_eq_zero_iff.1 z1]; rfl)
     | (rw [<- n1]; rfl)
 have hg : i = ns.length := by simp at hg; omega
 subst hg
 rw [List.take_length]
 have zL : (ns.map fun r => pz2 r.cn).length = ns.length := List.length_map _
 rw [<- zL];generalize (ns.map fun r => pz2 r.cn) = LL;refine aA ?_;show AWP _ _ _ _ _ _
 rcases LL with _ | ⟨l, LL⟩
 ·refine gQ fun _ O=>?_;refine Z7 ?_;refine ah rfl rfl rfl rfl rfl ?_;refine eQ O ?_;clear O;exact al aP
 ·refine cQ [2, 3] [2, 3, 200] 200 [(2, .ptr 2 0), (3, .ptr 3 0)] [(2, some (.box [.nil, .nil])), (3, some (.box (GR.mk (l :: LL) ls).cs))] rfl ⟨rfl, rfl, trivial⟩ ⟨rfl, ?_, trivial⟩ ?_
  ·show some (OO.box [jS 200 4 _ (.own 200 4 0 _), _]) = _
   rw [uQ rfl (by simp)]; rfl
  refine gQ fun _ O=>?_;refine Z7 ?_;refine ah rfl rfl rfl rfl rfl ?_;refine eQ O ?_;clear O;exact al aP

/-! ### Worst -/
def wrN (q : Nat -> Rat) : Nat -> Nat
 | 0 => 0
 | k + 1 => if q (wrN q k) < q k then k else wrN q k
theorem r8 (q : Nat -> Rat) : ∀ {k n : Nat}, k <= n -> 0 < n -> wrN q k < n
 | 0, _, _, h => h
 | k + 1, n, h, hn => by
  rw [wrN]; split
  ·omega
  ·exact r8 q (by omega) hn
def csN (g : GR) (s : List SP) (i : Nat) : Rat := csT g s (g.links.getD i ⟨0, 0, 0, 0, 0⟩)
def wrsV (g : GR) (s : List SP) : Int × RW × Int :=
 if dq g s = true then (if g.links.length = 0 then (0, eh, 7) else ((wrN (csN g s) g.links.length : Nat), qzW (csN g s (wrN (csN g s) g.links.length)), 0)) else (0, eh, 1)
theorem zJ (x y : Rat) : sJ x y <= 0 ↔ x <= y := by
 have z : ∀ x y : Int, lz x y <= 0 ↔ x <= y := fun x y => by unfold lz; (repeat' split) <;> omega
 unfold sJ
 rw [z, Rat.le_iff]
theorem zK (x y : Rat) : decide (sJ x y > 0) = decide (y < x) := by
 rw [Bool.eq_iff_iff, decide_eq_true_eq, decide_eq_true_eq]
 have := zJ x y
 constructor
 ·intro h
  exact Rat.not_le.1 fun h' => by have := this.2 h'; omega
 ·intro h
  have h' := Rat.not_le.2 h
  have : ¬ sJ x y <= 0 := fun h2 => h' (this.1 h2)
  omega
def qt (q : Nat -> Rat) (i : Nat) : Int := if i = 0 then -1 else (wrN q i : Nat)
def zcs : List SC := [.d (.lit (.bool false)), .nil, .d (.lit (.bool false)), .nil]
def iQ (q : Nat -> Rat) (i : Nat) : List SC := if i = 0 then zcs else (qzW (q (wrN q i))).cs
set_option maxHeartbeats 1000000 in
theorem AA (g : GR) (s : List SP) (ok : ∀ r ∈ g.nodes, r.OK 4096) (os : ∀ p ∈ s, p.OK 4096) : Con Tryz.prog 23 [AG g.cs, V1 (dSs s)] { v := .tup [.one (.d (lI (wrsV g s).1)), .agg (wrsV g s).2.1.cs, .one (.d (lI (wrsV g s).2.2))] } := by
 have cR := vf g s
 refine Z3 Tryz.func23 ?_
 intro w0 X
 rw [aq _ _ [(0, AG g.cs), (1, V1 (dSs s))] rfl rfl];refine gQ fun _ O=>?_;refine aF rfl rfl rfl rfl rfl rfl ?_;refine Z8 ?_;refine ar rfl rfl rfl rfl rfl rfl ?_;refine Z8 ?_;refine eQ O ?_;clear O;refine ag ?_;refine aj ?_;refine gQ fun _ O=>?_;refine Z7 ?_;refine Z9 ?_;refine ac rfl rfl (cR) rfl rfl rfl rfl ?_;refine dz rfl rfl rfl ?_;refine Z8 ?_;refine eQ O ?_;clear O;refine ap rfl (fun hc => ?_) (fun hc => ?_)
 ·rw [Bool.not_eq_true'] at hc
  have e : wrsV g s = (0, eh, 1) := by rw [wrsV, if_neg (by rw [hc]; simp)]
  rw [e];refine gQ fun _ O=>?_;refine aL rfl rfl rfl ?_;refine Z8 ?_;refine ah rfl rfl rfl rfl rfl ?_;refine Z8 ?_;refine eQ O ?_;clear O;exact al aP
 rw [Bool.not_eq_false'] at hc
 have h := cK.1 hc
 have gv := h.gv
 have l48 := gv.l
 rw [wrsV, if_pos hc];refine gQ fun _ O=>?_;refine Z5 ?_;refine Z7 ?_;refine az rfl (a8 LK.dc rfl rfl) rfl ?_;refine au rfl (AU _ 0) rfl ?_;refine Z8 ?_;refine eQ O ?_;clear O;refine ap rfl (fun hd => ?_) (fun hd => ?_)
 ·rw [if_pos (of_decide_eq_true hd)];refine gQ fun _ O=>?_;refine aL rfl rfl rfl ?_;refine Z8 ?_;refine ah rfl rfl rfl rfl rfl ?_;refine Z8 ?_;refine eQ O ?_;clear O;exact al aP
 have hd := of_decide_eq_false hd
 rw [if_neg hd];refine ak ?_;show AWP _ _ _ _ _ _;refine gQ fun _ O=>?_;refine aL rfl rfl rfl ?_;refine ar rfl rfl rfl rfl rfl rfl ?_;refine Z8 ?_;refine ah rfl rfl rfl rfl rfl ?_;refine eQ O ?_;clear O;refine ag ?_;refine gQ fun _ O=>?_;refine Z5 ?_;refine Z7 ?_;refine az rfl (a8 LK.dc rfl rfl) rfl ?_;refine Z9 ?_;refine eQ O ?_;clear O;refine aj (aI (α := Nat) (fun i => mk 71 [(1, V1 (dSs s)), (2, .ptr 2 0), (5, .ptr 5 0), (7, dI (qt (csN g s) i)), (8, .ptr 8 0), (28, V1 (dLs g.links)), (29, dI g.links.length), (30, dI i)] [(2, some (.box g.cs)), (5, some (.box zcs)), (8, some (.box (iQ (csN g s) i)))] []) (fun i => i <= g.links.length) (fun i => g.links.length - i) 0 ?_ (Nat.zero_le _) ?_)
 ·have b0 : qt (csN g s) 0 = -1 := if_pos rfl
  have b1 : iQ (csN g s) 0 = zcs := if_pos rfl
  simp only [b0, b1];exact Wk.mk' ⟨rfl, rfl, rfl, rfl, rfl, rfl, rfl, rfl, trivial⟩ ⟨rfl, rfl, rfl, trivial⟩
 intro i hi
 refine gQ fun _ O=>?_;refine Z6 ?_;refine eQ O ?_;clear O;refine ag ?_;refine ap rfl (fun hg => ?_) (fun hg => ?_)
 ·have hg : i < g.links.length := by simp at hg; omega
  obtain ⟨l, hl⟩ : ∃ l, l = g.links[i] := ⟨_, rfl⟩
  have hm : l ∈ g.links := hl ▸ List.getElem_mem hg
  have lv := gLV gv l hm
  have o := ki h hm ok os
  have cR := nN g s (i : Int) (fun r hr => (ok r hr).mono rfl) (fun p hp => (os p hp).mono rfl)
  have eR : gL g s (i : Int) = (rsG g s l, 0) := by
   rw [gL, if_pos hc, dif_pos ⟨by omega, by simpa using hg⟩];simp only [Int.toNat_natCast, <- hl]
  rw [eR] at cR
  have eq1 : csN g s i = ((rsG g s l).vx * (rsG g s l).vx + (rsG g s l).vy * (rsG g s l).vy) * ((l.w : Int) : Rat) := by
   unfold csN; rw [List.getD_eq_getElem?_getD, List.getElem?_eq_getElem hg, <- hl]; rfl
  have hql : ∀ k, k < g.links.length -> ql (csN g s k) <= 98400 := fun k hk => by
   unfold csN; rw [List.getD_eq_getElem?_getD, List.getElem?_eq_getElem hk]
   exact nu h (List.getElem_mem hk) ok os
  have hwr := r8 (csN g s) hi (by omega)
  have qi := hql i hg
  have qw := hql _ hwr
  have ws : wrN (csN g s) (i + 1) = if csN g s (wrN (csN g s) i) < csN g s i then i else wrN (csN g s) i := rfl
  generalize rsG g s l = r at cR o eq1
  have x1 := o.qx rfl
  have x2 := o.qy rfl
  have m1 := aC x1 x1
  have m2 := aC x2 x2
  have m3 := bi m1 m2
  have c1 := ko r.x r.x (r.vx * r.vx) (o.x.mono rfl) (o.x.mono rfl) rfl
  have c2 := ko r.y r.y (r.vy * r.vy) (o.y.mono rfl) (o.y.mono rfl) rfl
  have c3 := vK (qzW (r.vx * r.vx)) (qzW (r.vy * r.vy)) (r.vx * r.vx + r.vy * r.vy) ((aD m1).mono rfl) ((aD m2).mono rfl) (by rw [aR, aR])
  have c4 := iE l.w lv.iw
  have c5 := ko (qzW (r.vx * r.vx + r.vy * r.vy)) (qzW ((l.w : Int) : Rat)) (csN g s i) ((aD m3).mono rfl) ((aD (cb lv.iw)).mono rfl) (by rw [aR, aR, eq1])
  have c6 := zO (qzW (csN g s i)) (qzW (csN g s (wrN (csN g s) i))) ((aD qi).mono rfl) ((aD qw).mono rfl)
  rw [aR, aR] at c6
  have hgt := zK (csN g s i) (csN g s (wrN (csN g s) i))
  have b1 : ∀ k, qt (csN g s) (k + 1) = (wrN (csN g s) (k + 1) : Nat) := fun k => if_neg (by omega)
  have b2 : ∀ k, iQ (csN g s) (k + 1) = (qzW (csN g s (wrN (csN g s) (k + 1)))).cs := fun k => if_neg (by omega)
  refine ak ?_;show AWP _ _ _ _ _ _;refine ag ?_;refine aj ?_;refine gQ fun _ O=>?_;refine Z9 ?_;refine ab rfl (x_m LK.dc rfl rfl rfl rfl hg rfl) rfl ?_;refine Z7 ?_;refine ar rfl rfl rfl rfl rfl rfl ?_;refine Z8 ?_;refine ah rfl rfl rfl rfl rfl ?_;refine eQ O ?_;clear O;rw [<- hl];refine gQ fun _ O=>?_;refine Z7 ?_;refine Z9 ?_;refine Z9 ?_;refine ac rfl rfl (cR) rfl rfl rfl rfl ?_;refine Z9 ?_;refine am rfl rfl rfl ?_;refine am rfl rfl rfl ?_;refine ar rfl rfl rfl rfl rfl rfl ?_;refine ah rfl rfl rfl rfl rfl ?_;refine Z8 ?_;refine eQ O ?_;clear O;refine aH tok mixed (A := [[], [], [], [], [0, 2], [], [], [], [], [0, 1, 2, 3, 5, 7], [0, 1, 2, 3, 5, 6, 7, 8], [], []]) (an := [{}, {}, {}, {}, {}, { c := [46] }, { c := [46] }, { c := [46] }, { c := [46] }, {}, {}, { c := [46, 51, 52] }, {}]) rfl (by kernel_rfl) rfl fun _ O=>?_;refine Z5 ?_;refine Z7 ?_;refine Z5 ?_;refine Z7 ?_;refine ac rfl rfl (c1) rfl rfl rfl rfl ?_;refine Z5 ?_;refine Z7 ?_;refine Z5 ?_;refine Z7 ?_;refine ac rfl rfl (c2) rfl rfl rfl rfl ?_;refine ac rfl rfl (c3) rfl rfl rfl rfl ?_;refine ar rfl rfl rfl rfl rfl rfl ?_;refine ah rfl rfl rfl rfl rfl ?_;refine eQ O ?_;clear O;refine aH tok mixed (A := [[], [], [], [1], [1, 2], []]) (an := [{}, {}, {}, {}, {}, {}]) rfl (by kernel_rfl) rfl fun _ O=>?_;refine Z7 ?_;refine Z5 ?_;refine Z7 ?_;refine ac rfl rfl (c4) rfl rfl rfl rfl ?_;refine ac rfl rfl (c5) rfl rfl rfl rfl ?_;refine ah rfl rfl rfl rfl rfl ?_;refine eQ O ?_;clear O
  rcases i with _ | i
  ·have w1 : wrN (csN g s) (0 + 1) = 0 := by rw [ws]; split <;> rfl
   have b0 : qt (csN g s) 0 = -1 := if_pos rfl
   have b3 : iQ (csN g s) 0 = zcs := if_pos rfl
   rw [b0, b3];refine gQ fun _ O=>?_;refine Z9 ?_;refine Z6 ?_;refine Z9 ?_;refine aB rfl ?_;refine aB rfl ?_;refine aB rfl ?_;refine aB rfl ?_;refine Z4 ?_;refine eQ O ?_;clear O;refine ap rfl (fun _ => ?_) (fun h => by cases h);refine bb tok mixed (A := [[], [], [], []]) (an := [{}, {}, {}, {}]) rfl (by kernel_rfl) rfl fun _ O=>?_;refine Z9 ?_;refine Z7 ?_;refine Z8 ?_;refine ah rfl rfl rfl rfl rfl ?_;refine eQ O ?_;clear O;show AWP _ _ _ _ _ _;refine gR fun _ O=>?_;refine au rfl (aE (c := ((0 + 1 : Nat) : Int)) (by omega) (by omega)) rfl ?_;refine Z9 ?_;refine eQ O ?_;clear O;refine ⟨0 + 1, by omega, hg, ?_⟩
   have a1 : qt (csN g s) (0 + 1) = ((0 : Nat) : Int) := by rw [qt, if_neg (by omega), w1]
   have a2 : iQ (csN g s) (0 + 1) = (qzW (csN g s 0)).cs := by rw [iQ, if_neg (by omega), w1]
   rw [a1, a2];exact Wk.mk' ⟨rfl, rfl, rfl, rfl, rfl, rfl, rfl, rfl, trivial⟩ ⟨rfl, rfl, rfl, trivial⟩
  ·rw [b1, b2];generalize hw0 : wrN (csN g s) (i + 1) = w0' at *;generalize sJ (csN g s (i + 1)) (csN g s w0') = kk at c6 hgt;refine gQ fun _ O=>?_;refine Z9 ?_;refine au rfl (E5 (c := false) (decide_eq_false (by omega))) rfl ?_;refine Z9 ?_;refine Z7 ?_;refine Z7 ?_;refine ac rfl rfl (c6) rfl rfl rfl rfl ?_;refine au rfl (Df hgt) rfl ?_;refine Z4 ?_;refine eQ O ?_;clear O;refine ap rfl (fun he => ?_) (fun he => ?_)
   ·rw [if_pos (of_decide_eq_true he)] at ws;refine bb tok mixed (A := [[], [], [], []]) (an := [{}, {}, {}, {}]) rfl (by kernel_rfl) rfl fun _ O=>?_;refine Z9 ?_;refine Z7 ?_;refine Z8 ?_;refine ah rfl rfl rfl rfl rfl ?_;refine eQ O ?_;clear O;show AWP _ _ _ _ _ _;refine gR fun _ O=>?_;refine au rfl (aE (c := ((i + 1 + 1 : Nat) : Int)) (by omega) (by omega)) rfl ?_;refine Z9 ?_;refine eQ O ?_;clear O;refine ⟨i + 1 + 1, by omega, hg, ?_⟩;rw [b1, b2, ws];exact Wk.mk' ⟨rfl, rfl, rfl, rfl, rfl, rfl, rfl, rfl, trivial⟩ ⟨rfl, rfl, rfl, trivial⟩
   ·rw [if_neg (of_decide_eq_false he)] at ws;refine ak ?_;show AWP _ _ _ _ _ _;refine gR fun _ O=>?_;refine au rfl (aE (c := ((i + 1 + 1 : Nat) : Int)) (by omega) (by omega)) rfl ?_;refine Z9 ?_;refine eQ O ?_;clear O;refine ⟨i + 1 + 1, by omega, hg, ?_⟩;rw [b1, b2, ws];exact Wk.mk' ⟨rfl, rfl, rfl, rfl, rfl, rfl, rfl, rfl, trivial⟩ ⟨rfl, rfl, rfl, trivial⟩
 have hg : i = g.links.length := by simp at hg; omega
 subst hg
 have a1 : qt (csN g s) g.links.length = (wrN (csN g s) g.links.length : Nat) := if_neg hd
 have a2 : iQ (csN g s) g.links.length = (qzW (csN g s (wrN (csN g s) g.links.length))).cs := if_neg hd
 rw [a1, a2];refine aA ?_;show AWP _ _ _ _ _ _;refine aH tok mixed (A := [[], [], [], [], []]) (an := [{}, {}, {}, {}, {}]) rfl (by kernel_rfl) rfl fun _ O=>?_;refine Z9 ?_;refine Z7 ?_;refine Z8 ?_;refine ah rfl rfl rfl rfl rfl ?_;refine Z8 ?_;refine eQ O ?_;clear O;exact al aP
end Go.Proofs.YtfichkokppbipaaGreatDoor

/- law31: awake; alike; Least. No condition. -/
namespace Go.Proofs.YtfichkokppbipaaGreatDoor
attribute [local irreducible] aM
open Go.RowKit

theorem v7 {T : Tab} {t : TypeId} (a : ByteArray) : ba T .eql t (V1 (.lit (.string a))) (V1 (.lit (.string a))) = .set (dB true) := by
 show Eff.set (dB (a.toList == a.toList)) = _
 rw [beq_self_eq_true]
def gW : GR := ⟨[eh, eh], [⟨0, 1, 10, 0, 1⟩, ⟨0, 1, 13, 0, 2⟩]⟩
def sW : List SP := [szW 0 0, szW 12 0]
theorem tW1 : minV gW = (sW, 0) := by decide +kernel
theorem tW2 : lstV gW = (qzW 6, 0) := by decide +kernel
theorem tW3 : wrsV gW sW = (0, qzW 4, 0) := by decide +kernel
theorem xp : ∀ r ∈ gW.nodes, r.OK 2 := by
 intro r hr
 have : r = eh := by
  simp only [gW, List.mem_cons, List.not_mem_nil, or_false, or_self] at hr; exact hr
 rw [this];exact ⟨fun x hx => (List.not_mem_nil hx).elim, fun x hx => (List.not_mem_nil hx).elim, Nat.zero_le _, Nat.zero_le _⟩
theorem Dc : bQ gW = true -> SM gW := fun _ => ⟨by decide, by decide, xp⟩
theorem EO : ∀ p ∈ sW, p.OK 4096 := by
 intro p hp
 simp only [sW, List.mem_cons, List.not_mem_nil, or_false] at hp
 rcases hp with rfl | rfl
 ·exact eZ (by decide +kernel) (by decide +kernel)
 ·exact eZ (by decide +kernel) (by decide +kernel)
set_option maxHeartbeats 1000000 in
theorem rY : Con Tryz.prog 14 [] { v := dB true } := by
 have cM := vX gW (fun r hr => (xp r hr).mono rfl) Dc
 have cL := AB gW (fun r hr => (xp r hr).mono rfl) Dc
 have cW := AA gW sW (fun r hr => (xp r hr).mono rfl) EO
 rw [tW1] at cM;rw [tW2] at cL;rw [tW3] at cW
 have cN := Ev eh ⟨fun x hx => (List.not_mem_nil hx).elim, fun x hx => (List.not_mem_nil hx).elim, Nat.zero_le _, Nat.zero_le _⟩
 have o1 : (pz2 eh.cn).OK 268435456 := DY (by decide +kernel)
 generalize pz2 eh.cn = q at cN o1
 have cG := Be [q] [] (fun r hr => by rw [List.mem_singleton.1 hr]; exact o1) (by simp) (by simp)
 have t1 := sK (qzW 12) (aD (by decide +kernel)) (by rw [aR]; decide +kernel) (by rw [aR]; decide +kernel)
 have t2 := sK (qzW 6) (aD (by decide +kernel)) (by rw [aR]; decide +kernel) (by rw [aR]; decide +kernel)
 have t3 := sK (qzW 4) (aD (by decide +kernel)) (by rw [aR]; decide +kernel) (by rw [aR]; decide +kernel)
 rw [aR, show qtx (12 : Rat) = [49, 50] by decide +kernel] at t1;rw [aR, show qtx (6 : Rat) = [54] by decide +kernel] at t2;rw [aR, show qtx (4 : Rat) = [52] by decide +kernel] at t3
 have eS : sW = [⟨qzW 0, qzW 0⟩, ⟨qzW 12, qzW 0⟩] := rfl
 rw [eS] at cM cW;generalize qzW (12 : Rat) = A at *;generalize qzW (6 : Rat) = B at *;generalize qzW (4 : Rat) = C at *;generalize qzW (0 : Rat) = Z at *;refine Z3 Tryz.func14 ?_
 intro w0 X
 rw [aq _ _ [] rfl rfl];refine gQ fun _ O=>?_;refine Z8 ?_;refine eQ O ?_;clear O;refine gQ fun _ O=>?_;refine br (sz := _) (es := _) (f := _) (v := _) rfl (sV (l := 2) rfl rfl rfl rfl rfl (Nat.le_of_ble_eq_true rfl) (by decide) rfl rfl (by omega)) rfl rfl ?_;refine aL rfl rfl rfl ?_;refine aL rfl rfl rfl ?_;refine aw rfl rfl rfl rfl ?_;refine aL rfl rfl rfl ?_;refine ar rfl rfl rfl rfl rfl rfl ?_;refine jk rfl rfl rfl rfl rfl ?_;refine eQ O ?_;clear O;refine cQ [1] [1, 10, 13] 10 [(1, .ptr 1 0)] [(1, some (.box [.d (dRs [eh, eh]), .own 13 5 0 2])), (13, some (.arr 5 [(LK.mk 0 1 10 0 1).dc, (LK.mk 0 1 13 0 2).dc]))] rfl ⟨rfl, trivial⟩ ⟨rfl, rfl, trivial⟩ ?_;refine cQ [1] [1, 13] 13 [(1, .ptr 1 0)] [(1, some (.box gW.cs))] rfl ⟨rfl, trivial⟩ ⟨rfl, trivial⟩ ?_;refine gQ fun _ O=>?_;refine Z7 ?_;refine ac rfl rfl (cM) rfl rfl rfl rfl ?_;refine Z9 ?_;refine am rfl rfl rfl ?_;refine am rfl rfl rfl ?_;refine Z8 ?_;refine Z8 ?_;refine eQ O ?_;clear O;refine gQ fun _ O=>?_;refine Z7 ?_;refine ac rfl rfl (cL) rfl rfl rfl rfl ?_;refine Z9 ?_;refine am rfl rfl rfl ?_;refine am rfl rfl rfl ?_;refine ar rfl rfl rfl rfl rfl rfl ?_;refine ah rfl rfl rfl rfl rfl ?_;refine Z8 ?_;refine eQ O ?_;clear O;refine ag ?_;refine gQ fun _ O=>?_;refine Z9 ?_;refine Z6 ?_;refine Z9 ?_;refine Z9 ?_;refine Z6 ?_;refine Z4 ?_;refine Z9 ?_;refine Z9 ?_;refine az rfl (a8 SP.dc rfl rfl) rfl ?_;refine au rfl (E4 (c := false) rfl) rfl ?_;refine Z4 ?_;refine eQ O ?_;clear O;refine ap rfl (fun h => by cases h) (fun _ => ?_);refine ak ?_;show AWP _ _ _ _ _ _;refine gQ fun _ O=>?_;refine Z7 ?_;refine Z9 ?_;refine ac rfl rfl (cW) rfl rfl rfl rfl ?_;refine Z9 ?_;refine am rfl rfl rfl ?_;refine am rfl rfl rfl ?_;refine am rfl rfl rfl ?_;refine ar rfl rfl rfl rfl rfl rfl ?_;refine Z8 ?_;refine ah rfl rfl rfl rfl rfl ?_;refine Z8 ?_;refine eQ O ?_;clear O;refine gQ fun _ O=>?_;refine aL rfl rfl rfl ?_;refine ac rfl rfl (cN) rfl rfl rfl rfl ?_;refine Z8 ?_;refine eQ O ?_;clear O;refine cv fun _ O=>?_;refine aa tok rfl ?_;refine Z9 ?_;refine ae ?_;refine aa tok rfl ?_;refine ab rfl (x_m SP.dc (i := 1) rfl rfl rfl rfl (by simp) rfl) rfl ?_;refine ae ?_;refine aa tok rfl ?_;refine Z5 ?_;refine ae ?_;refine aa tok rfl ?_;refine Z7 ?_;refine ae ?_;refine aa tok rfl ?_;refine ac rfl rfl (t1) rfl rfl rfl rfl ?_;refine ae ?_;refine aa tok rfl ?_;refine au rfl (v7 _) rfl ?_;refine ae ?_;refine aa tok rfl ?_;refine Z9 ?_;refine ae ?_;refine aa tok rfl ?_;refine Z7 ?_;refine ae ?_;refine aa tok rfl ?_;refine ac rfl rfl (t2) rfl rfl rfl rfl ?_;refine ae ?_;refine aa tok rfl ?_;refine au rfl (v7 _) rfl ?_;refine ae ?_;refine aa tok rfl ?_;refine Z4 ?_;refine ae ?_;refine aa tok rfl ?_;refine Z9 ?_;refine ae ?_;refine aa tok rfl ?_;refine Z9 ?_;refine ae ?_;refine aa tok rfl ?_;refine Z6 ?_;refine ae ?_;refine aa tok rfl ?_;refine Z4 ?_;refine ae ?_;refine aa tok rfl ?_;refine Z9 ?_;refine ae ?_;refine aa tok rfl ?_;refine Z7 ?_;refine ae ?_;refine aa tok rfl ?_;refine ac rfl rfl (t3) rfl rfl rfl rfl ?_;refine ae ?_;refine aa tok rfl ?_;refine au rfl (v7 _) rfl ?_;refine ae ?_;refine aa tok rfl ?_;refine Z4 ?_;refine ae ?_;refine aa tok rfl ?_;refine Z9 ?_;refine ae ?_;refine aa tok rfl ?_;refine Z9 ?_;refine ae ?_;refine aa tok rfl ?_;refine Z6 ?_;refine ae ?_;refine aa tok rfl ?_;refine Z4 ?_;refine ae ?_;refine aa tok rfl ?_;refine Z9 ?_;refine ae ?_;refine aa tok rfl ?_;refine Z9 ?_;refine ae ?_;refine EB (e := 159) rfl rfl rfl (by kernel_rfl) ?_;refine aa tok rfl ?_;refine Z4 ?_;refine ae ?_;refine aa tok rfl ?_;refine Z9 ?_;refine ae ?_;refine aa tok rfl ?_;refine Z9 ?_;refine ae ?_;refine aa tok rfl ?_;refine ac rfl rfl (cG) rfl rfl rfl rfl ?_;refine ae ?_;refine aa tok rfl ?_;refine ot rfl rfl rfl ?_;refine ae ?_;refine aa tok rfl ?_;refine az rfl (a8 RW.dc rfl rfl) rfl ?_;refine ae ?_;refine aa tok rfl ?_;refine au rfl (rN rfl) rfl ?_;refine ae ?_;refine aa tok rfl ?_;refine Z4 ?_;refine ae ?_;refine aa tok rfl ?_;refine Z8 ?_;refine ae ?_;refine aW rfl (O _ ?_); clear O;exact al aP

/-! ### alike -/
/-! ### Least -/
end Go.Proofs.YtfichkokppbipaaGreatDoor

/- law31: Gradient. No condition. -/
namespace Go.Proofs.YtfichkokppbipaaGreatDoor
attribute [local irreducible] aM
open Go.RowKit

end Go.Proofs.YtfichkokppbipaaGreatDoor

/- law31: Order, Merges. No condition. -/
namespace Go.Proofs.YtfichkokppbipaaGreatDoor
attribute [local irreducible] aM
open Go.RowKit

section
variable {T : Tab} {t e : TypeId} {ti ei : TI}
end
end Go.Proofs.YtfichkokppbipaaGreatDoor

/- law31: Merges. No condition. -/
namespace Go.Proofs.YtfichkokppbipaaGreatDoor
attribute [local irreducible] aM
open Go.RowKit

end Go.Proofs.YtfichkokppbipaaGreatDoor

/- solve: dot, Times, Form. law31: Form. No condition. -/
namespace Go.Proofs.YtfichkokppbipaaGreatDoor
attribute [local irreducible] aM
open Go.RowKit

/-! ### dot -/
/-! ### Times and Form -/
end Go.Proofs.YtfichkokppbipaaGreatDoor

/- law31: Form. No condition. -/
namespace Go.Proofs.YtfichkokppbipaaGreatDoor
attribute [local irreducible] aM
open Go.RowKit

section
variable {g : GR} (gv : GV g)
include gv
end
end Go.Proofs.YtfichkokppbipaaGreatDoor

/- Quarter turns: what turns exactly. No condition. -/
namespace Go.Proofs.YtfichkokppbipaaGreatDoor
attribute [local irreducible] aM
open Go.RowKit

/-! ### Plainly -/
theorem m4 (t : Nat) : t % 4 = 0 \/ t % 4 = 1 \/ t % 4 = 2 \/ t % 4 = 3 := by omega
/-! ### Walks -/
end Go.Proofs.YtfichkokppbipaaGreatDoor

/- law31: Truth. No condition. -/
namespace Go.Proofs.YtfichkokppbipaaGreatDoor
attribute [local irreducible] aM
open Go.RowKit

/-! ### Plainly -/
section
variable {P : Nat -> PT} {ts : List Nat} {n : Nat} {pr : List PT}
variable (h1 : 1 <= n) (h5 : n <= 5) (hn : n <= ts.length) (hp : pr.length <= 5) (hP : ∀ i, (-1000 <= (P i).x /\ (P i).x <= 1000) /\ (-1000 <= (P i).y /\ (P i).y <= 1000))
include h1 h5 hn hp hP
end
end Go.Proofs.YtfichkokppbipaaGreatDoor

/- law31: Truth, the walk. No condition. -/
namespace Go.Proofs.YtfichkokppbipaaGreatDoor
attribute [local irreducible] aM
open Go.RowKit

end Go.Proofs.YtfichkokppbipaaGreatDoor

/- ref02's quotient; ref27: Valid, Order, none, Identity. No condition. -/
namespace Go.Proofs.YtfichkokppbipaaGreatDoor
attribute [local irreducible] aM

theorem wh (x y : Rat) (hy : y ≠ 0) : Rat.divInt (x.num * y.den) (x.den * y.num) = x / y := by
 have h1 : (x.den : Int) ≠ 0 := by have := x.den_nz; omega
 have h2 : y.num ≠ 0 := fun e => hy (Rat.num_eq_zero.1 e)
 have e : y⁻¹ = Rat.divInt y.den y.num := by
  have := Rat.inv_divInt y.num y.den
  rw [Rat.num_divInt_den] at this;exact this
 rw [Rat.div_def, e]
 have e1 := Rat.num_divInt_den x
 generalize hn : x.num = n at *;generalize hd : x.den = d at *;rw [<- e1];exact (Rat.divInt_mul_divInt n y.den).symm

theorem wX (a b : RW) (z : Rat) (ha : a.OK 16777215) (hb : b.OK 16777215) (h0 : b.v ≠ 0) (h : a.v / b.v = z) :
  Con Tryz.prog 92 [AG a.cs, AG b.cs] { v := .tup [.agg (qzW z).cs, .one (.d (lI 0))] } := by
 have c1 := mg a (ha.mono rfl)
 have c2 := mg b (hb.mono rfl)
 have h1 := ha.ql rfl
 have h2 := hb.ql rfl
 have hz := wh a.v b.v h0
 rw [h] at hz
 have hs : ¬ b.v.num.sign = 0 := fun e => h0 (jJ.1 e)
 generalize a.v = x at *;generalize b.v = y at *
 have c3 := mX y (aN h2 rfl)
 have a1 := cD x
 have a2 := cJ x
 have b1 := cD y
 have b2 := cJ y
 have m1 := b9 x.num y.den
 have m2 := b9 x.den y.num
 have c4 := dK x.num y.den (by omega) (by omega)
 have c5 := dK x.den y.num (by omega) (by omega)
 have c6 := jm (x.num * y.den) (x.den * y.num) z (by omega) (by omega) hz
 refine Z3 Tryz.func92 ?_
 intro w0 X
 rw [aq _ _ [(0, AG a.cs), (1, AG b.cs)] rfl rfl];refine gQ fun _ O=>?_;refine aF rfl rfl rfl rfl rfl rfl ?_;refine aF rfl rfl rfl rfl rfl rfl ?_;refine ar rfl rfl rfl rfl rfl rfl ?_;refine Z8 ?_;refine eQ O ?_;clear O;refine gQ fun _ O=>?_;refine Z7 ?_;refine ac rfl rfl (c1) rfl rfl rfl rfl ?_;refine ar rfl rfl rfl rfl rfl rfl ?_;refine ah rfl rfl rfl rfl rfl ?_;refine eQ O ?_;clear O;refine gQ fun _ O=>?_;refine Z7 ?_;refine ac rfl rfl (c2) rfl rfl rfl rfl ?_;refine ar rfl rfl rfl rfl rfl rfl ?_;refine ah rfl rfl rfl rfl rfl ?_;refine eQ O ?_;clear O;refine ag ?_;refine gQ fun _ O=>?_;refine Z7 ?_;refine ac rfl rfl (c3) rfl rfl rfl rfl ?_;refine Z6 ?_;refine eQ O ?_;clear O;refine ap rfl (fun hc => ?_) (fun hc => ?_)
 ·exact absurd (by simpa using hc) hs
 refine ak ?_;show AWP _ _ _ _ _ _;refine aH tok mixed (A := [[], [], [], [], [0, 2], [], [], [], [], [0, 1, 2, 3, 5, 7], [0, 1, 2, 3, 5, 6, 7, 8], [], []]) (an := [{}, {}, {}, {}, {}, { c := [20] }, { c := [20] }, { c := [20] }, { c := [20] }, {}, {}, {}, {}]) rfl (by kernel_rfl) rfl fun _ O=>?_;refine Z5 ?_;refine Z7 ?_;refine Z5 ?_;refine Z7 ?_;refine ac rfl rfl (c4) rfl rfl rfl rfl ?_;refine Z5 ?_;refine Z7 ?_;refine Z5 ?_;refine Z7 ?_;refine ac rfl rfl (c5) rfl rfl rfl rfl ?_;refine ac rfl rfl (c6) rfl rfl rfl rfl ?_;refine ah rfl rfl rfl rfl rfl ?_;refine Z8 ?_;refine eQ O ?_;clear O;exact al aP

theorem uk (a b : RW) (ha : a.OK 1048576) (hb : b.OK 1048576) : Con Tryz.prog 84 [AG a.cs, AG b.cs] { v := dI (a.v - b.v).num.sign } := by
 have c1 := ig a b _ (ha.mono rfl) (hb.mono rfl) rfl
 have h1 := gr (ha.ql rfl) (hb.ql rfl)
 have c2 := mX (a.v - b.v) (aN h1 rfl)
 refine Z3 Tryz.func84 ?_
 intro w0 X
 rw [aq _ _ [(0, AG a.cs), (1, AG b.cs)] rfl rfl];refine gQ fun _ O=>?_;refine aF rfl rfl rfl rfl rfl rfl ?_;refine aF rfl rfl rfl rfl rfl rfl ?_;refine Z8 ?_;refine eQ O ?_;clear O;refine gQ fun _ O=>?_;refine Z7 ?_;refine Z7 ?_;refine ac rfl rfl (c1) rfl rfl rfl rfl ?_;refine ac rfl rfl (c2) rfl rfl rfl rfl ?_;refine Z8 ?_;refine eQ O ?_;clear O;exact al aP

theorem uT (m : List (List RW)) (hl : m.length <= 9223372036854775806) (hr : ∀ r ∈ m, r.length <= 9223372036854775806) (ok : okM 65536 m) : Con Tryz.prog 36 [V1 (dMs m)] { v := dB (dN m) } := by
 refine Z3 Tryz.func36 ?_
 intro w0 X
 rw [aq _ _ [(0, V1 (dMs m))] rfl rfl];refine gQ fun _ O=>?_;refine Z8 ?_;refine eQ O ?_;clear O;refine ag ?_;refine gQ fun _ O=>?_;refine Z9 ?_;refine az rfl (a8 cM rfl rfl) rfl ?_;refine Z6 ?_;refine eQ O ?_;clear O;refine ap rfl (fun hc => ?_) (fun hc => ?_)
 ·have e : dN m = false := decide_eq_false fun h => by have := h.1; simp at hc; omega
  rw [e];refine gQ fun _ O=>?_;refine Z8 ?_;refine eQ O ?_;clear O;exact al aP
 have h16 : m.length <= 16 := by simp at hc; omega
 refine ak ?_;show AWP _ _ _ _ _ _;refine ag ?_;refine gQ fun _ O=>?_;refine Z8 ?_;refine eQ O ?_;clear O;refine aj (aI (α := Nat) (fun i => mk 50 [(0, V1 (dMs m)), (3, dI i)] [] []) (fun i => i <= m.length /\ ∀ k (h : k < m.length), k < i -> m[k].length = m.length) (fun i => m.length - i) 0 ?_ ⟨Nat.zero_le _, fun _ _ h => by omega⟩ ?_)
 ·exact Wk.mk' ⟨rfl, rfl, trivial⟩ trivial
 rintro i ⟨hi, hI⟩
 refine ag ?_;refine gQ fun _ O=>?_;refine Z9 ?_;refine Z9 ?_;refine az rfl (a8 cM rfl rfl) rfl ?_;refine Z6 ?_;refine eQ O ?_;clear O;refine ap rfl (fun hg => ?_) (fun hg => ?_)
 ·have hg : i < m.length := by simp at hg; omega
  refine ak ?_;show AWP _ _ _ _ _ _;refine ag ?_;refine aj ?_;refine gQ fun _ O=>?_;refine Z9 ?_;refine Z9 ?_;refine ab rfl (x_m cM rfl rfl rfl rfl hg rfl) rfl ?_;refine Z7 ?_;refine az rfl (a8 RW.dc rfl rfl) rfl ?_;refine Z9 ?_;refine az rfl (a8 cM rfl rfl) rfl ?_;refine Z6 ?_;refine eQ O ?_;clear O;refine ap rfl (fun hd => ?_) (fun hd => ?_)
  ·have e : dN m = false := decide_eq_false fun h => by
    have := h.2.1 _ (List.getElem_mem hg)
    rw [this] at hd
    simp at hd
   rw [e];refine gQ fun _ O=>?_;refine Z8 ?_;refine eQ O ?_;clear O;exact al aP
  ·have hd : m[i].length = m.length := by simp at hd; omega
   refine ak ?_;show AWP _ _ _ _ _ _;refine gR fun _ O=>?_;refine Z9 ?_;refine au rfl (aE (c := ((i + 1 : Nat) : Int)) (by omega) (by omega)) rfl ?_;refine Z8 ?_;refine eQ O ?_;clear O;refine ⟨i + 1, by omega, ⟨hg, fun k h hk => ?_⟩, Wk.mk' ⟨rfl, rfl, trivial⟩ trivial⟩
   by_cases e : k = i
   ·subst e; exact hd
   ·exact hI k h (by omega)
 have hall : ∀ r ∈ m, r.length = m.length := fun r hr' => by
  obtain ⟨k, hk, e⟩ := List.getElem_of_mem hr'
  rw [<- e]; exact hI k hk (by simp at hg; omega)
 clear hI hg;refine aA ?_;show AWP _ _ _ _ _ _
 obtain ⟨n, hn⟩ : ∃ n, m.length = n := ⟨_, rfl⟩
 obtain ⟨F, hF⟩ : ∃ F, m = bS n n F := ⟨_, oK hn (hn ▸ hall)⟩
 rw [hn] at h16;clear hall hr hl
 subst hF
 have oF := fun i j (hi : i < n) (hj : j < n) => oH ok hi hj
 have hv : dN (bS n n F) = decide (n <= 16 /\ ∀ i, i < n -> ∀ j, j < i -> (F i j).v = (F j i).v) := decide_eq_decide.2 xF
 rw [hv];clear hv hn ok;refine ag ?_;refine gQ fun _ O=>?_;refine Z8 ?_;refine eQ O ?_;clear O;refine aj (aI (α := Nat) (fun i => mk 50 [(0, V1 (dMs (bS n n F))), (4, dI i)] [] []) (fun i => i <= n /\ ∀ k, k < i -> ∀ j, j < k -> (F k j).v = (F j k).v) (fun i => n - i) 0 ?_ ⟨Nat.zero_le _, fun _ h => by omega⟩ ?_)
 ·exact Wk.mk' ⟨rfl, rfl, trivial⟩ trivial
 rintro i ⟨hi, hI⟩
 refine ag ?_;refine gQ fun _ O=>?_;refine Z9 ?_;refine Z9 ?_;refine az rfl (vQ rfl rfl) rfl ?_;refine Z6 ?_;refine eQ O ?_;clear O;refine ap rfl (fun hg => ?_) (fun hg => ?_)
 ·have hg : i < n := by simp at hg; omega
  refine ak ?_;show AWP _ _ _ _ _ _;refine ag ?_;refine aj ?_;refine gQ fun _ O=>?_;refine Z8 ?_;refine eQ O ?_;clear O;refine aj (aI (α := Nat) (fun j => mk 50 [(0, V1 (dMs (bS n n F))), (4, dI i), (5, dI j)] [] []) (fun j => j <= i /\ ∀ k, k < j -> (F i k).v = (F k i).v) (fun j => i - j) 0 ?_ ⟨Nat.zero_le _, fun _ h => by omega⟩ ?_)
  ·exact Wk.mk' ⟨rfl, rfl, rfl, trivial⟩ trivial
  rintro j ⟨hj, hJ⟩
  refine ag ?_;refine gQ fun _ O=>?_;refine Z9 ?_;refine Z9 ?_;refine Z6 ?_;refine eQ O ?_;clear O;refine ap rfl (fun hf => ?_) (fun hf => ?_)
  ·have hf : j < i := by simp at hf; omega
   have cc := uk (F i j) (F j i) ((oF i j hg (by omega)).mono rfl) ((oF j i (by omega) hg).mono rfl)
   refine ak ?_;show AWP _ _ _ _ _ _;refine ag ?_;refine aj ?_;refine aH tok mixed (A := [[], [], [], [0, 1], [], [0, 1, 2], [0, 1, 2, 3, 4], [], [], [], [7, 8], [], [7, 8, 9], [7, 8, 9, 10, 11], [0, 1, 2, 3, 4, 5, 7, 8, 9, 10, 11, 12], [0, 1, 2, 3, 4, 5, 6, 7, 8, 9, 10, 11, 12, 13]]) (an := [{}, {}, {}, {}, {}, {}, {}, {}, {}, {}, {}, {}, {}, {}, {}, {}]) rfl (by kernel_rfl) rfl fun _ O=>?_;refine Z9 ?_;refine Z9 ?_;refine ab rfl (nY rfl rfl rfl rfl rfl hg) rfl ?_;refine Z7 ?_;refine Z9 ?_;refine ab rfl (x_v rfl rfl rfl rfl rfl (show j < n by omega)) rfl ?_;refine Z7 ?_;refine Z9 ?_;refine Z9 ?_;refine ab rfl (nY rfl rfl rfl rfl rfl (show j < n by omega)) rfl ?_;refine Z7 ?_;refine Z9 ?_;refine ab rfl (x_v rfl rfl rfl rfl rfl hg) rfl ?_;refine Z7 ?_;refine ac rfl rfl (cc) rfl rfl rfl rfl ?_;refine Z6 ?_;refine eQ O ?_;clear O;refine ap rfl (fun hd => ?_) (fun hd => ?_)
   ·have hne : (F i j).v ≠ (F j i).v := fun e => by
     have z : ((F i j).v - (F j i).v).num.sign = 0 := jJ.2 (by rw [e]; grind)
     rw [z] at hd
     simp at hd
    have e : decide (n <= 16 /\ ∀ i, i < n -> ∀ j, j < i -> (F i j).v = (F j i).v) = false := decide_eq_false fun h => hne (h.2 i hg j hf)
    rw [e];refine gQ fun _ O=>?_;refine Z8 ?_;refine eQ O ?_;clear O;exact al aP
   ·have heq : (F i j).v = (F j i).v := by
     have h2 : ((F i j).v - (F j i).v).num.sign = 0 := by simpa using hd
     have := jJ.1 h2
     grind
    refine ak ?_;show AWP _ _ _ _ _ _;refine gR fun _ O=>?_;refine Z9 ?_;refine au rfl (aE (c := ((j + 1 : Nat) : Int)) (by omega) (by omega)) rfl ?_;refine Z8 ?_;refine eQ O ?_;clear O;refine ⟨j + 1, by omega, ⟨hf, fun k hk => ?_⟩, Wk.mk' ⟨rfl, rfl, rfl, trivial⟩ trivial⟩
    by_cases e : k = j
    ·subst e; exact heq
    ·exact hJ k (by omega)
  ·have hf : j = i := by simp at hf; omega
   subst hf
   refine aA ?_;show AWP _ _ _ _ _ _;refine gR fun _ O=>?_;refine Z9 ?_;refine au rfl (aE (c := ((j + 1 : Nat) : Int)) (by omega) (by omega)) rfl ?_;refine Z8 ?_;refine eQ O ?_;clear O;refine ⟨j + 1, by omega, ⟨hg, fun k hk => ?_⟩, Wk.mk' ⟨rfl, rfl, trivial⟩ trivial⟩
   by_cases e : k = j
   ·subst e; exact hJ
   ·exact hI k (by omega)
 ·have hg : i = n := by simp at hg; omega
  subst hg
  have e : decide (i <= 16 /\ ∀ a, a < i -> ∀ j, j < a -> (F a j).v = (F j a).v) = true := decide_eq_true ⟨h16, hI⟩
  rw [e];refine aA ?_;show AWP _ _ _ _ _ _;refine gQ fun _ O=>?_;refine Z8 ?_;refine eQ O ?_;clear O;exact al aP

/-! ### Orders -/
def D4 (n : Nat) (l : List Int) : Prop := l.length = n /\ ∀ i (h : i < l.length), 0 <= l[i] /\ l[i] < n /\ l[i] ∉ l.take i
instance (n : Nat) (l : List Int) : Decidable (D4 n l) := by unfold D4; infer_instance
def rm (n : Nat) (l : List Int) : Bool := decide (D4 n l)
def sP (x : Int) (n : Nat) (L : List Int) : Bool := !decide (0 <= x /\ x < n /\ x ∉ L)
theorem D7 {x : Int} {n : Nat} {L : List Int} (h : decide (x < 0) = true) : true = sP x n L := by
 have h := of_decide_eq_true h
 unfold sP
 rw [decide_eq_false (fun h2 => by omega)]; rfl
theorem D6 {x : Int} {n : Nat} {L : List Int} (h : decide (x >= n) = true) : true = sP x n L := by
 have h := of_decide_eq_true h
 unfold sP
 rw [decide_eq_false (fun h2 => by omega)]; rfl
theorem D5 {x : Int} {n : Nat} {L : List Int} (h : decide (x < 0) = false) (h2 : decide (x >= n) = false) : decide (((x.toNat : Nat) : Int) ∈ L) = sP x n L := by
 have h := of_decide_eq_false h
 have h2 := of_decide_eq_false h2
 unfold sP
 have e : ((x.toNat : Nat) : Int) = x := by omega
 rw [e]
 by_cases hm : x ∈ L
 ·rw [decide_eq_true hm, decide_eq_false (fun h3 => h3.2.2 hm)]; rfl
 ·rw [decide_eq_false hm, decide_eq_true ⟨by omega, by omega, hm⟩]; rfl
def boD (n : Nat) (p : Nat -> Bool) : List (List DC) := (List.range n).map fun j => [.lit (.bool (p j))]
theorem iI (n : Nat) (p : Nat -> Bool) : (boD n p).length = n := by simp [boD]
theorem mJ {n i : Nat} {p : Nat -> Bool} (h : i < n) : (boD n p)[i]? = some [.lit (.bool (p i))] := by simp [boD, h]
theorem yu {n : Nat} {p q : Nat -> Bool} (h : ∀ i, i < n -> p i = q i) : boD n p = boD n q := List.map_congr_left fun i hi => by rw [h i (List.mem_range.1 hi)]
def xN (p : Nat -> Bool) (a : Nat) (x : Bool) : Nat -> Bool := fun i => if i = a then x else p i
theorem CJ {n i : Nat} {x : Bool} {p : Nat -> Bool} : (boD n p).set i [.lit (.bool x)] = boD n (xN p i x) := by
 apply List.ext_getElem?
 intro k
 rw [List.getElem?_set]
 by_cases hk : i = k
 ·subst hk
  rw [if_pos rfl, iI]
  by_cases hn : i < n
  ·rw [if_pos hn, mJ hn]; simp [xN]
  ·rw [if_neg hn, List.getElem?_eq_none (by rw [iI]; omega)]
 ·rw [if_neg hk]
  rcases Nat.lt_or_ge k n with hn | hn
  ·rw [mJ hn, mJ hn]; simp [xN, Ne.symm hk]
  ·rw [List.getElem?_eq_none (by rw [iI]; omega), List.getElem?_eq_none (by rw [iI]; omega)]
def snS (l : List Int) (i : Nat) (t : Nat) : Bool := decide ((t : Int) ∈ l.take i)
theorem Fb (n : Nat) (l : List Int) : List.replicate n [DC.lit (.bool false)] = boD n (snS l 0) := by
 simp [boD, snS, List.map_const']
theorem Eu {n : Nat} {l : List Int} {i : Nat} (hg : i < l.length) (h0 : 0 <= l[i]) : boD n (xN (snS l i) (l[i]).toNat true) = boD n (snS l (i + 1)) := yu fun t _ => by
 simp only [xN, snS];rw [List.take_succ_eq_append_getElem hg]
 by_cases h : t = (l[i]).toNat
 ·rw [if_pos h, eq_comm, decide_eq_true_eq, List.mem_append];exact Or.inr (by rw [List.mem_singleton]; omega)
 ·rw [if_neg h]
  apply decide_eq_decide.2
  rw [List.mem_append, List.mem_singleton]
  constructor
  ·exact Or.inl
  ·rintro (h1 | h1)
   ·exact h1
   ·exact absurd (by omega) h
section
variable {T : Tab} {t e : TypeId} {ti ei : TI}
theorem EH {S : cu} {rb : List Nat} {id i n : Nat} {p : Nat -> Bool} (x : Bool) (h1 : T t = some ti) (h4 : ti.size = 1) (hS : S id = some (.arr 1 (boD n p))) (hi : i < n) :
  bN T ⟨[], S, rb⟩ t (.pe id 1 i 0) (dB x) = .upd (bw S id (.arr 1 (boD n (xN p i x)))) rb := by
 rw [<- CJ];exact vo (ds := [.lit (.bool x)]) h1 hS (by rw [iI]; exact hi) (fun el h => by rw [mJ hi] at h; cases h; rw [h4]; rfl) rfl (by rw [h4]; rfl) (by rw [h4]; rfl)
theorem Fx {S : cu} {id i n : Nat} {p : Nat -> Bool} (h1 : T t = some ti) (h4 : ti.size = 1) (h5 : ti.agg = false) (hS : S id = some (.arr 1 (boD n p))) (hi : i < n) :
  bH T ⟨[], S, []⟩ t (.pe id 1 i 0) = .set (dB (p i)) :=
 l_o h1 hS (mJ hi) (by rw [h4]; rfl) (by rw [h5]; rfl)
end

theorem AI (n : Nat) (l : List Int) (hn : n <= 1048576) (hl : l.length <= 9223372036854775806) : Con Tryz.prog 88 [dI n, V1 (dIs l)] { v := dB (rm n l) } := by
 refine Z3 Tryz.func88 ?_
 intro w0 X
 rw [aq _ _ [(0, dI n), (1, V1 (dIs l))] rfl rfl];refine gQ fun _ O=>?_;refine Z8 ?_;refine eQ O ?_;clear O;refine ag ?_;refine gQ fun _ O=>?_;refine Z9 ?_;refine az rfl (a8 cI rfl rfl) rfl ?_;refine Z9 ?_;refine Z6 ?_;refine eQ O ?_;clear O;refine ap rfl (fun hc => ?_) (fun hc => ?_)
 ·have e : rm n l = false := decide_eq_false fun h => by have := h.1; simp at hc; omega
  rw [e];refine gQ fun _ O=>?_;refine Z8 ?_;refine eQ O ?_;clear O;exact al aP
 have hc : l.length = n := by simp at hc; omega
 refine ak ?_;show AWP _ _ _ _ _ _;refine gQ fun _ O=>?_;refine Z9 ?_;refine br (sz := _) (es := _) (f := _) (v := _) rfl (sV (l := n) rfl rfl rfl rfl rfl (Nat.le_of_ble_eq_true rfl) (by decide) rfl rfl (by omega)) rfl rfl ?_;refine Z8 ?_;refine eQ O ?_;clear O;refine ag ?_;refine gQ fun _ O=>?_;refine Z8 ?_;refine eQ O ?_;clear O;refine aj (aI (α := Nat) (fun i => mk 46 [(0, dI n), (1, V1 (dIs l)), (5, .val (.one (.own 12 1 0 n))), (6, dI i)] [(12, some (.arr 1 (boD n (snS l i))))] []) (fun i => i <= n /\ ∀ k (h : k < l.length), k < i -> 0 <= l[k] /\ l[k] < n /\ l[k] ∉ l.take k) (fun i => n - i) 0 ?_ ⟨Nat.zero_le _, fun _ _ h => by omega⟩ ?_)
 ·exact Wk.mk' ⟨rfl, rfl, rfl, rfl, trivial⟩ ⟨congrArg (fun x => some (OO.arr 1 x)) (Fb n l), trivial⟩
 rintro i ⟨hi, hI⟩
 refine ag ?_;refine gQ fun _ O=>?_;refine Z9 ?_;refine Z9 ?_;refine Z6 ?_;refine eQ O ?_;clear O;refine ap rfl (fun hg => ?_) (fun hg => ?_)
 ·have hg : i < n := by simp at hg; omega
  have hgl : i < l.length := by omega
  refine ak ?_;show AWP _ _ _ _ _ _;refine ag ?_;refine aj ?_;refine ag ?_;refine aT (α := Bool) (fun c => mk 46 [(0, dI n), (1, V1 (dIs l)), (5, .val (.one (.own 12 1 0 n))), (6, dI i), (39, dB c)] [(12, some (.arr 1 (boD n (snS l i))))] []) (fun c => c = sP l[i] n (l.take i)) ?_ ?_
  ·refine gR fun _ O=>?_;refine Z9 ?_;refine Z9 ?_;refine ab rfl (x_m cI rfl rfl rfl rfl hgl rfl) rfl ?_;refine Z7 ?_;refine Z6 ?_;refine Z9 ?_;refine dg (fun h0 => ?_) (fun h0 => ?_)
   ·refine aB rfl ?_;refine aB rfl ?_;refine aB rfl ?_;refine aB rfl ?_;refine aB rfl ?_;refine aB rfl ?_;refine Z4 ?_;refine Z9 ?_;refine aB rfl ?_;refine aB rfl ?_;refine aB rfl ?_;refine aB rfl ?_;refine aB rfl ?_;refine aB rfl ?_;refine aB rfl ?_;refine Z4 ?_;refine eQ O ?_;clear O;exact ⟨_, (by first|exact D7 h0|exact D6 h1|exact D5 h0 h1), Wk.mk' ⟨rfl, rfl, rfl, rfl, rfl, trivial⟩ ⟨rfl, trivial⟩⟩
   ·refine Z9 ?_;refine Z9 ?_;refine ab rfl (x_m cI rfl rfl rfl rfl hgl rfl) rfl ?_;refine Z7 ?_;refine Z9 ?_;refine Z6 ?_;refine Z4 ?_;refine Z9 ?_;refine dg (fun h1 => ?_) (fun h1 => ?_)
    ·refine aB rfl ?_;refine aB rfl ?_;refine aB rfl ?_;refine aB rfl ?_;refine aB rfl ?_;refine aB rfl ?_;refine aB rfl ?_;refine Z4 ?_;refine eQ O ?_;clear O;exact ⟨_, (by first|exact D7 h0|exact D6 h1|exact D5 h0 h1), Wk.mk' ⟨rfl, rfl, rfl, rfl, rfl, trivial⟩ ⟨rfl, trivial⟩⟩
    ·refine Z9 ?_;refine Z9 ?_;refine Z9 ?_;refine ab rfl (x_m cI rfl rfl rfl rfl hgl rfl) rfl ?_;refine Z7 ?_;refine ab rfl (x_o (i := (l[i]).toNat) (j := (l[i]).toNat) rfl rfl rfl rfl (by simp at h0 h1; omega) (by simp at h0 h1; omega) (Nat.zero_add _)) rfl ?_;refine aQ rfl (Fx rfl rfl rfl rfl (by simp at h0 h1; omega)) rfl ?_;refine Z4 ?_;refine eQ O ?_;clear O;exact ⟨_, (by first|exact D7 h0|exact D6 h1|exact D5 h0 h1), Wk.mk' ⟨rfl, rfl, rfl, rfl, rfl, trivial⟩ ⟨rfl, trivial⟩⟩
  rintro c rfl
  refine ap rfl (fun hd => ?_) (fun hd => ?_)
  ·have e : rm n l = false := decide_eq_false fun h => by
    have := h.2 i hgl
    unfold sP at hd
    rw [decide_eq_true this] at hd
    cases hd
   rw [e];refine gQ fun _ O=>?_;refine Z8 ?_;refine eQ O ?_;clear O;exact al aP
  have hd : 0 <= l[i] /\ l[i] < n /\ l[i] ∉ l.take i := by
   unfold sP at hd
   exact of_decide_eq_true (by simpa using hd)
  obtain ⟨d1, d2, d3⟩ := hd
  refine ak ?_;show AWP _ _ _ _ _ _;refine gR fun _ O=>?_;refine Z9 ?_;refine Z9 ?_;refine Z9 ?_;refine ab rfl (x_m cI rfl rfl rfl rfl hgl rfl) rfl ?_;refine Z7 ?_;refine ab rfl (x_o (i := (l[i]).toNat) (j := (l[i]).toNat) rfl rfl rfl rfl (by omega) (by omega) (Nat.zero_add _)) rfl ?_;refine ah rfl (EH true rfl rfl rfl (by omega)) rfl rfl rfl ?_;refine eQ O ?_;clear O;rw [Eu hgl d1];show AWP _ _ _ _ _ _;refine gR fun _ O=>?_;refine Z9 ?_;refine au rfl (aE (c := ((i + 1 : Nat) : Int)) (by omega) (by omega)) rfl ?_;refine Z8 ?_;refine eQ O ?_;clear O;refine ⟨i + 1, by omega, ⟨hg, fun k h hk => ?_⟩, Wk.mk' ⟨rfl, rfl, rfl, rfl, trivial⟩ ⟨rfl, trivial⟩⟩
  by_cases e : k = i
  ·subst e; exact ⟨d1, d2, d3⟩
  ·exact hI k h (by omega)
 ·have hg : i = n := by simp at hg; omega
  subst hg
  have e : rm i l = true := decide_eq_true ⟨hc, fun k h => hI k h (by omega)⟩
  rw [e];refine aA ?_;show AWP _ _ _ _ _ _;refine gQ fun _ O=>?_;refine Z8 ?_;refine eQ O ?_;clear O;exact al aP

def nmI (n : Nat) (e : Nat -> Nat) : List Int := (List.range n).map fun i => (e i : Int)
theorem Cf (n : Nat) (e : Nat -> Nat) : DC.sl (nmD n e) = dIs (nmI n e) := by
 unfold nmD nmI dIs
 rw [List.map_map]; rfl
theorem Cb (n : Nat) : rm n (nmI n fun i => i) = true := decide_eq_true ⟨by simp [nmI], fun i h => by
 have hn : i < n := by simpa [nmI] using h
 have e : (nmI n fun i => i)[i] = (i : Int) := by simp [nmI]
 rw [e];refine ⟨by omega, by omega, fun hm => ?_⟩
 obtain ⟨k, hk, ek⟩ := List.getElem_of_mem hm
 rw [List.length_take] at hk;rw [List.getElem_take] at ek
 have : (k : Int) = (i : Int) := by rw [<- ek]; simp [nmI]
 omega⟩

theorem xr (n : Nat) (hn : n <= 1048576) : Con Tryz.prog 89 [dI n] { v := .val (.one (.own 0 4 0 n)), ob := some (4, bd n (zG n)) } := by
 have c0 : Con Tryz.prog 74 [dI 0, dI 1] { v := AG (qzW 0).cs } := em 0 ⟨by omega, by omega⟩
 refine Z3 Tryz.func89 ?_
 intro w0 X
 rw [aq _ _ [(0, dI n)] rfl rfl];refine gQ fun _ O=>?_;refine Z8 ?_;refine eQ O ?_;clear O;refine gQ fun _ O=>?_;refine Z9 ?_;refine br (sz := _) (es := _) (f := _) (v := _) rfl (sV (l := n) rfl rfl rfl rfl rfl (Nat.le_of_ble_eq_true rfl) (by decide) rfl rfl (by omega)) rfl rfl ?_;refine Z8 ?_;refine eQ O ?_;clear O;refine ag ?_;refine gQ fun _ O=>?_;refine Z8 ?_;refine eQ O ?_;clear O;refine aj (aI (α := Nat) (fun s => mk 17 [(0, dI n), (3, .val (.one (.own 6 4 0 n))), (4, dI s)] [(6, some (.arr 4 (bd n (zG s))))] []) (fun s => s <= n) (fun s => n - s) 0 ?_ (Nat.zero_le _) ?_)
 ·exact Wk.mk' ⟨rfl, rfl, rfl, trivial⟩ ⟨congrArg (fun x => some (OO.arr 4 x)) (wR n), trivial⟩
 intro s hs
 refine ag ?_;refine gQ fun _ O=>?_;refine Z9 ?_;refine Z9 ?_;refine Z6 ?_;refine eQ O ?_;clear O;refine ap rfl (fun hf => ?_) (fun hf => ?_)
 ·have hf : s < n := by simp at hf; omega
  refine ak ?_;show AWP _ _ _ _ _ _;refine ag ?_;refine aj ?_;refine gR fun _ O=>?_;refine Z9 ?_;refine Z9 ?_;refine ac rfl rfl (c0) rfl rfl rfl rfl ?_;refine ab rfl (x_o (i := s) (j := s) rfl rfl rfl rfl rfl hf (Nat.zero_add _)) rfl ?_;refine ah rfl (mT (qzW 0) rfl rfl rfl hf) rfl rfl rfl ?_;refine eQ O ?_;clear O;rw [wQ];show AWP _ _ _ _ _ _;refine gR fun _ O=>?_;refine Z9 ?_;refine au rfl (aE (c := ((s + 1 : Nat) : Int)) (by omega) (by omega)) rfl ?_;refine Z8 ?_;refine eQ O ?_;clear O;exact ⟨s + 1, by omega, hf, Wk.mk' ⟨rfl, rfl, rfl, trivial⟩ ⟨rfl, trivial⟩⟩
 have hf : s = n := by simp at hf; omega
 subst hf
 refine aA ?_;show AWP _ _ _ _ _ _;refine gQ fun _ O=>?_;refine Z9 ?_;refine Z8 ?_;refine eQ O ?_;clear O;refine al ?_;exact ut (xq (by rfl) rfl)

def idS (s v : Nat) : Nat := if v < s then v else 0
theorem AJ (n : Nat) (hn : n <= 1048576) : Con Tryz.prog 95 [dI n] { v := V1 (.sl (nmD n fun i => i)) } := by
 refine Z3 Tryz.func95 ?_
 intro w0 X
 rw [aq _ _ [(0, dI n)] rfl rfl];refine gQ fun _ O=>?_;refine Z8 ?_;refine eQ O ?_;clear O;refine gQ fun _ O=>?_;refine Z9 ?_;refine br (sz := _) (es := _) (f := _) (v := _) rfl (sV (l := n) rfl rfl rfl rfl rfl (Nat.le_of_ble_eq_true rfl) (by decide) rfl rfl (by omega)) rfl rfl ?_;refine Z8 ?_;refine eQ O ?_;clear O;refine ag ?_;refine gQ fun _ O=>?_;refine Z8 ?_;refine eQ O ?_;clear O;refine aj (aI (α := Nat) (fun s => mk 17 [(0, dI n), (3, .val (.one (.own 6 1 0 n))), (4, dI s)] [(6, some (.arr 1 (nmD n (idS s))))] []) (fun s => s <= n) (fun s => n - s) 0 ?_ (Nat.zero_le _) ?_)
 ·exact Wk.mk' ⟨rfl, rfl, rfl, trivial⟩ ⟨congrArg (fun x => some (OO.arr 1 x)) (show List.replicate n (cN 0) = nmD n (idS 0) by simp [nmD, idS, List.map_const']), trivial⟩
 intro s hs
 refine ag ?_;refine gQ fun _ O=>?_;refine Z9 ?_;refine Z9 ?_;refine Z6 ?_;refine eQ O ?_;clear O;refine ap rfl (fun hf => ?_) (fun hf => ?_)
 ·have hf : s < n := by simp at hf; omega
  refine ak ?_;show AWP _ _ _ _ _ _;refine ag ?_;refine aj ?_;refine gR fun _ O=>?_;refine Z9 ?_;refine Z9 ?_;refine Z9 ?_;refine ab rfl (x_o (i := s) (j := s) rfl rfl rfl rfl rfl hf (Nat.zero_add _)) rfl ?_;refine ah rfl (vo (ds := cN s) rfl rfl (by simpa [nmD] using hf) (fun el h => by simp [nmD, hf] at h; cases h; rfl) rfl rfl rfl) rfl rfl rfl ?_;refine eQ O ?_;clear O
  have e : (nmD n (idS s)).set s (cN s) = nmD n (idS (s + 1)) := by
   apply List.ext_getElem?
   intro k
   rw [List.getElem?_set]
   by_cases hk : s = k
   ·subst hk
    rw [if_pos rfl]
    simp [nmD, hf, idS]
   ·rw [if_neg hk]
    rcases Nat.lt_or_ge k n with hn' | hn'
    ·have e1 : (nmD n (idS s))[k]? = some (cN (idS s k)) := by simp [nmD, hn']
     have e2 : (nmD n (idS (s + 1)))[k]? = some (cN (idS (s + 1) k)) := by simp [nmD, hn']
     rw [e1, e2]
     have e3 : idS s k = idS (s + 1) k := by
      unfold idS
      by_cases h : k < s
      ·rw [if_pos h, if_pos (by omega)]
      ·rw [if_neg h, if_neg (by omega)]
     rw [e3]
    ·rw [List.getElem?_eq_none (by simp [nmD]; omega), List.getElem?_eq_none (by simp [nmD]; omega)]
  rw [e];show AWP _ _ _ _ _ _;refine gR fun _ O=>?_;refine Z9 ?_;refine au rfl (aE (c := ((s + 1 : Nat) : Int)) (by omega) (by omega)) rfl ?_;refine Z8 ?_;refine eQ O ?_;clear O;exact ⟨s + 1, by omega, hf, Wk.mk' ⟨rfl, rfl, rfl, trivial⟩ ⟨rfl, trivial⟩⟩
 have hf : s = n := by simp at hf; omega
 subst hf
 refine aA ?_;show AWP _ _ _ _ _ _
 have e : nmD s (idS s) = nmD s fun i => i := List.map_congr_left fun i hi => by rw [idS, if_pos (List.mem_range.1 hi)]
 rw [e];refine cQ [3] [6] 6 [(3, V1 (.sl (nmD s fun i => i)))] [] rfl ?_ trivial ?_
 ·exact ⟨bz rfl (by simp [nmD]), trivial⟩
 refine gQ fun _ O=>?_;refine Z9 ?_;refine Z8 ?_;refine eQ O ?_;clear O;exact al aP
end Go.Proofs.YtfichkokppbipaaGreatDoor

/- ref27: Factor. No condition. -/
namespace Go.Proofs.YtfichkokppbipaaGreatDoor
attribute [local irreducible] aM

def p3 (B : Nat -> Nat -> Rat) (n : Nat) : List (List RW) × List RW × Int := if lG B n then (ju B n, le B n, 0) else ([], [], 10)
def rG0 (B : Nat -> Nat -> Rat) (i j t : Nat) : RW := if t < j then qzW (LL B i t) else qzW 0
theorem BO (B : Nat -> Nat -> Rat) (n i : Nat) : bd n (zG n) = bd n (rG0 B i 0) := bn fun t ht => by
 simp only [zG, rG0];rw [if_neg (show ¬ t < 0 by omega), if_pos ht]
theorem BM (B : Nat -> Nat -> Rat) (n i j : Nat) : bd n (ic (rG0 B i j) j (qzW (LL B i j))) = bd n (rG0 B i (j + 1)) := bn fun t _ => by
 simp only [ic, rG0]
 by_cases h : t = j
 ·rw [if_pos h, if_pos (by omega), h]
 ·rw [if_neg h]
  by_cases h2 : t < j
  ·rw [if_pos h2, if_pos (by omega)]
  ·rw [if_neg h2, if_neg (show ¬ t < j + 1 by omega)]
theorem BN (B : Nat -> Nat -> Rat) (n i : Nat) : bd n (ic (rG0 B i i) i (qzW 1)) = bd n (fun c => qzW (LL B i c)) := bn fun t _ => by
 simp only [ic, rG0]
 by_cases h : t = i
 ·rw [if_pos h, h, dG]
 ·rw [if_neg h]
  by_cases h2 : t < i
  ·rw [if_pos h2]
  ·rw [if_neg h2, iX B (by omega)]
def sw (x : RW) (b : Rat) (f : Nat -> Rat) : Nat -> RW
 | 0 => x
 | k + 1 => qzW (b - sm (k + 1) f)
theorem EG {x : RW} {b : Rat} {f : Nat -> Rat} (h : x.v = b) : ∀ k, (sw x b f k).v = b - sm k f
 | 0 => by rw [mo]; exact h
 | _ + 1 => aR _
theorem CW {x : RW} {b : Rat} {f : Nat -> Rat} {M : Nat} (hx : x.OK M) {k : Nat} (h : ql (b - sm k f) <= M) : (sw x b f k).OK M := by
 cases k with
 | zero => exact hx
 | succ k => exact aD h

set_option maxHeartbeats 2000000 in
theorem yn (n : Nat) (F : Nat -> Nat -> RW) (e : Nat -> Nat) (hv : dN (bS n n F) = true) (hO : rm n (nmI n e) = true) (he : ∀ i, i < n -> e i < n) (ok : ∀ i j, i < n -> j < n -> (F i j).OK 65536) (hS : ym (nZ F e) n) :
  Con Tryz.prog 30 [V1 (dMs (bS n n F)), V1 (.sl (nmD n e))] { v := .tup [.one (.d (dMs (p3 (nZ F e) n).1)), .one (.d (dRs (p3 (nZ F e) n).2.1)), .one (.d (lI (p3 (nZ F e) n).2.2))] } := by
 have hn : n <= 16 := by have := (of_decide_eq_true hv).1; rwa [ku] at this
 have okm : okM 65536 (bS n n F) := fun r hr x hx => by
  obtain ⟨i, hi, rfl⟩ := List.mem_map.1 hr
  obtain ⟨j, hj, rfl⟩ := List.mem_map.1 hx
  exact ok i j (List.mem_range.1 hi) (List.mem_range.1 hj)
 have cV := uT (bS n n F) (by rw [ku]; omega) (fun r hr => by
  obtain ⟨i, _, rfl⟩ := List.mem_map.1 hr
  rw [eK]; omega) okm
 rw [hv] at cV
 have cO := AI n (nmI n e) (by omega) (by simp [nmI]; omega)
 rw [hO, <- Cf] at cO;clear hv hO okm
 obtain ⟨B, hB⟩ : ∃ B, B = nZ F e := ⟨_, rfl⟩
 rw [<- hB] at hS ⊢
 have hBv : ∀ i j, B i j = (F (e i) (e j)).v := fun i j => by rw [hB]; rfl
 clear hB
 have cOne : Con Tryz.prog 74 [dI 1, dI 1] { v := AG (qzW 1).cs } := em 1 ⟨by omega, by omega⟩
 refine Z3 Tryz.func30 ?_
 intro w0 X
 rw [aq _ _ [(0, V1 (dMs (bS n n F))), (1, V1 (.sl (nmD n e)))] rfl rfl];refine gQ fun _ O=>?_;refine Z8 ?_;refine Z8 ?_;refine Z8 ?_;refine eQ O ?_;clear O;refine ag ?_;refine gQ fun _ O=>?_;refine Z9 ?_;refine ac rfl rfl (cV) rfl rfl rfl rfl ?_;refine dz rfl rfl rfl ?_;refine eQ O ?_;clear O;refine ap rfl (fun hc => by cases hc) (fun _ => ?_);refine ak ?_;show AWP _ _ _ _ _ _;refine gQ fun _ O=>?_;refine Z9 ?_;refine az rfl (vQ rfl rfl) rfl ?_;refine Z8 ?_;refine eQ O ?_;clear O;refine ag ?_;refine gQ fun _ O=>?_;refine Z9 ?_;refine Z9 ?_;refine ac rfl rfl (cO) rfl rfl rfl rfl ?_;refine dz rfl rfl rfl ?_;refine eQ O ?_;clear O;refine ap rfl (fun hc => by cases hc) (fun _ => ?_);refine ak ?_;show AWP _ _ _ _ _ _;refine gQ fun _ O=>?_;refine Z8 ?_;refine eQ O ?_;clear O;refine gQ fun _ O=>?_;refine Z8 ?_;refine eQ O ?_;clear O;refine ag ?_;refine gQ fun _ O=>?_;refine Z8 ?_;refine eQ O ?_;clear O;refine aj (aI (α := Nat) (fun i => mk 133 [(0, V1 (dMs (bS n n F))), (1, V1 (.sl (nmD n e))), (7, dI n), (8, bD 200 1 i), (9, bD 201 4 i), (10, dI i)] [(200, bB 1 ((bS i n fun r c => qzW (LL B r c)).map cM) i), (201, bB 4 (bd i fun r => qzW (DD B r)) i)] []) (fun i => i <= n /\ ∀ k, k < i -> 0 < DD B k) (fun i => n - i) 0 ?_ ⟨Nat.zero_le _, fun _ h => by omega⟩ ?_)
 ·exact Wk.mk' ⟨rfl, rfl, rfl, rfl, rfl, rfl, trivial⟩ ⟨rfl, rfl, trivial⟩
 rintro i ⟨hi, hI⟩
 refine ag ?_;refine gQ fun _ O=>?_;refine Z9 ?_;refine Z9 ?_;refine Z6 ?_;refine eQ O ?_;clear O;refine ap rfl (fun hg => ?_) (fun hg => ?_)
 ·have hg : i < n := by simp at hg; omega
  have ei := he i hg
  obtain ⟨qD, qL⟩ := hS i hg hI
  have n1 := rr i n (fun r c => qzW (LL B r c))
  have n2 := ra i (fun r => qzW (DD B r))
  have z1 := ik i n (fun r c => qzW (LL B r c))
  have z2 := d5 i (fun r => qzW (DD B r))
  have g1 : ∀ j, j < i -> ((bS i n fun r c => qzW (LL B r c)).map cM)[j]? = some (cM (cS n fun c => qzW (LL B j c))) := fun j hj => uE hj
  generalize (bS i n fun r c => qzW (LL B r c)).map cM = es at n1 z1 g1 ⊢;refine ak ?_;show AWP _ _ _ _ _ _;refine ag ?_;refine aj ?_;refine gQ fun _ O=>?_;refine Z9 ?_;refine su rfl rfl (xr n (by omega)) (Or.inl rfl) rfl rfl (by rcases i with _|i <;> rfl) rfl ?_;refine Z8 ?_;refine eQ O ?_;clear O;rw [BO B n i]
  have cN1 := mg (F (e i) (e i)) ((ok _ _ ei ei).mono rfl)
  rw [<- hBv] at cN1;refine aH tok mixed (A := [[], [], [], [], [1, 2], [1, 2, 3], [0, 1, 2, 3, 4], [], [], [], [7, 8], [0, 1, 2, 3, 4, 5, 7, 8, 9], [0, 1, 2, 3, 4, 5, 6, 7, 8, 9, 10], [0, 1, 2, 3, 4, 5, 6, 7, 8, 9, 10, 11], [], []]) (an := [{}, {}, {}, {}, {}, {}, {}, {}, {}, {}, {}, {}, {}, {}, { c := [45] }, {}]) rfl (by kernel_rfl) rfl fun _ O=>?_;refine Z9 ?_;refine Z9 ?_;refine Z9 ?_;refine ab rfl (x_n rfl rfl rfl rfl rfl hg) rfl ?_;refine Z7 ?_;refine ab rfl (nY rfl rfl rfl rfl rfl ei) rfl ?_;refine Z7 ?_;refine Z9 ?_;refine Z9 ?_;refine ab rfl (x_n rfl rfl rfl rfl rfl hg) rfl ?_;refine Z7 ?_;refine ab rfl (x_v rfl rfl rfl rfl rfl ei) rfl ?_;refine Z7 ?_;refine ac rfl rfl (cN1) rfl rfl rfl rfl ?_;refine ar rfl rfl rfl rfl rfl (by rcases i with _|i <;> rfl) ?_;refine ah rfl rfl rfl rfl rfl ?_;refine eQ O ?_;clear O;refine ag ?_;refine gQ fun _ O=>?_;refine Z8 ?_;refine eQ O ?_;clear O;refine aj (aI (α := Nat) (fun j => mk 133 [(0, V1 (dMs (bS n n F))), (1, V1 (.sl (nmD n e))), (7, dI n), (8, bD 200 1 i), (9, bD 201 4 i), (10, dI i), (11, .val (.one (.own 31 4 0 n))), (12, .ptr 12 0), (13, dI j)] [(12, some (.box (qzW (B i i - sm j fun t => LL B i t * LL B i t * DD B t)).cs)), (31, some (.arr 4 (bd n (rG0 B i j)))), (200, bB 1 es i), (201, bB 4 (bd i fun r => qzW (DD B r)) i)] []) (fun j => j <= i) (fun j => i - j) 0 ?_ (Nat.zero_le _) ?_)
  ·refine Wk.mk' ⟨rfl, rfl, rfl, rfl, rfl, rfl, rfl, rfl, rfl, trivial⟩ ⟨?_, rfl, rfl, rfl, trivial⟩;rw [mo]; rfl
  intro j hj
  have tr : ∀ t, t < i -> ql (LL B i t * LL B i t * DD B t) <= 196608 := fun t ht =>
   Nat.le_trans (aC (aC (qL t ht) (qL t ht)) (hS t (by omega) fun k hk => hI k (by omega)).1) (by decide)
  have qb : ∀ a b, a < n -> b < n -> ql (B a b) <= 65536 := fun a b ha hb => by rw [hBv]; exact (ok _ _ (he a ha) (he b hb)).ql rfl
  refine ag ?_;refine gQ fun _ O=>?_;refine Z9 ?_;refine Z9 ?_;refine Z6 ?_;refine eQ O ?_;clear O;refine ap rfl (fun hf => ?_) (fun hf => ?_)
  ·have hf : j < i := by simp at hf; omega
   obtain ⟨i0, hi0⟩ : ∃ i0, i = i0 + 1 := ⟨i - 1, by omega⟩
   have hjs : j < n := by omega
   have ej := he j hjs
   have dj := hI j hf
   obtain ⟨qDj, qLj⟩ := hS j hjs fun k hk => hI k (by omega)
   have oij := ok _ _ ei ej
   have bij := hBv i j
   have tx : ∀ t, t < j -> ql (LL B i t * DD B t * LL B j t) <= 196608 := fun t ht =>
    Nat.le_trans (aC (aC (qL t (by omega)) (hS t (by omega) fun k hk => hI k (by omega)).1) (qLj t ht)) (by decide)
   have hbx : ∀ k, k <= j -> ql (B i j - sm k fun t => LL B i t * DD B t * LL B j t) <= 4194304 := fun k hk =>
    Nat.le_trans (mm (qb i j hg hjs) k fun t ht => tx t (by omega)) (by
     have := Nat.mul_le_mul_right (196608 + 1) (show k <= 16 by omega)
     omega)
   have hbr : ql (B i i - sm j fun t => LL B i t * LL B i t * DD B t) <= 4194304 :=
    Nat.le_trans (mm (qb i i hg hg) j fun t ht => tr t (by omega)) (by
     have := Nat.mul_le_mul_right (196608 + 1) (show j <= 16 by omega)
     omega)
   have hlx : (B i j - sm j fun t => LL B i t * DD B t * LL B j t) = LL B i j * DD B j := by
    have e1 : (fun t => LL B i t * DD B t * LL B j t) = fun t => LL B i t * LL B j t * DD B t := funext fun t => by grind
    rw [e1];exact (xI B hf (by grind)).symm
   have hr0 := iN (B i i) (fun t => LL B i t * LL B i t * DD B t) j (x := LL B i j * LL B i j * DD B j) rfl
   refine ak ?_;show AWP _ _ _ _ _ _;refine ag ?_;refine aj ?_
   subst hi0
   refine aH tok mixed (A := [[], [], [], [], [1, 2], [1, 2, 3], [0, 1, 2, 3, 4], [], [], [], [7, 8], [0, 1, 2, 3, 4, 5, 7, 8, 9], [0, 1, 2, 3, 4, 5, 6, 7, 8, 9, 10], [], []]) (an := [{}, {}, {}, {}, {}, {}, {}, {}, {}, {}, {}, {}, {}, {}, {}]) rfl (by kernel_rfl) rfl fun _ O=>?_;refine Z9 ?_;refine Z9 ?_;refine Z9 ?_;refine ab rfl (x_n rfl rfl rfl rfl rfl hg) rfl ?_;refine Z7 ?_;refine ab rfl (nY rfl rfl rfl rfl rfl ei) rfl ?_;refine Z7 ?_;refine Z9 ?_;refine Z9 ?_;refine ab rfl (x_n rfl rfl rfl rfl rfl hjs) rfl ?_;refine Z7 ?_;refine ab rfl (x_v rfl rfl rfl rfl rfl ej) rfl ?_;refine Z7 ?_;refine ar rfl rfl rfl rfl rfl rfl ?_;refine ah rfl rfl rfl rfl rfl ?_;refine eQ O ?_;clear O;refine ag ?_;refine gQ fun _ O=>?_;refine Z8 ?_;refine eQ O ?_;clear O
   obtain ⟨sf, hsf⟩ : ∃ sf, sf = sw (F (e (i0 + 1)) (e j)) (B (i0 + 1) j) fun t => LL B (i0 + 1) t * DD B t * LL B j t := ⟨_, rfl⟩
   have sf0 : sf 0 = F (e (i0 + 1)) (e j) := by rw [hsf]; rfl
   have sf1 : ∀ k, sf (k + 1) = qzW (B (i0 + 1) j - sm (k + 1) fun t => LL B (i0 + 1) t * DD B t * LL B j t) := fun k => by rw [hsf]; rfl
   have sfv : ∀ k, (sf k).v = B (i0 + 1) j - sm k fun t => LL B (i0 + 1) t * DD B t * LL B j t := fun k => by rw [hsf]; exact EG bij.symm k
   have sfo : ∀ k, k <= j -> (sf k).OK 4194304 := fun k hk => by rw [hsf]; exact CW (oij.mono rfl) (hbx k hk)
   clear hsf;refine aj (aI (α := Nat) (fun k => mk 133 [(0, V1 (dMs (bS n n F))), (1, V1 (.sl (nmD n e))), (7, dI n), (8, bD 200 1 (i0 + 1)), (9, bD 201 4 (i0 + 1)), (10, dI (i0 + 1 : Nat)), (11, .val (.one (.own 31 4 0 n))), (12, .ptr 12 0), (13, dI j), (14, .ptr 14 0), (15, dI k)] [(12, some (.box (qzW (B (i0 + 1) (i0 + 1) - sm j fun t => LL B (i0 + 1) t * LL B (i0 + 1) t * DD B t)).cs)), (14, some (.box (sf k).cs)), (31, some (.arr 4 (bd n (rG0 B (i0 + 1) j)))), (200, bB 1 es (i0 + 1)), (201, bB 4 (bd (i0 + 1) fun r => qzW (DD B r)) (i0 + 1))] []) (fun k => k <= j) (fun k => j - k) 0 ?_ (Nat.zero_le _) ?_)
   ·refine Wk.mk' ⟨rfl, rfl, rfl, rfl, rfl, rfl, rfl, rfl, rfl, rfl, rfl, trivial⟩ ⟨rfl, ?_, rfl, rfl, rfl, trivial⟩;rw [sf0]; rfl
   intro k hk
   refine ag ?_;refine gQ fun _ O=>?_;refine Z9 ?_;refine Z9 ?_;refine Z6 ?_;refine eQ O ?_;clear O;refine ap rfl (fun hc => ?_) (fun hc => ?_)
   ·have hc : k < j := by simp at hc; omega
    have qk := (hS k (by omega) fun k' hk' => hI k' (by omega)).1
    have c1 := dw (qzW (LL B (i0 + 1) k)) (qzW (DD B k)) (LL B (i0 + 1) k * DD B k) ((aD (qL k (by omega))).mono rfl) ((aD qk).mono rfl) (by rw [aR, aR])
    have c2 := dw (qzW (LL B (i0 + 1) k * DD B k)) (qzW (LL B j k)) (LL B (i0 + 1) k * DD B k * LL B j k) ((aD (aC (qL k (by omega)) qk)).mono rfl) ((aD (qLj k hc)).mono rfl) (by rw [aR, aR])
    have c3 := ig (sf k) (qzW (LL B (i0 + 1) k * DD B k * LL B j k)) (B (i0 + 1) j - sm (k + 1) fun t => LL B (i0 + 1) t * DD B t * LL B j t) ((sfo k hk).mono rfl) ((aD (tx k hc)).mono rfl) (by rw [sfv, aR]; exact iN _ _ _ rfl)
    rw [<- sf1] at c3;refine ak ?_;show AWP _ _ _ _ _ _;refine ag ?_;refine aj ?_;refine bb tok mixed (A := [[], [], [], [], [1, 2], [], [], [], [5, 6], [1, 2, 3, 5, 6, 7], [], [], [], [10, 11], [], [10, 11, 12], [10, 11, 12, 13, 14], [1, 2, 3, 4, 5, 6, 7, 8, 10, 11, 12, 13, 14, 15], [1, 2, 3, 4, 5, 6, 7, 8, 9, 10, 11, 12, 13, 14, 15, 16], []]) (an := [{}, {}, {}, {}, {}, {}, {}, {}, {}, {}, { c := [78] }, { c := [78] }, { c := [78] }, { c := [78] }, { c := [78] }, { c := [78] }, { c := [78] }, {}, {}, {}]) rfl (by kernel_rfl) rfl fun _ O=>?_;refine Z7 ?_;refine Z9 ?_;refine Z9 ?_;refine ab rfl (x_o (i := k) (j := k) rfl rfl rfl rfl rfl (show k < n by omega) (Nat.zero_add _)) rfl ?_;refine aQ rfl (jR (x := qzW (LL B (i0 + 1) k)) rfl rfl rfl rfl (show k < n by omega) (if_pos hc)) rfl ?_;refine Z9 ?_;refine Z9 ?_;refine ab rfl (x_o (i := k) (j := k) rfl rfl rfl rfl rfl (show k < i0 + 1 by omega) (Nat.zero_add _)) rfl ?_;refine aQ rfl (jR rfl rfl rfl rfl (show k < i0 + 1 by omega) rfl) rfl ?_;refine ac rfl rfl (c1) rfl rfl rfl rfl ?_;refine Z9 ?_;refine Z9 ?_;refine ab rfl (x_o (i := j) (j := j) rfl rfl rfl rfl rfl hf (Nat.zero_add _)) rfl ?_;refine aQ rfl (l_o rfl rfl (g1 j hf) rfl rfl) rfl ?_;refine Z9 ?_;refine ab rfl (x_v rfl rfl rfl rfl rfl (show k < n by omega)) rfl ?_;refine Z7 ?_;refine ac rfl rfl (c2) rfl rfl rfl rfl ?_;refine ac rfl rfl (c3) rfl rfl rfl rfl ?_;refine ah rfl rfl rfl rfl rfl ?_;refine eQ O ?_;clear O;show AWP _ _ _ _ _ _;refine gR fun _ O=>?_;refine Z9 ?_;refine au rfl (aE (c := ((k + 1 : Nat) : Int)) (by omega) (by omega)) rfl ?_;refine Z8 ?_;refine eQ O ?_;clear O;exact ⟨k + 1, by omega, hc, Wk.mk' ⟨rfl, rfl, rfl, rfl, rfl, rfl, rfl, rfl, rfl, rfl, rfl, trivial⟩ ⟨rfl, rfl, rfl, rfl, rfl, trivial⟩⟩
   have hc : k = j := by simp at hc; omega
   subst hc
   refine aA ?_;show AWP _ _ _ _ _ _
   have cd := wX (sf k) (qzW (DD B k)) (LL B (i0 + 1) k) ((sfo k hk).mono rfl) ((aD qDj).mono rfl) (by rw [aR]; grind) (by rw [sfv, hlx, aR]; grind)
   have c1 := dw (qzW (LL B (i0 + 1) k)) (qzW (LL B (i0 + 1) k)) (LL B (i0 + 1) k * LL B (i0 + 1) k) ((aD (qL k hf)).mono rfl) ((aD (qL k hf)).mono rfl) (by rw [aR])
   have c2 := dw (qzW (LL B (i0 + 1) k * LL B (i0 + 1) k)) (qzW (DD B k)) (LL B (i0 + 1) k * LL B (i0 + 1) k * DD B k) ((aD (aC (qL k hf) (qL k hf))).mono rfl) ((aD qDj).mono rfl) (by rw [aR, aR])
   have c3 := ig (qzW (B (i0 + 1) (i0 + 1) - sm k fun t => LL B (i0 + 1) t * LL B (i0 + 1) t * DD B t)) (qzW (LL B (i0 + 1) k * LL B (i0 + 1) k * DD B k)) (B (i0 + 1) (i0 + 1) - sm (k + 1) fun t => LL B (i0 + 1) t * LL B (i0 + 1) t * DD B t) ((aD hbr).mono rfl) ((aD (tr k hf)).mono rfl) (by rw [aR, aR]; exact hr0)
   refine aH tok mixed (A := [[], [], [], [], [], [], [3, 4], [3, 4, 5], [2, 3, 4, 5, 6], [2, 3, 4, 5, 6, 7], [2, 3, 4, 5, 6, 7], [], []]) (an := [{}, {}, {}, {}, {}, {}, {}, {}, {}, {}, {}, {}, {}]) rfl (by kernel_rfl) rfl fun _ O=>?_;refine Z9 ?_;refine Z9 ?_;refine Z7 ?_;refine Z9 ?_;refine Z9 ?_;refine ab rfl (x_o (i := k) (j := k) rfl rfl rfl rfl rfl hf (Nat.zero_add _)) rfl ?_;refine aQ rfl (jR rfl rfl rfl rfl hf rfl) rfl ?_;refine ac rfl rfl (cd) rfl rfl rfl rfl ?_;refine Z9 ?_;refine am rfl rfl rfl ?_;refine am rfl rfl rfl ?_;refine ab rfl (x_o (i := k) (j := k) rfl rfl rfl rfl rfl hjs (Nat.zero_add _)) rfl ?_;refine ah rfl (mT (qzW (LL B (i0 + 1) k)) rfl rfl rfl hjs) rfl rfl rfl ?_;refine eQ O ?_;clear O;rw [BM];refine bb tok mixed (A := [[], [], [], [], [1, 2], [], [], [], [5, 6], [1, 2, 3, 5, 6, 7], [], [], [], [10, 11], [1, 2, 3, 4, 5, 6, 7, 8, 10, 11, 12], [1, 2, 3, 4, 5, 6, 7, 8, 9, 10, 11, 12, 13], []]) (an := [{}, {}, {}, {}, {}, {}, {}, {}, {}, {}, { c := [109] }, { c := [109] }, { c := [109] }, { c := [109] }, {}, {}, {}]) rfl (by kernel_rfl) rfl fun _ O=>?_;refine Z7 ?_;refine Z9 ?_;refine Z9 ?_;refine ab rfl (x_o (i := k) (j := k) rfl rfl rfl rfl rfl hjs (Nat.zero_add _)) rfl ?_;refine aQ rfl (jR (x := qzW (LL B (i0 + 1) k)) rfl rfl rfl rfl hjs (if_pos (Nat.lt_succ_self k))) rfl ?_;refine Z9 ?_;refine Z9 ?_;refine ab rfl (x_o (i := k) (j := k) rfl rfl rfl rfl rfl hjs (Nat.zero_add _)) rfl ?_;refine aQ rfl (jR (x := qzW (LL B (i0 + 1) k)) rfl rfl rfl rfl hjs (if_pos (Nat.lt_succ_self k))) rfl ?_;refine ac rfl rfl (c1) rfl rfl rfl rfl ?_;refine Z9 ?_;refine Z9 ?_;refine ab rfl (x_o (i := k) (j := k) rfl rfl rfl rfl rfl hf (Nat.zero_add _)) rfl ?_;refine aQ rfl (jR rfl rfl rfl rfl hf rfl) rfl ?_;refine ac rfl rfl (c2) rfl rfl rfl rfl ?_;refine ac rfl rfl (c3) rfl rfl rfl rfl ?_;refine ah rfl rfl rfl rfl rfl ?_;refine eQ O ?_;clear O;show AWP _ _ _ _ _ _;refine gR fun _ O=>?_;refine Z9 ?_;refine au rfl (aE (c := ((k + 1 : Nat) : Int)) (by omega) (by omega)) rfl ?_;refine Z8 ?_;refine eQ O ?_;clear O;exact ⟨k + 1, by omega, hf, Wk.mk' ⟨rfl, rfl, rfl, rfl, rfl, rfl, rfl, rfl, rfl, trivial⟩ ⟨rfl, rfl, rfl, rfl, trivial⟩⟩
  have hf : j = i := by simp at hf; omega
  subst hf
  refine aA ?_;show AWP _ _ _ _ _ _;rw [<- Bh B j]
  have cs : Con Tryz.prog 93 [AG (qzW (DD B j)).cs] { v := dI (DD B j).num.sign } := mX (DD B j) (aN qD rfl)
  refine ag ?_;refine gQ fun _ O=>?_;refine Z7 ?_;refine ac rfl rfl (cs) rfl rfl rfl rfl ?_;refine Z6 ?_;refine eQ O ?_;clear O;refine ap rfl (fun hd => ?_) (fun hd => ?_)
  ·have hd : ¬ 0 < DD B j := kn.1 (of_decide_eq_true hd)
   have ef : p3 B n = ([], [], 10) := by rw [p3, if_neg]; simp only [lG, decide_eq_true_eq]; exact fun h => hd (h j hg)
   rw [ef];refine gQ fun _ O=>?_;refine Z8 ?_;refine Z8 ?_;refine Z8 ?_;refine eQ O ?_;clear O;exact al aP
  ·have hd : 0 < DD B j := by
    have := of_decide_eq_false hd
    exact Classical.byContradiction fun h => this (kn.2 h)
   refine ak ?_;show AWP _ _ _ _ _ _;refine gQ fun _ O=>?_;refine Z9 ?_;refine Z9 ?_;refine ac rfl rfl (cOne) rfl rfl rfl rfl ?_;refine ab rfl (x_o (i := j) (j := j) rfl rfl rfl rfl rfl hg (Nat.zero_add _)) rfl ?_;refine ah rfl (mT (qzW 1) rfl rfl rfl hg) rfl rfl rfl ?_;refine eQ O ?_;clear O;rw [BN]
   rcases j with _ | j
   ·refine cQ [0, 1, 7, 8, 9, 10, 11, 12] [12, 31, 200, 201] 31 [(0, V1 (dMs (bS n n F))), (1, V1 (.sl (nmD n e))), (7, dI n), (8, bD 200 1 (0)), (9, bD 201 4 (0)), (10, dI (0 : Nat)), (11, V1 (dRs (cS n fun c => qzW (LL B (0) c)))), (12, .ptr 12 0)] [(12, some (.box (qzW (DD B (0))).cs)), (200, bB 1 es (0)), (201, bB 4 (bd (0) fun r => qzW (DD B r)) (0))] rfl ?_ ⟨rfl, rfl, rfl, trivial⟩ ?_
    ·exact ⟨rfl, rfl, rfl, rfl, rfl, rfl, bz (jz n _).symm (by simp [cS]), rfl, trivial⟩
    refine gQ fun _ O=>?_;refine Z9 ?_;refine Z9 ?_;refine aw rfl rfl rfl rfl ?_;refine aO rfl (da rfl rfl rfl rfl rfl (by decide) (Nat.le_of_ble_eq_true rfl) rfl (by simp) rfl (by simp) (by simp)) rfl rfl rfl ?_;refine Z8 ?_;refine eQ O ?_;clear O;refine gR fun _ O=>?_;refine Z9 ?_;refine Z7 ?_;refine aw rfl rfl rfl rfl ?_;refine aO rfl (da rfl rfl rfl rfl rfl (by decide) (Nat.le_of_ble_eq_true rfl) rfl (by simp) rfl (by simp) (by simp)) rfl rfl rfl ?_;refine Z8 ?_;refine eQ O ?_;clear O;refine qP [0, 1, 7, 8, 9, 10] [126, 130] 126 200 [(0, V1 (dMs (bS n n F))), (1, V1 (.sl (nmD n e))), (7, dI n), (8, bD 200 1 (0 + 1)), (9, bD 130 4 (0 + 1)), (10, dI (0 : Nat))] [(200, bB 1 ((bS (0 + 1) n fun r c => qzW (LL B r c)).map cM) (0 + 1)), (130, bB 4 (bd (0 + 1) fun r => qzW (DD B r)) (0 + 1))] rfl rfl rfl ⟨rfl, rfl, rfl, ?_, ?_, rfl, trivial⟩ ⟨?_, ?_, trivial⟩ ?_
    ·show SV.val (.one (.own 200 1 0 _)) = _
     first
      | rfl
      | (rw [List.length_append, z1]; rfl)
    ·show SV.val (.one (.own 130 4 0 _)) = _
     first
      | rfl
      | (rw [List.length_append, z2]; rfl)
    ·first
      | (rw [<- n1, List.length_eq_zero_iff.1 z1]; rfl)
      | (rw [<- n1]; rfl)
    ·first
      | (rw [<- n2, List.length_eq_zero_iff.1 z2]; rfl)
      | (rw [<- n2]; rfl)
    show AWP _ _ _ _ _ _;refine gR fun _ O=>?_;refine Z9 ?_;refine au rfl (aE (c := ((0 + 1 : Nat) : Int)) (by omega) (by omega)) rfl ?_;refine Z8 ?_;refine eQ O ?_;clear O;refine ⟨0 + 1, by omega, ⟨hg, fun k hk => ?_⟩, Wk.rn [0, 1, 7, 8, 9, 10] [200, 130] 130 201 rfl rfl rfl ⟨rfl, rfl, rfl, rfl, rfl, rfl, trivial⟩ ⟨rfl, rfl, trivial⟩⟩
    by_cases e : k = 0
    ·rw [e]; exact hd
    ·exact hI k (by omega)
   ·refine cQ [0, 1, 7, 8, 9, 10, 11, 12] [12, 31, 200, 201] 31 [(0, V1 (dMs (bS n n F))), (1, V1 (.sl (nmD n e))), (7, dI n), (8, bD 200 1 (j + 1)), (9, bD 201 4 (j + 1)), (10, dI (j + 1 : Nat)), (11, V1 (dRs (cS n fun c => qzW (LL B (j + 1) c)))), (12, .ptr 12 0)] [(12, some (.box (qzW (DD B (j + 1))).cs)), (200, bB 1 es (j + 1)), (201, bB 4 (bd (j + 1) fun r => qzW (DD B r)) (j + 1))] rfl ?_ ⟨rfl, rfl, rfl, trivial⟩ ?_
    ·exact ⟨rfl, rfl, rfl, rfl, rfl, rfl, bz (jz n _).symm (by simp [cS]), rfl, trivial⟩
    refine gQ fun _ O=>?_;refine Z9 ?_;refine Z9 ?_;refine aw rfl rfl rfl rfl ?_;refine aO rfl (eI rfl rfl rfl rfl rfl rfl (by decide) (Nat.le_of_ble_eq_true rfl) rfl (by simp) rfl rfl z1.symm (by simp <;> omega)) rfl rfl rfl ?_;refine Z8 ?_;refine eQ O ?_;clear O;refine gR fun _ O=>?_;refine Z9 ?_;refine Z7 ?_;refine aw rfl rfl rfl rfl ?_;refine aO rfl (eI rfl rfl rfl rfl rfl rfl (by decide) (Nat.le_of_ble_eq_true rfl) rfl (by simp) rfl rfl z2.symm (by simp <;> omega)) rfl rfl rfl ?_;refine Z8 ?_;refine eQ O ?_;clear O;refine qP [0, 1, 7, 8, 9, 10] [126, 130] 126 200 [(0, V1 (dMs (bS n n F))), (1, V1 (.sl (nmD n e))), (7, dI n), (8, bD 200 1 (j + 1 + 1)), (9, bD 130 4 (j + 1 + 1)), (10, dI (j + 1 : Nat))] [(200, bB 1 ((bS (j + 1 + 1) n fun r c => qzW (LL B r c)).map cM) (j + 1 + 1)), (130, bB 4 (bd (j + 1 + 1) fun r => qzW (DD B r)) (j + 1 + 1))] rfl rfl rfl ⟨rfl, rfl, rfl, ?_, ?_, rfl, trivial⟩ ⟨?_, ?_, trivial⟩ ?_
    ·show SV.val (.one (.own 200 1 0 _)) = _
     first
      | rfl
      | (rw [List.length_append, z1]; rfl)
    ·show SV.val (.one (.own 130 4 0 _)) = _
     first
      | rfl
      | (rw [List.length_append, z2]; rfl)
    ·first
      | (rw [<- n1, List.length_eq_zero_iff.1 z1]; rfl)
      | (rw [<- n1]; rfl)
    ·first
      | (rw [<- n2, List.length_eq_zero_iff.1 z2]; rfl)
      | (rw [<- n2]; rfl)
    show AWP _ _ _ _ _ _;refine gR fun _ O=>?_;refine Z9 ?_;refine au rfl (aE (c := ((j + 1 + 1 : Nat) : Int)) (by omega) (by omega)) rfl ?_;refine Z8 ?_;refine eQ O ?_;clear O;refine ⟨j + 1 + 1, by omega, ⟨hg, fun k hk => ?_⟩, Wk.rn [0, 1, 7, 8, 9, 10] [200, 130] 130 201 rfl rfl rfl ⟨rfl, rfl, rfl, rfl, rfl, rfl, trivial⟩ ⟨rfl, rfl, trivial⟩⟩
    by_cases e : k = j + 1
    ·rw [e]; exact hd
    ·exact hI k (by omega)
 have hg : i = n := by simp at hg; omega
 subst hg
 refine aA ?_;show AWP _ _ _ _ _ _
 have ef : p3 B i = (ju B i, le B i, 0) := by rw [p3, if_pos]; simp only [lG, decide_eq_true_eq]; exact hI
 rw [ef]
 rcases i with _ | i
 ·refine gQ fun _ O=>?_;refine Z9 ?_;refine Z9 ?_;refine Z8 ?_;refine Z8 ?_;refine Z8 ?_;refine eQ O ?_;clear O;exact al aP
 ·refine cQ [8, 9] [200, 201] 200 [(8, V1 (dMs (ju B (i + 1)))), (9, bD 201 4 (i + 1))] [(201, bB 4 (bd (i + 1) fun r => qzW (DD B r)) (i + 1))] rfl ?_ ⟨rfl, trivial⟩ ?_
  ·exact ⟨bz rfl (ik _ _ _).symm, rfl, trivial⟩
  refine cQ [8, 9] [201] 201 [(8, V1 (dMs (ju B (i + 1)))), (9, V1 (dRs (le B (i + 1))))] [] rfl ?_ trivial ?_
  ·exact ⟨rfl, bz (jz _ _).symm (by simp [le, cS]), trivial⟩
  refine gQ fun _ O=>?_;refine Z9 ?_;refine Z9 ?_;refine Z8 ?_;refine Z8 ?_;refine Z8 ?_;refine eQ O ?_;clear O;exact al aP
end Go.Proofs.YtfichkokppbipaaGreatDoor

/- ref27: Solve. No condition. -/
namespace Go.Proofs.YtfichkokppbipaaGreatDoor
attribute [local irreducible] aM

section
variable (B : Nat -> Nat -> Rat) (b : Nat -> Rat)
def tl (i t : Nat) : RW := if t < i then qzW (fwv (LL B) b t) else qzW 0
theorem fg0 (n : Nat) : bd n (zG n) = bd n (tl B b 0) := bn fun t ht => by
 simp only [zG, tl];rw [if_neg (show ¬ t < 0 by omega), if_pos ht]
theorem fg1 (n i : Nat) : bd n (ic (tl B b i) i (qzW (fwv (LL B) b i))) = bd n (tl B b (i + 1)) := bn fun t _ => by
 simp only [ic, tl]
 by_cases h : t = i
 ·rw [if_pos h, if_pos (by omega), h]
 ·rw [if_neg h]
  by_cases h2 : t < i
  ·rw [if_pos h2, if_pos (by omega)]
  ·rw [if_neg h2, if_neg (by omega)]
theorem fg2 (n : Nat) : bd n (tl B b n) = bd n (dvG B b 0) := bn fun t ht => by simp [tl, dvG, ht]
end

set_option maxHeartbeats 2000000 in
theorem uU (m : List (List RW)) (b : List RW) (hl : m.length <= 9223372036854775806) (hlb : b.length <= 9223372036854775806) (hr : ∀ r ∈ m, r.length <= 9223372036854775806) (ok : okM 65536 m) (ob : ∀ x ∈ b, x.OK 65536)
  (hF : dN m = true -> b.length = m.length -> ym (ce m) m.length /\ (lG (ce m) m.length = true -> xQ (ce m) (d6 b) m.length)) :
  Con Tryz.prog 45 [V1 (dMs m), V1 (dRs b)] { v := .tup [.one (.d (dRs (dO m b).1)), .one (.d (lI (dO m b).2))] } := by
 refine Z3 Tryz.func45 ?_
 intro w0 X
 rw [aq _ _ [(0, V1 (dMs m)), (1, V1 (dRs b))] rfl rfl];refine gQ fun _ O=>?_;refine Z8 ?_;refine Z8 ?_;refine eQ O ?_;clear O;refine ag ?_;refine aT (α := Bool) (fun c => mk 130 [(0, V1 (dMs m)), (1, V1 (dRs b)), (26, dB c)] [] []) (fun c => c = !(dN m && decide (b.length = m.length))) ?_ ?_
 ·refine bO fun _ O=>?_;refine aa tok rfl ?_;refine Z9 ?_;refine ae ?_;refine aa tok rfl ?_;refine ac rfl rfl (uT m hl hr ok) rfl rfl rfl rfl ?_;refine ae ?_;refine aa tok rfl ?_;refine dz rfl rfl rfl ?_;refine ae ?_;refine aa tok rfl ?_;refine Z9 ?_;refine ae ?_;refine aV (fun h0 => ?_) (fun h0 => ?_)
  ·refine ai rfl rfl ?_;refine ai rfl rfl ?_;refine ai rfl rfl ?_;refine ai rfl rfl ?_;refine ai rfl rfl ?_;refine aa tok rfl ?_;refine Z4 ?_;refine ae ?_;refine aW rfl (O _ ?_); clear O;exact ⟨_, (by simp only [Bool.not_eq_true', Bool.not_eq_false'] at h0; rw [h0]; first|rfl|(rw [Bool.eq_iff_iff]; simp only [Bool.true_and, bne_iff_ne, ne_eq, Bool.not_eq_true', decide_eq_false_iff_not]; omega)), Wk.mk' ⟨rfl, rfl, rfl, trivial⟩ trivial⟩
  ·refine aa tok rfl ?_;refine Z9 ?_;refine ae ?_;refine aa tok rfl ?_;refine az rfl (a8 RW.dc rfl rfl) rfl ?_;refine ae ?_;refine aa tok rfl ?_;refine Z9 ?_;refine ae ?_;refine aa tok rfl ?_;refine az rfl (a8 cM rfl rfl) rfl ?_;refine ae ?_;refine aa tok rfl ?_;refine Z6 ?_;refine ae ?_;refine aa tok rfl ?_;refine Z4 ?_;refine ae ?_;refine aW rfl (O _ ?_); clear O;exact ⟨_, (by simp only [Bool.not_eq_true', Bool.not_eq_false'] at h0; rw [h0]; first|rfl|(rw [Bool.eq_iff_iff]; simp only [Bool.true_and, bne_iff_ne, ne_eq, Bool.not_eq_true', decide_eq_false_iff_not]; omega)), Wk.mk' ⟨rfl, rfl, rfl, trivial⟩ trivial⟩
 rintro c rfl
 refine ap rfl (fun hc => ?_) (fun hc => ?_)
 ·have e : dO m b = ([], 1) := by rw [dO, if_neg]; intro h; simp [h.1, h.2] at hc
  rw [e];refine gQ fun _ O=>?_;refine Z8 ?_;refine Z8 ?_;refine eQ O ?_;clear O;exact al aP
 have hc : dN m = true /\ b.length = m.length := by simpa using hc
 obtain ⟨hF1, hF2⟩ := hF hc.1 hc.2
 rw [dO, if_pos hc]
 have hV := of_decide_eq_true hc.1
 obtain ⟨hv1, hv2, _⟩ := hV
 obtain ⟨n, hn⟩ : ∃ n, m.length = n := ⟨_, rfl⟩
 have hm : m = bS n n (mtv m) := oK hn (fun r hr => (hv2 r hr).trans hn)
 have hbl : b.length = n := hc.2.trans hn
 have oF : ∀ i j, i < n -> j < n -> (mtv m i j).OK 65536 := fun i j hi hj => by rw [hm] at ok; exact oH ok hi hj
 obtain ⟨G, hG⟩ : ∃ G : Nat -> RW, G = fun i => b.getD i eh := ⟨_, rfl⟩
 have hb : b = cS n G := by rw [hG]; exact wH hbl
 have oG : ∀ i, i < n -> (G i).OK 65536 := fun i hi => by
  have hib : i < b.length := by omega
  have : G i = b[i] := by rw [hG]; simp [hib]
  rw [this]; exact ob _ (List.getElem_mem hib)
 have hbv : ∀ i, d6 b i = (G i).v := fun i => by rw [hG]; rfl
 rw [hn] at hF1 hF2 hv1
 have cF := yn n (mtv m) (fun i => i) (by rw [<- hm]; exact hc.1) (Cb n) (fun i hi => hi) oF hF1
 rw [<- hm] at cF
 have eB : nZ (mtv m) (fun i => i) = ce m := rfl
 rw [eB] at cF;generalize d6 b = bv at hF2 hbv ⊢;generalize ce m = B at cF hF1 hF2 ⊢;refine ak ?_;show AWP _ _ _ _ _ _;rw [hn];refine gQ fun _ O=>?_;refine Z9 ?_;refine Z9 ?_;refine az rfl (iS (n := n) rfl rfl (by rw [List.length_map]; exact hn)) rfl ?_;refine ac rfl rfl (AJ n (by omega)) rfl rfl rfl rfl ?_;refine ac rfl rfl (cF) rfl rfl rfl rfl ?_;refine Z9 ?_;refine am rfl rfl rfl ?_;refine am rfl rfl rfl ?_;refine am rfl rfl rfl ?_;refine Z8 ?_;refine Z8 ?_;refine Z8 ?_;refine eQ O ?_;clear O
 cases hp : lG B n with
 | false =>
  have e : p3 B n = ([], [], 10) := by rw [p3, hp]; rfl
  rw [e];refine ag ?_;refine gQ fun _ O=>?_;refine Z9 ?_;refine Z6 ?_;refine eQ O ?_;clear O;refine ap rfl (fun _ => ?_) (fun h => by cases h);refine gQ fun _ O=>?_;refine Z9 ?_;refine Z8 ?_;refine Z8 ?_;refine eQ O ?_;clear O;exact al aP
 | true =>
 obtain ⟨hS1, hS2⟩ := hF2 hp
 have hD := of_decide_eq_true hp
 have e : p3 B n = (ju B n, le B n, 0) := by rw [p3, hp]; rfl
 have qL : ∀ i j, i < n -> j < i -> ql (LL B i j) <= 65536 := fun i j hi hj => (hF1 i hi fun k hk => hD k (by omega)).2 j hj
 have qD : ∀ i, i < n -> ql (DD B i) <= 65536 := fun i hi => (hF1 i hi fun k hk => hD k (by omega)).1
 rw [e];refine ag ?_;refine gQ fun _ O=>?_;refine Z9 ?_;refine Z6 ?_;refine eQ O ?_;clear O;refine ap rfl (fun h => by cases h) (fun _ => ?_);refine ak ?_;show AWP _ _ _ _ _ _;rw [hb];refine gQ fun _ O=>?_;refine Z9 ?_;refine az rfl (iS (n := n) rfl rfl (by rw [List.length_map]; exact hn)) rfl ?_;refine Z8 ?_;refine eQ O ?_;clear O;refine gQ fun _ O=>?_;refine Z9 ?_;refine su rfl rfl (xr n (by omega)) (Or.inl rfl) rfl rfl rfl rfl ?_;refine Z8 ?_;refine eQ O ?_;clear O;rw [fg0 B bv];refine ag ?_;refine gQ fun _ O=>?_;refine Z8 ?_;refine eQ O ?_;clear O;refine aj (aI (α := Nat) (fun i => mk 130 [(1, V1 (dRs (cS n G))), (6, V1 (dMs (ju B n))), (7, V1 (dRs (le B n))), (9, dI n), (10, .val (.one (.own 42 4 0 n))), (11, dI i)] [(42, some (.arr 4 (bd n (tl B bv i))))] []) (fun i => i <= n) (fun i => n - i) 0 ?_ (Nat.zero_le _) ?_)
 ·exact Wk.mk' ⟨rfl, rfl, rfl, rfl, rfl, rfl, trivial⟩ ⟨rfl, trivial⟩
 intro i hi
 refine ag ?_;refine gQ fun _ O=>?_;refine Z9 ?_;refine Z9 ?_;refine Z6 ?_;refine eQ O ?_;clear O;refine ap rfl (fun hg => ?_) (fun hg => ?_)
 ·have hg : i < n := by simp at hg; omega
  have qb := (oG i hg).ql rfl
  rw [<- hbv] at qb
  have tf : ∀ j, j < i -> ql (LL B i j * fwv (LL B) bv j) <= 720896 := fun j hj => Nat.le_trans (aC (qL i j hg hj) (hS1 j (by omega))) (by decide)
  have qx : ∀ k, k <= i -> ql (bv i - sm k fun j => LL B i j * fwv (LL B) bv j) <= 16777215 := fun k hk => Nat.le_trans (mm qb k fun t ht => tf t (by omega)) (by
   have := Nat.mul_le_mul_right (720896 + 1) (show k <= 16 by omega)
   omega)
  refine ak ?_;show AWP _ _ _ _ _ _;refine ag ?_;refine aj ?_;refine gQ fun _ O=>?_;refine Z9 ?_;refine Z9 ?_;refine ab rfl (x_v rfl rfl rfl rfl rfl hg) rfl ?_;refine Z7 ?_;refine ar rfl rfl rfl rfl rfl rfl ?_;refine ah rfl rfl rfl rfl rfl ?_;refine eQ O ?_;clear O;refine ag ?_;refine gQ fun _ O=>?_;refine Z8 ?_;refine eQ O ?_;clear O
  obtain ⟨sf, hsf⟩ : ∃ sf, sf = sw (G i) (bv i) fun j => LL B i j * fwv (LL B) bv j := ⟨_, rfl⟩
  have sf0 : sf 0 = G i := by rw [hsf]; rfl
  have sf1 : ∀ k, sf (k + 1) = qzW (bv i - sm (k + 1) fun j => LL B i j * fwv (LL B) bv j) := fun k => by rw [hsf]; rfl
  have sfv : ∀ k, (sf k).v = bv i - sm k fun j => LL B i j * fwv (LL B) bv j := fun k => by rw [hsf]; exact EG (hbv i).symm k
  have sfo : ∀ k, k <= i -> (sf k).OK 16777215 := fun k hk => by rw [hsf]; exact CW ((oG i hg).mono rfl) (qx k hk)
  clear hsf;refine aj (aI (α := Nat) (fun k => mk 130 [(1, V1 (dRs (cS n G))), (6, V1 (dMs (ju B n))), (7, V1 (dRs (le B n))), (9, dI n), (10, .val (.one (.own 42 4 0 n))), (11, dI i), (12, .ptr 12 0), (13, dI k)] [(12, some (.box (sf k).cs)), (42, some (.arr 4 (bd n (tl B bv i))))] []) (fun k => k <= i) (fun k => i - k) 0 ?_ (Nat.zero_le _) ?_)
  ·refine Wk.mk' ⟨rfl, rfl, rfl, rfl, rfl, rfl, rfl, rfl, trivial⟩ ⟨?_, rfl, trivial⟩;rw [sf0]; rfl
  intro k hk
  refine ag ?_;refine gQ fun _ O=>?_;refine Z9 ?_;refine Z9 ?_;refine Z6 ?_;refine eQ O ?_;clear O;refine ap rfl (fun hf => ?_) (fun hf => ?_)
  ·have hf : k < i := by simp at hf; omega
   have c1 := dw (qzW (LL B i k)) (qzW (fwv (LL B) bv k)) (LL B i k * fwv (LL B) bv k) ((aD (qL i k hg hf)).mono rfl) ((aD (hS1 k (by omega))).mono rfl) (by rw [aR, aR])
   have c2 := ig (sf k) (qzW (LL B i k * fwv (LL B) bv k)) (bv i - sm (k + 1) fun j => LL B i j * fwv (LL B) bv j) (sfo k hk) ((aD (tf k hf)).mono rfl) (by rw [sfv, aR]; exact iN _ _ _ rfl)
   rw [<- sf1] at c2;refine ak ?_;show AWP _ _ _ _ _ _;refine ag ?_;refine aj ?_;refine bb tok mixed (A := [[], [], [], [], [1, 2], [], [1, 2, 3], [1, 2, 3, 4, 5], [], [], [], [8, 9], [1, 2, 3, 4, 5, 6, 8, 9, 10], [1, 2, 3, 4, 5, 6, 7, 8, 9, 10, 11], []]) (an := [{}, {}, {}, {}, {}, {}, {}, {}, {}, {}, {}, {}, {}, {}, {}]) rfl (by kernel_rfl) rfl fun _ O=>?_;refine Z7 ?_;refine Z9 ?_;refine Z9 ?_;refine ab rfl (nY rfl rfl rfl rfl rfl hg) rfl ?_;refine Z7 ?_;refine Z9 ?_;refine ab rfl (x_v rfl rfl rfl rfl rfl (show k < n by omega)) rfl ?_;refine Z7 ?_;refine Z9 ?_;refine Z9 ?_;refine ab rfl (x_o (i := k) (j := k) rfl rfl rfl rfl rfl (show k < n by omega) (Nat.zero_add _)) rfl ?_;refine aQ rfl (jR (x := qzW (fwv (LL B) bv k)) rfl rfl rfl rfl (show k < n by omega) (if_pos hf)) rfl ?_;refine ac rfl rfl (c1) rfl rfl rfl rfl ?_;refine ac rfl rfl (c2) rfl rfl rfl rfl ?_;refine ah rfl rfl rfl rfl rfl ?_;refine eQ O ?_;clear O;show AWP _ _ _ _ _ _;refine gR fun _ O=>?_;refine Z9 ?_;refine au rfl (aE (c := ((k + 1 : Nat) : Int)) (by omega) (by omega)) rfl ?_;refine Z8 ?_;refine eQ O ?_;clear O;exact ⟨k + 1, by omega, hf, Wk.mk' ⟨rfl, rfl, rfl, rfl, rfl, rfl, rfl, rfl, trivial⟩ ⟨rfl, rfl, trivial⟩⟩
  have hf : k = i := by simp at hf; omega
  subst hf
  refine aA ?_;show AWP _ _ _ _ _ _
  have c3 := mg (sf k) ((sfo k hk).mono rfl)
  rw [sfv, <- tk] at c3;refine gR fun _ O=>?_;refine Z9 ?_;refine Z9 ?_;refine Z7 ?_;refine ac rfl rfl (c3) rfl rfl rfl rfl ?_;refine ab rfl (x_o (i := k) (j := k) rfl rfl rfl rfl rfl hg (Nat.zero_add _)) rfl ?_;refine ah rfl (mT (qzW (fwv (LL B) bv k)) rfl rfl rfl hg) rfl rfl rfl ?_;refine eQ O ?_;clear O;rw [fg1];show AWP _ _ _ _ _ _;refine gR fun _ O=>?_;refine Z9 ?_;refine au rfl (aE (c := ((k + 1 : Nat) : Int)) (by omega) (by omega)) rfl ?_;refine Z8 ?_;refine eQ O ?_;clear O;exact ⟨k + 1, by omega, hg, Wk.mk' ⟨rfl, rfl, rfl, rfl, rfl, rfl, trivial⟩ ⟨rfl, trivial⟩⟩
 have hg : i = n := by simp at hg; omega
 subst hg
 refine aA ?_;show AWP _ _ _ _ _ _;rw [fg2];refine ag ?_;refine gQ fun _ O=>?_;refine Z8 ?_;refine eQ O ?_;clear O;refine aj (aI (α := Nat) (fun k => mk 130 [(6, V1 (dMs (ju B i))), (7, V1 (dRs (le B i))), (9, dI i), (10, .val (.one (.own 42 4 0 i))), (14, dI k)] [(42, some (.arr 4 (bd i (dvG B bv k))))] []) (fun k => k <= i) (fun k => i - k) 0 ?_ (Nat.zero_le _) ?_)
 ·exact Wk.mk' ⟨rfl, rfl, rfl, rfl, rfl, trivial⟩ ⟨rfl, trivial⟩
 intro k hk
 refine ag ?_;refine gQ fun _ O=>?_;refine Z9 ?_;refine Z9 ?_;refine Z6 ?_;refine eQ O ?_;clear O;refine ap rfl (fun hf => ?_) (fun hf => ?_)
 ·have hf : k < i := by simp at hf; omega
  have dk := hD k hf
  have cd := wX (qzW (fwv (LL B) bv k)) (qzW (DD B k)) (fwv (LL B) bv k / DD B k) ((aD (hS1 k hf)).mono rfl) ((aD (qD k hf)).mono rfl) (by rw [aR]; grind) (by rw [aR, aR])
  refine ak ?_;show AWP _ _ _ _ _ _;refine ag ?_;refine aj ?_;refine bb tok mixed (A := [[], [], [], [], [], [2, 3], [], [], [], [6, 7], [2, 3, 4, 6, 7, 8], [2, 3, 4, 5, 6, 7, 8, 9], [2, 3, 4, 5, 6, 7, 8, 9, 10], [2, 3, 4, 5, 6, 7, 8, 9, 10], [], []]) (an := [{}, {}, {}, {}, {}, {}, {}, {}, {}, {}, {}, {}, {}, {}, {}, {}]) rfl (by kernel_rfl) rfl fun _ O=>?_;refine Z9 ?_;refine Z9 ?_;refine Z9 ?_;refine Z9 ?_;refine ab rfl (x_o (i := k) (j := k) rfl rfl rfl rfl rfl hf (Nat.zero_add _)) rfl ?_;refine aQ rfl (jR (x := qzW (fwv (LL B) bv k)) rfl rfl rfl rfl hf (if_neg (Nat.lt_irrefl k))) rfl ?_;refine Z9 ?_;refine Z9 ?_;refine ab rfl (x_v rfl rfl rfl rfl rfl hf) rfl ?_;refine Z7 ?_;refine ac rfl rfl (cd) rfl rfl rfl rfl ?_;refine Z9 ?_;refine am rfl rfl rfl ?_;refine am rfl rfl rfl ?_;refine ab rfl (x_o (i := k) (j := k) rfl rfl rfl rfl rfl hf (Nat.zero_add _)) rfl ?_;refine ah rfl (mT (qzW (fwv (LL B) bv k / DD B k)) rfl rfl rfl hf) rfl rfl rfl ?_;refine eQ O ?_;clear O;rw [dv1];show AWP _ _ _ _ _ _;refine gR fun _ O=>?_;refine Z9 ?_;refine au rfl (aE (c := ((k + 1 : Nat) : Int)) (by omega) (by omega)) rfl ?_;refine Z8 ?_;refine eQ O ?_;clear O;exact ⟨k + 1, by omega, hf, Wk.mk' ⟨rfl, rfl, rfl, rfl, rfl, trivial⟩ ⟨rfl, trivial⟩⟩
 have hf : k = i := by simp at hf; omega
 subst hf
 refine aA ?_;show AWP _ _ _ _ _ _;rw [bk0]
 have qc : ∀ i, i < k -> ql (fwv (LL B) bv i / DD B i) <= 720896 := fun i hi => rl (hS1 i hi) (qD i hi)
 refine ag ?_;refine gQ fun _ O=>?_;refine Z9 ?_;refine au rfl (ck (c := (k : Int) - 1 - (0 : Nat)) (by omega) (by omega)) rfl ?_;refine Z8 ?_;refine eQ O ?_;clear O;refine aj (aI (α := Nat) (fun s => mk 130 [(6, V1 (dMs (ju B k))), (9, dI k), (10, .val (.one (.own 42 4 0 k))), (15, dI ((k : Int) - 1 - s))] [(42, some (.arr 4 (bd k (bkG B bv k s))))] []) (fun s => s <= k) (fun s => k - s) 0 ?_ (Nat.zero_le _) ?_)
 ·exact Wk.mk' ⟨rfl, rfl, rfl, rfl, trivial⟩ ⟨rfl, trivial⟩
 intro s hs
 refine ag ?_;refine gQ fun _ O=>?_;refine Z9 ?_;refine Z6 ?_;refine eQ O ?_;clear O;refine ap rfl (fun hd => ?_) (fun hd => ?_)
 ·obtain ⟨j, hj⟩ : ∃ j, k = j + s + 1 := ⟨k - s - 1, by simp at hd; omega⟩
  have hjk : j < k := by omega
  have ej : (k : Int) - 1 - s = (j : Int) := by omega
  rw [ej, bk1 B bv hj]
  have tg : ∀ t, t < k -> ql (bkF B bv k j t) <= 131072 := fun t ht => by
   simp only [bkF]; split
   ·exact Nat.le_trans (aC (qL t j ht (by omega)) (hS2 t ht)) (by decide)
   ·exact Nat.le_trans eC (by decide)
  have qx : ∀ p, p <= k -> ql (fwv (LL B) bv j / DD B j - sm p (bkF B bv k j)) <= 16777215 := fun p hp => Nat.le_trans (mm (qc j hjk) p fun t ht => tg t (by omega)) (by
   have := Nat.mul_le_mul_right (131072 + 1) (show p <= 16 by omega)
   omega)
  refine ak ?_;show AWP _ _ _ _ _ _;refine ag ?_;refine aj ?_;refine gQ fun _ O=>?_;refine Z9 ?_;refine au rfl (aE (c := ((j + 1 : Nat) : Int)) (by omega) (by omega)) rfl ?_;refine Z8 ?_;refine eQ O ?_;clear O;refine aj (aI (α := Nat) (fun p => mk 130 [(6, V1 (dMs (ju B k))), (9, dI k), (10, .val (.one (.own 42 4 0 k))), (15, dI j), (16, dI p)] [(42, some (.arr 4 (bd k (bkR B bv k j p))))] []) (fun p => j + 1 <= p /\ p <= k) (fun p => k - p) (j + 1) ?_ ⟨Nat.le_refl _, hjk⟩ ?_)
  ·exact Wk.mk' ⟨rfl, rfl, rfl, rfl, rfl, trivial⟩ ⟨rfl, trivial⟩
  rintro p ⟨hp1, hp2⟩
  refine ag ?_;refine gQ fun _ O=>?_;refine Z9 ?_;refine Z9 ?_;refine Z6 ?_;refine eQ O ?_;clear O;refine ap rfl (fun hx => ?_) (fun hx => ?_)
  ·have hx : p < k := by simp at hx; omega
   have c1 := dw (qzW (LL B p j)) (qzW (slv B bv k p)) (LL B p j * slv B bv k p) ((aD (qL p j hx (by omega))).mono rfl) ((aD (hS2 p hx)).mono rfl) (by rw [aR, aR])
   have c2 := ig (qzW (fwv (LL B) bv j / DD B j - sm p (bkF B bv k j))) (qzW (LL B p j * slv B bv k p)) (fwv (LL B) bv j / DD B j - sm (p + 1) (bkF B bv k j)) (aD (qx p hp2)) ((aD (aC (qL p j hx (by omega)) (hS2 p hx))).mono rfl) (by rw [aR, aR]; exact iN _ _ _ (if_pos (by omega)))
   refine ak ?_;show AWP _ _ _ _ _ _;refine ag ?_;refine aj ?_;refine bb tok mixed (A := [[], [], [], [], [], [2, 3], [], [], [], [6, 7], [], [6, 7, 8], [6, 7, 8, 9, 10], [], [], [], [13, 14], [6, 7, 8, 9, 10, 11, 13, 14, 15], [2, 3, 4, 6, 7, 8, 9, 10, 11, 12, 13, 14, 15, 16], [], []]) (an := [{}, {}, {}, {}, {}, {}, {}, {}, {}, {}, {}, {}, {}, {}, {}, {}, {}, {}, {}, {}, {}]) rfl (by kernel_rfl) rfl fun _ O=>?_;refine Z9 ?_;refine Z9 ?_;refine Z9 ?_;refine Z9 ?_;refine ab rfl (x_o (i := j) (j := j) rfl rfl rfl rfl rfl hjk (Nat.zero_add _)) rfl ?_;refine aQ rfl (jR (x := qzW (fwv (LL B) bv j / DD B j - sm p (bkF B bv k j))) rfl rfl rfl rfl hjk (by simp [bkR])) rfl ?_;refine Z9 ?_;refine Z9 ?_;refine ab rfl (nY rfl rfl rfl rfl rfl hx) rfl ?_;refine Z7 ?_;refine Z9 ?_;refine ab rfl (x_v rfl rfl rfl rfl rfl hjk) rfl ?_;refine Z7 ?_;refine Z9 ?_;refine Z9 ?_;refine ab rfl (x_o (i := p) (j := p) rfl rfl rfl rfl rfl hx (Nat.zero_add _)) rfl ?_;refine aQ rfl (jR (x := qzW (slv B bv k p)) rfl rfl rfl rfl hx (if_pos (by omega))) rfl ?_;refine ac rfl rfl (c1) rfl rfl rfl rfl ?_;refine ac rfl rfl (c2) rfl rfl rfl rfl ?_;refine ab rfl (x_o (i := j) (j := j) rfl rfl rfl rfl rfl hjk (Nat.zero_add _)) rfl ?_;refine ah rfl (mT (qzW (fwv (LL B) bv j / DD B j - sm (p + 1) (bkF B bv k j))) rfl rfl rfl hjk) rfl rfl rfl ?_;refine eQ O ?_;clear O;rw [bk2];show AWP _ _ _ _ _ _;refine gR fun _ O=>?_;refine Z9 ?_;refine au rfl (aE (c := ((p + 1 : Nat) : Int)) (by omega) (by omega)) rfl ?_;refine Z8 ?_;refine eQ O ?_;clear O;exact ⟨p + 1, by omega, ⟨by omega, hx⟩, Wk.mk' ⟨rfl, rfl, rfl, rfl, rfl, trivial⟩ ⟨rfl, trivial⟩⟩
  have hx : p = k := by simp at hx; omega
  subst hx
  refine aA ?_;show AWP _ _ _ _ _ _;rw [bk3 B bv hj];refine gR fun _ O=>?_;refine Z9 ?_;refine au rfl (ck (c := (p : Int) - 1 - (s + 1 : Nat)) (by omega) (by omega)) rfl ?_;refine Z8 ?_;refine eQ O ?_;clear O;exact ⟨s + 1, by omega, by omega, Wk.mk' ⟨rfl, rfl, rfl, rfl, trivial⟩ ⟨rfl, trivial⟩⟩
 have hd : s = k := by simp at hd; omega
 subst hd
 refine aA ?_;show AWP _ _ _ _ _ _;rw [bk4];refine cQ [10] [42] 42 [(10, V1 (dRs (gV B bv s)))] [] rfl ?_ trivial ?_
 ·exact ⟨bz (jz _ _).symm (by simp [gV, cS]), trivial⟩
 rw [if_pos rfl];refine gQ fun _ O=>?_;refine Z9 ?_;refine Z8 ?_;refine Z8 ?_;refine eQ O ?_;clear O;exact al aP
end Go.Proofs.YtfichkokppbipaaGreatDoor
