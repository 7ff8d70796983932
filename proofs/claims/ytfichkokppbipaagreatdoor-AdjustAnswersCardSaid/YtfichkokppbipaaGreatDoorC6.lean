/- Part of a proof that a Go function answers true for every input. No condition. -/
import Derived.Test.YtfichkokppbipaaGreatDoorC5
set_option linter.unusedVariables false
set_option linter.unusedSimpArgs false
set_option linter.unusedSectionVars false
/- ref31: Minimum, Least. No condition. -/
namespace Go.Proofs.YtfichkokppbipaaGreatDoor
attribute [local irreducible] aM
open Go.RowKit

theorem Aj {g : GR} (gv : GV g) : lab g 0 = 0 := by
 have n1 := gv.n1
 rw [pP gv]
 unfold qI
 rw [uC _ (show 0 < 1 by omega) n1]
 have hl := lH (kq g) 1
 have h := D8 (kq g) 1
 obtain ⟨L, hL⟩ : ∃ L, L = (num (kq g) 1).1 := ⟨_, rfl⟩
 rw [<- hL] at hl h ⊢
 have := h (L.getD 0 0) (by rw [dh (show 0 < L.length by omega)]; exact List.getElem_mem _)
 omega
theorem Et {g : GR} (gv : GV g) : cnB g = true ↔ ∀ v, v < (d8 g).1.length -> (d8 g).1.getD v 0 = 0 := by
 rw [mp gv]
 unfold cnB
 rw [decide_eq_true_eq, Aj gv]
 rfl

set_option maxHeartbeats 1000000 in
theorem zu (g : GR) (hl : g.links.length <= 9223372036854775806) (ok : ∀ r ∈ g.nodes, r.OK 4096) (hs : bQ g = true -> SM g) : Con Tryz.prog 18 [AG g.cs] { v := .tup [.one (.d (dSs (minV g).1)), .one (.d (lI (minV g).2))] } := by
 have cP := vB g hl
 have cNo := ul g ok hl
 have cz : Con Tryz.prog 74 [dI 0, dI 1] { v := AG (qzW 0).cs } := em 0 ⟨by decide, by decide⟩
 refine Z3 Tryz.func18 ?_
 intro w0 X
 rw [aq _ _ [(0, AG g.cs)] rfl rfl];refine gQ fun _ O=>?_;refine aF rfl rfl rfl rfl rfl rfl ?_;refine Z8 ?_;refine Z8 ?_;refine eQ O ?_;clear O
 by_cases hv : bQ g = true
 ·have gv := bJ.1 hv
  have S := hs hv
  have NR := sQ gv S
  have n6 := S.n6
  have n1 := gv.n1
  have hcn := Et gv
  have hpl := mp gv
  have eP : (d8 g).2 = 0 := by rw [d8, if_pos hv]
  rw [eP] at cP
  have eN : nrV g = (nmM g, nmX g, nmY g, 0) := by rw [nrV, if_pos hv]; rfl
  rw [eN] at cNo
  have hlX : (nmX g).length = (nmM g).length := by rw [NR.len]; exact jM _ _
  have hlY : (nmY g).length = (nmM g).length := by rw [NR.len]; exact jM _ _
  have cX := uU (nmM g) (nmX g) (by rw [NR.len]; omega) (by rw [hlX, NR.len]; omega) (fun r hr => by rw [NR.rows r hr]; omega) NR.ok (fun x hx => (NR.bx x hx).mono rfl) (fun _ _ => by rw [NR.len]; exact ⟨NR.fac, fun hp => (NR.sol hp).1⟩)
  have cY := uU (nmM g) (nmY g) (by rw [NR.len]; omega) (by rw [hlY, NR.len]; omega) (fun r hr => by rw [NR.rows r hr]; omega) NR.ok (fun x hx => (NR.bY x hx).mono rfl) (fun _ _ => by rw [NR.len]; exact ⟨NR.fac, fun hp => (NR.sol hp).2⟩)
  have eX : dO (nmM g) (nmX g) = if cnB g = true then (gV (ce (nmM g)) (d6 (nmX g)) (g.nodes.length - 1), 0) else ([], 10) := by
   rw [dO, if_pos ⟨NR.val, hlX⟩, NR.len, m0 gv]
  have eY : dO (nmM g) (nmY g) = if cnB g = true then (gV (ce (nmM g)) (d6 (nmY g)) (g.nodes.length - 1), 0) else ([], 10) := by
   rw [dO, if_pos ⟨NR.val, hlY⟩, NR.len, m0 gv]
  rw [eX] at cX;rw [eY] at cY;rw [minV, if_pos hv];generalize (d8 g).1 = P at cP hcn hpl;refine gQ fun _ O=>?_;refine Z7 ?_;refine ac rfl rfl (cP) rfl rfl rfl rfl ?_;refine Z9 ?_;refine am rfl rfl rfl ?_;refine am rfl rfl rfl ?_;refine Z8 ?_;refine Z8 ?_;refine eQ O ?_;clear O;refine ag ?_;refine gQ fun _ O=>?_;refine Z9 ?_;refine Z6 ?_;refine eQ O ?_;clear O;refine ap rfl (fun h => by cases h) (fun _ => ?_);refine ak ?_;show AWP _ _ _ _ _ _;refine ag ?_;refine gQ fun _ O=>?_;refine Z8 ?_;refine eQ O ?_;clear O;refine aj (aI (α := Nat) (fun i => mk 84 [(1, .ptr 1 0), (4, V1 (dNs P)), (6, dI i)] [(1, some (.box g.cs))] []) (fun i => i <= P.length /\ ∀ v, v < i -> P.getD v 0 = 0) (fun i => P.length - i) 0 ?_ ⟨Nat.zero_le _, fun _ h => by omega⟩ ?_)
  ·exact Wk.mk' ⟨rfl, rfl, rfl, trivial⟩ ⟨rfl, trivial⟩
  rintro i ⟨hi, hI⟩
  refine ag ?_;refine gQ fun _ O=>?_;refine Z9 ?_;refine Z9 ?_;refine az rfl (a8 cN rfl rfl) rfl ?_;refine Z6 ?_;refine eQ O ?_;clear O;refine ap rfl (fun hg => ?_) (fun hg => ?_)
  ·have hg : i < P.length := by simp at hg; omega
   refine ak ?_;show AWP _ _ _ _ _ _;refine ag ?_;refine aj ?_;refine gQ fun _ O=>?_;refine Z9 ?_;refine Z9 ?_;refine ab rfl (x_N rfl rfl rfl rfl rfl hg) rfl ?_;refine Z7 ?_;refine Z6 ?_;refine eQ O ?_;clear O;refine ap rfl (fun hd => ?_) (fun hd => ?_)
   ·have hne : P.getD i 0 ≠ 0 := fun e => by rw [e] at hd; cases hd
    have hc : ¬ cnB g = true := fun h => hne (hcn.1 h i hg)
    rw [if_neg hc];refine gQ fun _ O=>?_;refine Z8 ?_;refine Z8 ?_;refine eQ O ?_;clear O;exact al aP
   ·have he : P.getD i 0 = 0 := by
     have : ¬ ((P.getD i 0 : Nat) : Int) ≠ 0 := by
      intro h
      have h2 : (((P.getD i 0 : Nat) : Int) != 0) = true := by rw [bne_iff_ne]; exact h
      exact absurd (h2.symm.trans hd) (by decide)
     omega
    refine ak ?_;show AWP _ _ _ _ _ _;refine gR fun _ O=>?_;refine Z9 ?_;refine au rfl (aE (c := ((i + 1 : Nat) : Int)) (by omega) (by omega)) rfl ?_;refine Z8 ?_;refine eQ O ?_;clear O;refine ⟨i + 1, by omega, ⟨hg, fun v hv => ?_⟩, Wk.mk' ⟨rfl, rfl, rfl, trivial⟩ ⟨rfl, trivial⟩⟩
    by_cases e : v = i
    ·subst e; exact he
    ·exact hI v (by omega)
  have hg : i = P.length := by simp at hg; omega
  have hc : cnB g = true := hcn.2 fun v hv => hI v (by omega)
  rw [if_pos hc] at cX cY;rw [if_pos hc];refine aA ?_;show AWP _ _ _ _ _ _
  have aX : ∀ i, i < g.nodes.length - 1 -> (gV (ce (nmM g)) (d6 (nmX g)) (g.nodes.length - 1))[i]? = some (qzW (mnX g (i + 1))) := fun i hi => by
   unfold gV cS; rw [List.getElem?_map, List.getElem?_range hi]; rfl
  have aY : ∀ i, i < g.nodes.length - 1 -> (gV (ce (nmM g)) (d6 (nmY g)) (g.nodes.length - 1))[i]? = some (qzW (mnY g (i + 1))) := fun i hi => by
   unfold gV cS; rw [List.getElem?_map, List.getElem?_range hi]; rfl
  have bX : (gV (ce (nmM g)) (d6 (nmX g)) (g.nodes.length - 1)).length = g.nodes.length - 1 := eK _ _
  have bY : (gV (ce (nmM g)) (d6 (nmY g)) (g.nodes.length - 1)).length = g.nodes.length - 1 := eK _ _
  have e0 := xg g
  have en : mnL g = (List.range (g.nodes.length - 1 + 1)).map fun v => szW (mnX g v) (mnY g v) := by
   unfold mnL; rw [<- xo gv]
  have hm : g.nodes.length - 1 <= 5 := by omega
  rw [en];generalize gV (ce (nmM g)) (d6 (nmX g)) (g.nodes.length - 1) = LX at cX aX bX;generalize gV (ce (nmM g)) (d6 (nmY g)) (g.nodes.length - 1) = LY at cY aY bY;generalize nmM g = M at cNo cX cY;generalize nmX g = BX at cNo cX;generalize nmY g = BY at cNo cY;generalize mnX g = x at aX e0 ⊢;generalize mnY g = y at aY e0 ⊢;generalize g.nodes.length - 1 = m at aX aY bX bY hm ⊢;refine gQ fun _ O=>?_;refine Z7 ?_;refine ac rfl rfl (cNo) rfl rfl rfl rfl ?_;refine Z9 ?_;refine am rfl rfl rfl ?_;refine am rfl rfl rfl ?_;refine am rfl rfl rfl ?_;refine am rfl rfl rfl ?_;refine Z8 ?_;refine Z8 ?_;refine Z8 ?_;refine Z8 ?_;refine eQ O ?_;clear O;refine gQ fun _ O=>?_;refine Z9 ?_;refine Z9 ?_;refine ac rfl rfl (cX) rfl rfl rfl rfl ?_;refine Z9 ?_;refine am rfl rfl rfl ?_;refine am rfl rfl rfl ?_;refine Z8 ?_;refine Z8 ?_;refine eQ O ?_;clear O;refine ag ?_;refine gQ fun _ O=>?_;refine Z9 ?_;refine Z6 ?_;refine eQ O ?_;clear O;refine ap rfl (fun h => by cases h) (fun _ => ?_);refine ak ?_;show AWP _ _ _ _ _ _;refine gQ fun _ O=>?_;refine Z9 ?_;refine Z9 ?_;refine ac rfl rfl (cY) rfl rfl rfl rfl ?_;refine Z9 ?_;refine am rfl rfl rfl ?_;refine am rfl rfl rfl ?_;refine Z8 ?_;refine Z8 ?_;refine eQ O ?_;clear O;refine ag ?_;refine gQ fun _ O=>?_;refine Z9 ?_;refine Z6 ?_;refine eQ O ?_;clear O;refine ap rfl (fun h => by cases h) (fun _ => ?_);refine ak ?_;show AWP _ _ _ _ _ _;refine gQ fun _ O=>?_;refine ac rfl rfl (cz) rfl rfl rfl rfl ?_;refine ar rfl rfl rfl rfl rfl rfl ?_;refine ah rfl rfl rfl rfl rfl ?_;refine eQ O ?_;clear O;refine gQ fun _ O=>?_;refine Z7 ?_;refine Z7 ?_;refine aL rfl rfl rfl ?_;refine aw rfl rfl rfl rfl ?_;refine Z8 ?_;refine eQ O ?_;clear O;refine ag ?_;refine gQ fun _ O=>?_;refine Z8 ?_;refine eQ O ?_;clear O;refine aj (aI (α := Nat) (fun i => mk 84 [(11, V1 (dRs LX)), (12, V1 (dRs LY)), (14, .val (.one (.own 64 8 0 (i + 1)))), (15, dI i)] [(64, some (.arr 8 ((List.range (i + 1)).map fun v => (szW (x v) (y v)).dc)))] []) (fun i => i <= m) (fun i => m - i) 0 ?_ (Nat.zero_le _) ?_)
  ·refine Wk.mk' ⟨rfl, rfl, rfl, rfl, trivial⟩ ⟨?_, trivial⟩
   show _ = some (OO.arr 8 [(szW (x 0) (y 0)).dc])
   rw [e0.1, e0.2]; rfl
  intro i hi
  refine ag ?_;refine gQ fun _ O=>?_;refine Z9 ?_;refine Z9 ?_;refine az rfl (a8 RW.dc rfl rfl) rfl ?_;refine Z6 ?_;refine eQ O ?_;clear O;refine ap rfl (fun hg => ?_) (fun hg => ?_)
  ·have hg : i < m := by simp at hg; omega
   have g1 : i < LX.length := by omega
   have g2 : i < LY.length := by omega
   have a1 : LX[i] = qzW (x (i + 1)) := by have := aX i hg; rw [List.getElem?_eq_getElem g1] at this; exact Option.some.inj this
   have a2 : LY[i] = qzW (y (i + 1)) := by have := aY i hg; rw [List.getElem?_eq_getElem g2] at this; exact Option.some.inj this
   have n1 : ((List.range (i + 1)).map fun v => (szW (x v) (y v)).dc) ++ [(SP.mk LX[i] LY[i]).dc] = (List.range (i + 1 + 1)).map fun v => (szW (x v) (y v)).dc := by
    rw [a1, a2, List.range_succ (n := i + 1), List.map_append]; rfl
   have z1 : ((List.range (i + 1)).map fun v => (szW (x v) (y v)).dc).length = i + 1 := by simp
   generalize ((List.range (i + 1)).map fun v => (szW (x v) (y v)).dc) = es at n1 z1 ⊢;refine ak ?_;show AWP _ _ _ _ _ _;refine ag ?_;refine aj ?_;refine bb tok mixed (A := [[], [], [], [], [1, 2], [], [], [], [5, 6], [1, 2, 3, 5, 6, 7], [1, 2, 3, 4, 5, 6, 7, 8], [1, 2, 3, 4, 5, 6, 7, 8, 9], []]) (an := [{}, {}, {}, {}, {}, {}, {}, {}, {}, {}, {}, {}, {}]) rfl (by kernel_rfl) rfl fun _ O=>?_;refine Z9 ?_;refine Z9 ?_;refine Z9 ?_;refine ab rfl (x_m RW.dc rfl rfl rfl rfl g1 rfl) rfl ?_;refine Z7 ?_;refine Z9 ?_;refine Z9 ?_;refine ab rfl (x_m RW.dc rfl rfl rfl rfl g2 rfl) rfl ?_;refine Z7 ?_;refine aL rfl rfl rfl ?_;refine aw rfl rfl rfl rfl ?_;refine aO rfl (eI rfl rfl rfl rfl rfl rfl (by decide) (Nat.le_of_ble_eq_true rfl) rfl (by simp) rfl rfl z1.symm (by simp <;> omega)) rfl rfl rfl ?_;refine Z8 ?_;refine eQ O ?_;clear O;show AWP _ _ _ _ _ _;refine gR fun _ O=>?_;refine Z9 ?_;refine au rfl (aE (c := ((i + 1 : Nat) : Int)) (by omega) (by omega)) rfl ?_;refine Z8 ?_;refine eQ O ?_;clear O;refine ⟨i + 1, by omega, hg, Wk.rn [11, 12, 14, 15] [82] 82 64 rfl rfl rfl ⟨rfl, rfl, ?_, rfl, trivial⟩ ⟨?_, trivial⟩⟩
   ·show SV.val (.one (.own 64 8 0 _)) = _
    rw [List.length_append, z1]; rfl
   ·rw [<- n1]; rfl
  have hg : i = m := by simp at hg; omega
  subst hg
  refine aA ?_;show AWP _ _ _ _ _ _;refine cQ [14] [64] 64 [(14, V1 (dSs ((List.range (i + 1)).map fun v => szW (x v) (y v))))] [] rfl ?_ trivial ?_
  ·exact ⟨bz (by rw [List.map_map]; rfl) (by simp), trivial⟩
  refine gQ fun _ O=>?_;refine Z9 ?_;refine Z8 ?_;refine Z8 ?_;refine eQ O ?_;clear O;exact al aP
 ·have eP : d8 g = ([], 1) := by rw [d8, if_neg hv]
  rw [eP] at cP;rw [minV, if_neg hv];refine gQ fun _ O=>?_;refine Z7 ?_;refine ac rfl rfl (cP) rfl rfl rfl rfl ?_;refine Z9 ?_;refine am rfl rfl rfl ?_;refine am rfl rfl rfl ?_;refine Z8 ?_;refine Z8 ?_;refine eQ O ?_;clear O;refine ag ?_;refine gQ fun _ O=>?_;refine Z9 ?_;refine Z6 ?_;refine eQ O ?_;clear O;refine ap rfl (fun _ => ?_) (fun h => by cases h);refine gQ fun _ O=>?_;refine Z9 ?_;refine Z8 ?_;refine Z8 ?_;refine eQ O ?_;clear O;exact al aP

theorem DQ (g : GR) (hl : g.links.length <= 9223372036854775806) (ok : ∀ r ∈ g.nodes, r.OK 4096) (hs : bQ g = true -> SM g) : Con Tryz.prog 20 [AG g.cs] { v := .tup [.agg (lstV g).1.cs, .one (.d (lI (lstV g).2))] } := by
 have cM := zu g hl ok hs
 refine Z3 Tryz.func20 ?_
 intro w0 X
 rw [aq _ _ [(0, AG g.cs)] rfl rfl];refine gQ fun _ O=>?_;refine aF rfl rfl rfl rfl rfl rfl ?_;refine ar rfl rfl rfl rfl rfl rfl ?_;refine Z8 ?_;refine eQ O ?_;clear O
 by_cases hv : bQ g = true
 ·have gv := bJ.1 hv
  rw [minV, if_pos hv] at cM;rw [lstV, if_pos hv]
  by_cases hc : cnB g = true
  ·rw [if_pos hc] at cM;rw [if_pos hc]
   have cC := x8 g (mnL g) ok (fun p hp => (xi gv (hs hv) hc p hp).mono rfl) hl
   have e : hZ g (mnL g) = (qzW (lsQ g), 0) := by
    rw [hZ, if_pos (cK.2 ⟨gv, jO g⟩), A3 gv]
   rw [e] at cC;generalize mnL g = s at cM cC;refine gQ fun _ O=>?_;refine Z7 ?_;refine ac rfl rfl (cM) rfl rfl rfl rfl ?_;refine Z9 ?_;refine am rfl rfl rfl ?_;refine am rfl rfl rfl ?_;refine Z8 ?_;refine Z8 ?_;refine eQ O ?_;clear O;refine ag ?_;refine gQ fun _ O=>?_;refine Z9 ?_;refine Z6 ?_;refine eQ O ?_;clear O;refine ap rfl (fun h => by cases h) (fun _ => ?_);refine ak ?_;show AWP _ _ _ _ _ _;refine gQ fun _ O=>?_;refine Z7 ?_;refine Z9 ?_;refine ac rfl rfl (cC) rfl rfl rfl rfl ?_;refine am rfl rfl rfl ?_;refine am rfl rfl rfl ?_;refine ah rfl rfl rfl rfl rfl ?_;refine Z8 ?_;refine eQ O ?_;clear O;exact al aP
  ·rw [if_neg hc] at cM;rw [if_neg hc];refine gQ fun _ O=>?_;refine Z7 ?_;refine ac rfl rfl (cM) rfl rfl rfl rfl ?_;refine Z9 ?_;refine am rfl rfl rfl ?_;refine am rfl rfl rfl ?_;refine Z8 ?_;refine Z8 ?_;refine eQ O ?_;clear O;refine ag ?_;refine gQ fun _ O=>?_;refine Z9 ?_;refine Z6 ?_;refine eQ O ?_;clear O;refine ap rfl (fun _ => ?_) (fun h => by cases h);refine gQ fun _ O=>?_;refine aL rfl rfl rfl ?_;refine Z9 ?_;refine ah rfl rfl rfl rfl rfl ?_;refine Z8 ?_;refine eQ O ?_;clear O;exact al aP
 ·rw [minV, if_neg hv] at cM;rw [lstV, if_neg hv];refine gQ fun _ O=>?_;refine Z7 ?_;refine ac rfl rfl (cM) rfl rfl rfl rfl ?_;refine Z9 ?_;refine am rfl rfl rfl ?_;refine am rfl rfl rfl ?_;refine Z8 ?_;refine Z8 ?_;refine eQ O ?_;clear O;refine ag ?_;refine gQ fun _ O=>?_;refine Z9 ?_;refine Z6 ?_;refine eQ O ?_;clear O;refine ap rfl (fun _ => ?_) (fun h => by cases h);refine gQ fun _ O=>?_;refine aL rfl rfl rfl ?_;refine Z9 ?_;refine ah rfl rfl rfl rfl rfl ?_;refine Z8 ?_;refine eQ O ?_;clear O;exact al aP
end Go.Proofs.YtfichkokppbipaaGreatDoor

/- ref31: Gradient, Worst. No condition. -/
namespace Go.Proofs.YtfichkokppbipaaGreatDoor
attribute [local irreducible] aM
open Go.RowKit

theorem v6 {T : Tab} {t : TypeId} {a b : Int} {c : Bool} (h : (a == b) = c) : ba T .eql t (dI a) (dI b) = .set (dB c) := by subst h; rfl
def sgnL (l : LK) (i : Nat) : Int := if l.f = i then -l.w else if l.t = i then l.w else 0
theorem DF {g : GR} {l : LK} {i : Nat} (lv : LV g.nodes.length l) : ((sgnL l i : Int) : Rat) = ((l.w : Int) : Rat) * (dl l.t.toNat i - dl l.f.toNat i) := by
 obtain ⟨a, b, ha, hb, e1, e2, hne⟩ := lv.lt
 unfold sgnL dl
 have e : ((-l.w : Int) : Rat) = -((l.w : Int) : Rat) := Rat.intCast_neg _
 by_cases h1 : l.f = i
 ·rw [if_pos h1, e, if_neg (show ¬ i = l.t.toNat by omega), if_pos (show i = l.f.toNat by omega)]; grind
 ·rw [if_neg h1, if_neg (show ¬ i = l.f.toNat by omega)]
  by_cases h2 : l.t = i
  ·rw [if_pos h2, if_pos (show i = l.t.toNat by omega)]; grind
  ·rw [if_neg h2, if_neg (show ¬ i = l.t.toNat by omega)]
   show (0 : Rat) = _
   grind

set_option maxHeartbeats 2000000 in
theorem DR (g : GR) (s : List SP) (hl : g.links.length <= 9223372036854775806) (ok : ∀ r ∈ g.nodes, r.OK 4096) (os : ∀ p ∈ s, p.OK 4096) : Con Tryz.prog 22 [AG g.cs, V1 (dSs s)] { v := .tup [.one (.d (dSs (grdV g s).1)), .one (.d (lI (grdV g s).2))] } := by
 have cz : Con Tryz.prog 74 [dI 0, dI 1] { v := AG (qzW 0).cs } := em 0 ⟨by decide, by decide⟩
 refine Z3 Tryz.func22 ?_
 intro w0 X
 rw [aq _ _ [(0, AG g.cs), (1, V1 (dSs s))] rfl rfl];refine gQ fun _ O=>?_;refine aF rfl rfl rfl rfl rfl rfl ?_;refine Z8 ?_;refine Z8 ?_;refine eQ O ?_;clear O;refine ag ?_;refine aT (α := Bool) (fun c => mk 91 [(1, V1 (dSs s)), (2, .ptr 2 0), (26, dB c)] [(2, some (.box g.cs))] []) (fun c => c = !(dq g s)) ?_ ?_
 ·refine bO fun _ O=>?_;refine aa tok rfl ?_;refine Z7 ?_;refine ae ?_;refine aa tok rfl ?_;refine ac rfl rfl (eH g hl) rfl rfl rfl rfl ?_;refine ae ?_;refine aa tok rfl ?_;refine dz rfl rfl rfl ?_;refine ae ?_;refine aa tok rfl ?_;refine Z9 ?_;refine ae ?_;refine aV (fun h0 => ?_) (fun h0 => ?_)
  ·refine ai rfl rfl ?_;refine ai rfl rfl ?_;refine ai rfl rfl ?_;refine ai rfl rfl ?_;refine ai rfl rfl ?_;refine ai rfl rfl ?_;refine aa tok rfl ?_;refine Z4 ?_;refine ae ?_;refine aW rfl (O _ ?_); clear O;exact ⟨_, (by simp only [Bool.not_eq_true', Bool.not_eq_false'] at h0; simp only [dq, h0, Bool.false_and, Bool.true_and, Bool.not_false, ky]; try (rw [Bool.eq_iff_iff]; simp only [decide_eq_true_eq, Bool.not_eq_true', decide_eq_false_iff_not]; omega)), Wk.mk' ⟨rfl, rfl, rfl, trivial⟩ ⟨rfl, trivial⟩⟩
  ·refine aa tok rfl ?_;refine Z9 ?_;refine ae ?_;refine aa tok rfl ?_;refine az rfl (a8 SP.dc rfl rfl) rfl ?_;refine ae ?_;refine aa tok rfl ?_;refine Z5 ?_;refine ae ?_;refine aa tok rfl ?_;refine Z7 ?_;refine ae ?_;refine aa tok rfl ?_;refine az rfl (a8 RW.dc rfl rfl) rfl ?_;refine ae ?_;refine aa tok rfl ?_;refine Z6 ?_;refine ae ?_;refine aa tok rfl ?_;refine Z4 ?_;refine ae ?_;refine aW rfl (O _ ?_); clear O;exact ⟨_, (by simp only [Bool.not_eq_true', Bool.not_eq_false'] at h0; simp only [dq, h0, Bool.false_and, Bool.true_and, Bool.not_false, ky]; try (rw [Bool.eq_iff_iff]; simp only [decide_eq_true_eq, Bool.not_eq_true', decide_eq_false_iff_not]; omega)), Wk.mk' ⟨rfl, rfl, rfl, trivial⟩ ⟨rfl, trivial⟩⟩
 rintro c rfl
 refine ap rfl (fun hc => ?_) (fun hc => ?_)
 ·rw [Bool.not_eq_true'] at hc
  have e : grdV g s = ([], 1) := by rw [grdV, if_neg (by rw [hc]; simp)]
  rw [e];refine gQ fun _ O=>?_;refine Z8 ?_;refine Z8 ?_;refine eQ O ?_;clear O;exact al aP
 rw [Bool.not_eq_false'] at hc
 have h := cK.1 hc
 have gv := h.gv
 rw [grdV, if_pos hc]
 have hsn := h.hs
 obtain ⟨n, hn⟩ : ∃ n, n = g.nodes.length := ⟨_, rfl⟩
 have eG : Cs g s = (List.range n).map fun v => szW (gd (dX g) (xs s) v g.links) (gd (dY g) (ys s) v g.links) := by rw [hn]; rfl
 have n16 := gv.n2
 have l48 := gv.l
 rw [<- hn] at n16 hsn;rw [eG];refine ak ?_;show AWP _ _ _ _ _ _;refine gQ fun _ O=>?_;refine ac rfl rfl (cz) rfl rfl rfl rfl ?_;refine ar rfl rfl rfl rfl rfl rfl ?_;refine ah rfl rfl rfl rfl rfl ?_;refine eQ O ?_;clear O;refine gQ fun _ O=>?_;refine Z8 ?_;refine eQ O ?_;clear O;refine ag ?_;refine gQ fun _ O=>?_;refine Z8 ?_;refine eQ O ?_;clear O
 obtain ⟨gX, hgX⟩ : ∃ gX : Nat -> Rat, gX = fun v => gd (dX g) (xs s) v g.links := ⟨_, rfl⟩
 obtain ⟨gY, hgY⟩ : ∃ gY : Nat -> Rat, gY = fun v => gd (dY g) (ys s) v g.links := ⟨_, rfl⟩
 have eR : ((List.range n).map fun v => szW (gd (dX g) (xs s) v g.links) (gd (dY g) (ys s) v g.links)) = (List.range n).map fun v => szW (gX v) (gY v) := by rw [hgX, hgY]
 rw [eR];refine aj (aI (α := Nat) (fun i => mk 91 [(1, V1 (dSs s)), (2, .ptr 2 0), (6, .ptr 6 0), (7, bD 200 8 i), (8, dI i)] [(2, some (.box g.cs)), (6, some (.box (qzW 0).cs)), (200, bB 8 (((List.range i).map fun v => szW (gX v) (gY v)).map SP.dc) i)] []) (fun i => i <= n) (fun i => n - i) 0 ?_ (Nat.zero_le _) ?_)
 ·exact Wk.mk' ⟨rfl, rfl, rfl, rfl, rfl, trivial⟩ ⟨rfl, rfl, rfl, trivial⟩
 intro i hi
 refine ag ?_;refine gQ fun _ O=>?_;refine Z9 ?_;refine Z9 ?_;refine az rfl (iS (n := n) rfl rfl (by rw [List.length_map]; exact hsn)) rfl ?_;refine Z6 ?_;refine eQ O ?_;clear O;refine ap rfl (fun hg => ?_) (fun hg => ?_)
 ·have hg : i < n := by simp at hg; omega
  have n1 : (((List.range i).map fun v => szW (gX v) (gY v)).map SP.dc) ++ [(szW (gX i) (gY i)).dc] = ((List.range (i + 1)).map fun v => szW (gX v) (gY v)).map SP.dc := by
   rw [List.range_succ, List.map_append, List.map_append]; rfl
  have z1 : (((List.range i).map fun v => szW (gX v) (gY v)).map SP.dc).length = i := by simp
  generalize ((List.range i).map fun v => szW (gX v) (gY v)).map SP.dc = es at n1 z1 ⊢;refine ak ?_;show AWP _ _ _ _ _ _;refine ag ?_;refine aj ?_;refine gQ fun _ O=>?_;refine Z7 ?_;refine Z7 ?_;refine aL rfl rfl rfl ?_;refine ar rfl rfl rfl rfl rfl (by rcases i with _|i <;> rfl) ?_;refine ah rfl rfl rfl rfl rfl ?_;refine eQ O ?_;clear O;refine ag ?_;refine gQ fun _ O=>?_;refine Z8 ?_;refine eQ O ?_;clear O;refine aj (aI (α := Nat) (fun k => mk 91 [(1, V1 (dSs s)), (2, .ptr 2 0), (6, .ptr 6 0), (7, bD 200 8 i), (8, dI i), (9, .ptr 9 0), (10, dI k)] [(2, some (.box g.cs)), (6, some (.box (qzW 0).cs)), (9, some (.box (szW (gd (dX g) (xs s) i (g.links.take k)) (gd (dY g) (ys s) i (g.links.take k))).cs)), (200, bB 8 es i)] []) (fun k => k <= g.links.length) (fun k => g.links.length - k) 0 ?_ (Nat.zero_le _) ?_)
  ·exact Wk.mk' ⟨rfl, rfl, rfl, rfl, rfl, rfl, rfl, trivial⟩ ⟨rfl, rfl, rfl, rfl, trivial⟩
  intro k hk
  refine ag ?_;refine gQ fun _ O=>?_;refine Z9 ?_;refine Z5 ?_;refine Z7 ?_;refine az rfl (a8 LK.dc rfl rfl) rfl ?_;refine Z6 ?_;refine eQ O ?_;clear O;refine ap rfl (fun hf => ?_) (fun hf => ?_)
  ·have hf : k < g.links.length := by simp at hf; omega
   obtain ⟨l, hl'⟩ : ∃ l, l = g.links[k] := ⟨_, rfl⟩
   have hm : l ∈ g.links := hl' ▸ List.getElem_mem hf
   have lv := gLV gv l hm
   have o := ki h hm ok os
   have cR := i6 g s (k : Int) ok os hl
   have eV : gL g s (k : Int) = (rsG g s l, 0) := by
    rw [gL, if_pos hc, dif_pos ⟨by omega, by simpa using hf⟩];simp only [Int.toNat_natCast, <- hl']
   rw [eV] at cR
   have er1 := (tY (g := g) (s := s) (l := l)).1
   have er2 := (tY (g := g) (s := s) (l := l)).2
   have lw := lv.w
   have is : I64 (sgnL l i) := by
    unfold sgnL
    (repeat' split) <;> exact ⟨by omega, by omega⟩
   have hsg := DF (g := g) (i := i) lv
   have sX := kU (dX g) (xs s) i l (g.links.take k)
   have sY := kU (dY g) (ys s) i l (g.links.take k)
   rw [hl', <- List.take_succ_eq_append_getElem hf, <- hl', <- er1] at sX;rw [hl', <- List.take_succ_eq_append_getElem hf, <- hl', <- er2] at sY
   have bXY := uN h ok os i k hk
   generalize gd (dX g) (xs s) i (g.links.take k) = X at sX bXY ⊢;generalize gd (dY g) (ys s) i (g.links.take k) = Y at sY bXY ⊢
   obtain ⟨X1, hX1⟩ : ∃ X1, X1 = gd (dX g) (xs s) i (g.links.take (k + 1)) := ⟨_, rfl⟩
   obtain ⟨Y1, hY1⟩ : ∃ Y1, Y1 = gd (dY g) (ys s) i (g.links.take (k + 1)) := ⟨_, rfl⟩
   rw [<- hX1] at sX;rw [<- hY1] at sY;generalize rsG g s l = r at cR o sX sY
   have m1 := aC (cb is) (o.qx rfl)
   have m2 := aC (cb is) (o.qy rfl)
   have c1 := em (sgnL l i) is
   have c2 := dw (qzW ((sgnL l i : Int) : Rat)) r.x (((sgnL l i : Int) : Rat) * r.vx) ((aD (cb is)).mono rfl) (o.x.mono rfl) (by rw [aR]; rfl)
   have c3 := jI (qzW X) (qzW (((sgnL l i : Int) : Rat) * r.vx)) X1 (aD (Nat.le_trans bXY.1 (by omega))) ((aD m1).mono rfl) (by rw [aR, aR, hsg, sX]; grind)
   have c4 := dw (qzW ((sgnL l i : Int) : Rat)) r.y (((sgnL l i : Int) : Rat) * r.vy) ((aD (cb is)).mono rfl) (o.y.mono rfl) (by rw [aR]; rfl)
   have c5 := jI (qzW Y) (qzW (((sgnL l i : Int) : Rat) * r.vy)) Y1 (aD (Nat.le_trans bXY.2 (by omega))) ((aD m2).mono rfl) (by rw [aR, aR, hsg, sY]; grind)
   refine ak ?_;show AWP _ _ _ _ _ _;refine ag ?_;refine aj ?_;refine gQ fun _ O=>?_;refine Z5 ?_;refine Z7 ?_;refine Z9 ?_;refine ab rfl (x_m LK.dc rfl rfl rfl rfl hf rfl) rfl ?_;refine Z7 ?_;refine ar rfl rfl rfl rfl rfl (by rcases i with _|i <;> rfl) ?_;refine ah rfl rfl rfl rfl rfl ?_;refine eQ O ?_;clear O;rw [<- hl'];refine gQ fun _ O=>?_;refine Z8 ?_;refine eQ O ?_;clear O;refine aT (α := Int) (fun c => mk 91 [(1, V1 (dSs s)), (2, .ptr 2 0), (6, .ptr 6 0), (7, bD 200 8 i), (8, dI i), (9, .ptr 9 0), (10, dI k), (11, .ptr 11 0), (12, dI c)] [(2, some (.box g.cs)), (6, some (.box (qzW 0).cs)), (9, some (.box (szW X Y).cs)), (11, some (.box l.cs)), (200, bB 8 es i)] []) (fun c => c = if l.t = i then l.w else 0) ?_ ?_
   ·refine gQ fun _ O=>?_;refine Z5 ?_;refine Z7 ?_;refine Z9 ?_;refine au rfl (v6 rfl) rfl ?_;refine eQ O ?_;clear O;refine ap rfl (fun hd => ?_) (fun hd => ?_)
    ·have hd : l.t = i := by simpa using hd
     refine gR fun _ O=>?_;refine Z5 ?_;refine Z7 ?_;refine Z8 ?_;refine eQ O ?_;clear O;exact ⟨l.w, by rw [if_pos hd], Wk.mk' ⟨rfl, rfl, rfl, rfl, rfl, rfl, rfl, rfl, rfl, trivial⟩ ⟨rfl, rfl, rfl, rfl, rfl, trivial⟩⟩
    ·have hd : ¬ l.t = i := by simpa using hd
     refine ak ?_;exact ⟨0, by rw [if_neg hd], Wk.mk' ⟨rfl, rfl, rfl, rfl, rfl, rfl, rfl, rfl, rfl, trivial⟩ ⟨rfl, rfl, rfl, rfl, rfl, trivial⟩⟩
   rintro c hc0
   show AWP _ _ _ _ _ (mk 91 _ _ _);refine aT (α := Int) (fun c => mk 91 [(1, V1 (dSs s)), (2, .ptr 2 0), (6, .ptr 6 0), (7, bD 200 8 i), (8, dI i), (9, .ptr 9 0), (10, dI k), (12, dI c)] [(2, some (.box g.cs)), (6, some (.box (qzW 0).cs)), (9, some (.box (szW X Y).cs)), (200, bB 8 es i)] []) (fun c => c = sgnL l i) ?_ ?_
   ·refine gQ fun _ O=>?_;refine Z5 ?_;refine Z7 ?_;refine Z9 ?_;refine au rfl (v6 rfl) rfl ?_;refine eQ O ?_;clear O;refine ap rfl (fun hd => ?_) (fun hd => ?_)
    ·have hd : l.f = i := by simpa using hd
     refine gR fun _ O=>?_;refine Z5 ?_;refine Z7 ?_;refine dz rfl (xd (by omega)) rfl ?_;refine Z8 ?_;refine eQ O ?_;clear O;exact ⟨-l.w, by unfold sgnL; rw [if_pos hd], Wk.mk' ⟨rfl, rfl, rfl, rfl, rfl, rfl, rfl, rfl, trivial⟩ ⟨rfl, rfl, rfl, rfl, trivial⟩⟩
    ·have hd : ¬ l.f = i := by simpa using hd
     refine ak ?_;exact ⟨c, by unfold sgnL; rw [if_neg hd]; exact hc0, Wk.mk' ⟨rfl, rfl, rfl, rfl, rfl, rfl, rfl, rfl, trivial⟩ ⟨rfl, rfl, rfl, rfl, trivial⟩⟩
   rintro c2 rfl
   show AWP _ _ _ _ _ (mk 91 _ _ _);refine gQ fun _ O=>?_;refine Z7 ?_;refine Z9 ?_;refine Z9 ?_;refine ac rfl rfl (cR) rfl rfl rfl rfl ?_;refine Z9 ?_;refine am rfl rfl rfl ?_;refine am rfl rfl rfl ?_;refine ar rfl rfl rfl rfl rfl (by rcases i with _|i <;> rfl) ?_;refine ah rfl rfl rfl rfl rfl ?_;refine Z8 ?_;refine eQ O ?_;clear O;refine gQ fun _ O=>?_;refine Z9 ?_;refine ac rfl rfl (c1) rfl rfl rfl rfl ?_;refine ar rfl rfl rfl rfl rfl (by rcases i with _|i <;> rfl) ?_;refine ah rfl rfl rfl rfl rfl ?_;refine eQ O ?_;clear O;refine bb tok mixed (A := [[], [], [], [], [], [3], [0, 2, 3, 4], [], [], [], [], [], [0, 1, 2, 3, 4, 5, 10], [0, 1, 2, 3, 4, 5, 6, 7, 9, 10, 11], [0, 1, 2, 3, 4, 5, 7, 8, 9, 10, 11, 12], []]) (an := [{}, {}, {}, {}, {}, {}, {}, { c := [76, 77] }, { c := [76, 77] }, { c := [76, 77] }, { c := [76, 77] }, { c := [76, 77] }, {}, {}, {}, {}]) rfl (by kernel_rfl) rfl fun _ O=>?_;refine Z5 ?_;refine Z7 ?_;refine Z7 ?_;refine Z5 ?_;refine Z7 ?_;refine ac rfl rfl (c2) rfl rfl rfl rfl ?_;refine ac rfl rfl (c3) rfl rfl rfl rfl ?_;refine Z5 ?_;refine Z7 ?_;refine Z7 ?_;refine Z5 ?_;refine Z7 ?_;refine ac rfl rfl (c4) rfl rfl rfl rfl ?_;refine ac rfl rfl (c5) rfl rfl rfl rfl ?_;refine aL rfl rfl rfl ?_;refine ah rfl rfl rfl rfl rfl ?_;refine eQ O ?_;clear O;show AWP _ _ _ _ _ _;refine gR fun _ O=>?_;refine Z9 ?_;refine au rfl (aE (c := ((k + 1 : Nat) : Int)) (by omega) (by omega)) rfl ?_;refine Z8 ?_;refine eQ O ?_;clear O;refine ⟨k + 1, by omega, hf, Wk.mk' ⟨rfl, rfl, rfl, rfl, rfl, rfl, rfl, trivial⟩ ⟨rfl, rfl, ?_, rfl, trivial⟩⟩;rw [<- hX1, <- hY1]; rfl
  have hf : k = g.links.length := by simp at hf; omega
  subst hf
  rw [List.take_length]
  have eX : gd (dX g) (xs s) i g.links = gX i := by rw [hgX]
  have eY : gd (dY g) (ys s) i g.links = gY i := by rw [hgY]
  rw [eX, eY];refine aA ?_;show AWP _ _ _ _ _ _
  rcases i with _ | i
  ·refine gR fun _ O=>?_;refine Z9 ?_;refine Z7 ?_;refine aw rfl rfl rfl rfl ?_;refine aO rfl (da rfl rfl rfl rfl rfl (by decide) (Nat.le_of_ble_eq_true rfl) rfl (by simp) rfl (by simp) (by simp)) rfl rfl rfl ?_;refine Z8 ?_;refine eQ O ?_;clear O;show AWP _ _ _ _ _ _;refine gR fun _ O=>?_;refine Z9 ?_;refine au rfl (aE (c := ((0 + 1 : Nat) : Int)) (by omega) (by omega)) rfl ?_;refine Z8 ?_;refine eQ O ?_;clear O;refine ⟨0 + 1, by omega, hg, Wk.rn [1, 2, 6, 7, 8] [2, 6, 89] 89 200 rfl rfl rfl ⟨rfl, rfl, rfl, ?_, rfl, trivial⟩ ⟨rfl, rfl, ?_, trivial⟩⟩
   ·first
     | rfl
     | (show SV.val (.one (.own 200 8 0 _)) = _
        rw [List.length_append, z1]; rfl)
   ·first
     | (rw [<- n1, List.length_eq_zero_iff.1 z1]; rfl)
     | (rw [<- n1]; rfl)
  ·refine gR fun _ O=>?_;refine Z9 ?_;refine Z7 ?_;refine aw rfl rfl rfl rfl ?_;refine aO rfl (eI rfl rfl rfl rfl rfl rfl (by decide) (Nat.le_of_ble_eq_true rfl) rfl (by simp) rfl rfl z1.symm (by simp <;> omega)) rfl rfl rfl ?_;refine Z8 ?_;refine eQ O ?_;clear O;show AWP _ _ _ _ _ _;refine gR fun _ O=>?_;refine Z9 ?_;refine au rfl (aE (c := ((i + 1 + 1 : Nat) : Int)) (by omega) (by omega)) rfl ?_;refine Z8 ?_;refine eQ O ?_;clear O;refine ⟨i + 1 + 1, by omega, hg, Wk.rn [1, 2, 6, 7, 8] [2, 6, 89] 89 200 rfl rfl rfl ⟨rfl, rfl, rfl, ?_, rfl, trivial⟩ ⟨rfl, rfl, ?_, trivial⟩⟩
   ·first
     | rfl
     | (show SV.val (.one (.own 200 8 0 _)) = _
        rw [List.length_append, z1]; rfl)
   ·first
     | (rw [<- n1, List.length_eq_zero_iff.1 z1]; rfl)
     | (rw [<- n1]; rfl)
 have hg : i = n := by simp at hg; omega
 subst hg
 refine aA ?_;show AWP _ _ _ _ _ _
 rcases i with _ | i
 ·exact absurd gv.n1 (by omega)
 ·refine cQ [7] [200] 200 [(7, V1 (dSs ((List.range (i + 1)).map fun v => szW (gX v) (gY v))))] [] rfl ?_ trivial ?_
  ·exact ⟨bz rfl (by simp), trivial⟩
  refine gQ fun _ O=>?_;refine Z9 ?_;refine Z8 ?_;refine Z8 ?_;refine eQ O ?_;clear O;exact al aP
end Go.Proofs.YtfichkokppbipaaGreatDoor

/- ref31: Worst; the law AdjustAnswers. No condition. -/
namespace Go.Proofs.YtfichkokppbipaaGreatDoor
attribute [local irreducible] aM
open Go.RowKit

theorem DE (x y : Rat) : decide ((x - y).num.sign > 0) = decide (y < x) := by
 rw [Bool.eq_iff_iff, decide_eq_true_eq, decide_eq_true_eq]
 have h1 := kn (q := x - y)
 constructor
 ·intro h
  have : 0 < x - y := Classical.byContradiction fun hn => by have := h1.2 hn; omega
  grind
 ·intro h
  have h2 : 0 < x - y := by grind
  exact Classical.byContradiction fun hn => absurd h2 (h1.1 (by omega))

set_option maxHeartbeats 1000000 in
theorem DP (g : GR) (s : List SP) (hl : g.links.length <= 9223372036854775806) (ok : ∀ r ∈ g.nodes, r.OK 4096) (os : ∀ p ∈ s, p.OK 4096) : Con Tryz.prog 24 [AG g.cs, V1 (dSs s)] { v := .tup [.one (.d (lI (wrsV g s).1)), .agg (wrsV g s).2.1.cs, .one (.d (lI (wrsV g s).2.2))] } := by
 refine Z3 Tryz.func24 ?_
 intro w0 X
 rw [aq _ _ [(0, AG g.cs), (1, V1 (dSs s))] rfl rfl];refine gQ fun _ O=>?_;refine aF rfl rfl rfl rfl rfl rfl ?_;refine Z8 ?_;refine ar rfl rfl rfl rfl rfl rfl ?_;refine Z8 ?_;refine eQ O ?_;clear O;refine ag ?_;refine aT (α := Bool) (fun c => mk 76 [(1, V1 (dSs s)), (2, .ptr 2 0), (5, .ptr 5 0), (23, dB c)] [(2, some (.box g.cs)), (5, some (.box zcs))] []) (fun c => c = !(dq g s)) ?_ ?_
 ·refine bO fun _ O=>?_;refine aa tok rfl ?_;refine Z7 ?_;refine ae ?_;refine aa tok rfl ?_;refine ac rfl rfl (eH g hl) rfl rfl rfl rfl ?_;refine ae ?_;refine aa tok rfl ?_;refine dz rfl rfl rfl ?_;refine ae ?_;refine aa tok rfl ?_;refine Z9 ?_;refine ae ?_;refine aV (fun h0 => ?_) (fun h0 => ?_)
  ·refine ai rfl rfl ?_;refine ai rfl rfl ?_;refine ai rfl rfl ?_;refine ai rfl rfl ?_;refine ai rfl rfl ?_;refine ai rfl rfl ?_;refine aa tok rfl ?_;refine Z4 ?_;refine ae ?_;refine aW rfl (O _ ?_); clear O;exact ⟨_, (by simp only [Bool.not_eq_true', Bool.not_eq_false'] at h0; simp only [dq, h0, Bool.false_and, Bool.true_and, Bool.not_false, ky]; try (rw [Bool.eq_iff_iff]; simp only [decide_eq_true_eq, Bool.not_eq_true', decide_eq_false_iff_not]; omega)), Wk.mk' ⟨rfl, rfl, rfl, rfl, trivial⟩ ⟨rfl, rfl, trivial⟩⟩
  ·refine aa tok rfl ?_;refine Z9 ?_;refine ae ?_;refine aa tok rfl ?_;refine az rfl (a8 SP.dc rfl rfl) rfl ?_;refine ae ?_;refine aa tok rfl ?_;refine Z5 ?_;refine ae ?_;refine aa tok rfl ?_;refine Z7 ?_;refine ae ?_;refine aa tok rfl ?_;refine az rfl (a8 RW.dc rfl rfl) rfl ?_;refine ae ?_;refine aa tok rfl ?_;refine Z6 ?_;refine ae ?_;refine aa tok rfl ?_;refine Z4 ?_;refine ae ?_;refine aW rfl (O _ ?_); clear O;exact ⟨_, (by simp only [Bool.not_eq_true', Bool.not_eq_false'] at h0; simp only [dq, h0, Bool.false_and, Bool.true_and, Bool.not_false, ky]; try (rw [Bool.eq_iff_iff]; simp only [decide_eq_true_eq, Bool.not_eq_true', decide_eq_false_iff_not]; omega)), Wk.mk' ⟨rfl, rfl, rfl, rfl, trivial⟩ ⟨rfl, rfl, trivial⟩⟩
 rintro c rfl
 refine ap rfl (fun hc => ?_) (fun hc => ?_)
 ·rw [Bool.not_eq_true'] at hc
  have e : wrsV g s = (0, eh, 1) := by rw [wrsV, if_neg (by rw [hc]; simp)]
  rw [e];refine gQ fun _ O=>?_;refine aL rfl rfl rfl ?_;refine Z8 ?_;refine ah rfl rfl rfl rfl rfl ?_;refine Z8 ?_;refine eQ O ?_;clear O;exact al aP
 rw [Bool.not_eq_false'] at hc
 have h := cK.1 hc
 have gv := h.gv
 have l48 := gv.l
 rw [wrsV, if_pos hc];refine ak ?_;show AWP _ _ _ _ _ _;refine ag ?_;refine gQ fun _ O=>?_;refine Z5 ?_;refine Z7 ?_;refine az rfl (a8 LK.dc rfl rfl) rfl ?_;refine au rfl (AU _ 0) rfl ?_;refine eQ O ?_;clear O;refine ap rfl (fun hd => ?_) (fun hd => ?_)
 ·rw [if_pos (of_decide_eq_true hd)];refine gQ fun _ O=>?_;refine aL rfl rfl rfl ?_;refine Z8 ?_;refine ah rfl rfl rfl rfl rfl ?_;refine Z8 ?_;refine eQ O ?_;clear O;exact al aP
 have hd := of_decide_eq_false hd
 rw [if_neg hd];refine ak ?_;show AWP _ _ _ _ _ _;refine gQ fun _ O=>?_;refine aL rfl rfl rfl ?_;refine ar rfl rfl rfl rfl rfl rfl ?_;refine Z8 ?_;refine ah rfl rfl rfl rfl rfl ?_;refine eQ O ?_;clear O;refine ag ?_;refine gQ fun _ O=>?_;refine Z8 ?_;refine eQ O ?_;clear O;refine aj (aI (α := Nat) (fun i => mk 76 [(1, V1 (dSs s)), (2, .ptr 2 0), (5, .ptr 5 0), (7, dI (wrN (csN g s) i)), (8, .ptr 8 0), (9, dI i)] [(2, some (.box g.cs)), (5, some (.box zcs)), (8, some (.box (iQ (csN g s) i)))] []) (fun i => i <= g.links.length) (fun i => g.links.length - i) 0 ?_ (Nat.zero_le _) ?_)
 ·have b1 : iQ (csN g s) 0 = zcs := if_pos rfl
  simp only [b1];exact Wk.mk' ⟨rfl, rfl, rfl, rfl, rfl, rfl, trivial⟩ ⟨rfl, rfl, rfl, trivial⟩
 intro i hi
 refine ag ?_;refine gQ fun _ O=>?_;refine Z9 ?_;refine Z5 ?_;refine Z7 ?_;refine az rfl (a8 LK.dc rfl rfl) rfl ?_;refine Z6 ?_;refine eQ O ?_;clear O;refine ap rfl (fun hg => ?_) (fun hg => ?_)
 ·have hg : i < g.links.length := by simp at hg; omega
  obtain ⟨l, hl'⟩ : ∃ l, l = g.links[i] := ⟨_, rfl⟩
  have hm : l ∈ g.links := hl' ▸ List.getElem_mem hg
  have lv := gLV gv l hm
  have o := ki h hm ok os
  have cR := i6 g s (i : Int) ok os hl
  have eR : gL g s (i : Int) = (rsG g s l, 0) := by
   rw [gL, if_pos hc, dif_pos ⟨by omega, by simpa using hg⟩];simp only [Int.toNat_natCast, <- hl']
  rw [eR] at cR
  have eq1 : csN g s i = ((rsG g s l).vx * (rsG g s l).vx + (rsG g s l).vy * (rsG g s l).vy) * ((l.w : Int) : Rat) := by
   unfold csN; rw [List.getD_eq_getElem?_getD, List.getElem?_eq_getElem hg, <- hl']; rfl
  have hql : ∀ k, k < g.links.length -> ql (csN g s k) <= 98400 := fun k hk => by
   unfold csN; rw [List.getD_eq_getElem?_getD, List.getElem?_eq_getElem hk]
   exact nu h (List.getElem_mem hk) ok os
  have hwr := r8 (csN g s) hi (by omega)
  have qi := hql i hg
  have qw := hql _ hwr
  have ws : wrN (csN g s) (i + 1) = if csN g s (wrN (csN g s) i) < csN g s i then i else wrN (csN g s) i := rfl
  generalize rsG g s l = r at cR o eq1
  have x1 := o.qx rfl
  have x2 := o.qy rfl
  have m1 := aC x1 x1
  have m2 := aC x2 x2
  have m3 := bi m1 m2
  have c1 := dw r.x r.x (r.vx * r.vx) (o.x.mono rfl) (o.x.mono rfl) rfl
  have c2 := dw r.y r.y (r.vy * r.vy) (o.y.mono rfl) (o.y.mono rfl) rfl
  have c3 := jI (qzW (r.vx * r.vx)) (qzW (r.vy * r.vy)) (r.vx * r.vx + r.vy * r.vy) ((aD m1).mono rfl) ((aD m2).mono rfl) (by rw [aR, aR])
  have c4 := em l.w lv.iw
  have c5 := dw (qzW ((l.w : Int) : Rat)) (qzW (r.vx * r.vx + r.vy * r.vy)) (csN g s i) ((aD (cb lv.iw)).mono rfl) ((aD m3).mono rfl) (by rw [aR, aR, eq1]; grind)
  have c6 := uk (qzW (csN g s i)) (qzW (csN g s (wrN (csN g s) i))) ((aD qi).mono rfl) ((aD qw).mono rfl)
  rw [aR, aR] at c6
  have hgt := DE (csN g s i) (csN g s (wrN (csN g s) i))
  have b2 : ∀ k, iQ (csN g s) (k + 1) = (qzW (csN g s (wrN (csN g s) (k + 1)))).cs := fun k => if_neg (by omega)
  refine ak ?_;show AWP _ _ _ _ _ _;refine ag ?_;refine aj ?_;rw [hl'] at c4;refine gQ fun _ O=>?_;refine Z7 ?_;refine Z9 ?_;refine Z9 ?_;refine ac rfl rfl (cR) rfl rfl rfl rfl ?_;refine Z9 ?_;refine am rfl rfl rfl ?_;refine am rfl rfl rfl ?_;refine ar rfl rfl rfl rfl rfl rfl ?_;refine ah rfl rfl rfl rfl rfl ?_;refine Z8 ?_;refine eQ O ?_;clear O;refine aH tok mixed (A := [[], [], [], [0], [0, 1, 2], [0, 1, 2, 3], [0, 1, 2, 3, 4], [], [], [], [], [0, 1, 2, 3, 4, 5, 7, 9], [], [], [], [], [0, 1, 2, 3, 4, 5, 6, 7, 8, 9, 10, 12, 14], [0, 1, 2, 3, 4, 5, 6, 7, 8, 9, 10, 12, 13, 14, 15], [0, 1, 2, 3, 4, 5, 7, 8, 9, 10, 11, 12, 13, 14, 15, 16], [], []]) (an := [{}, {}, {}, {}, {}, {}, {}, { c := [51] }, { c := [51] }, { c := [51] }, { c := [51] }, {}, { c := [51, 56] }, { c := [51, 56] }, { c := [51, 56] }, { c := [51, 56] }, {}, {}, {}, { c := [51, 56, 61, 62, 63] }, {}]) rfl (by kernel_rfl) rfl fun _ O=>?_;refine Z5 ?_;refine Z7 ?_;refine Z9 ?_;refine ab rfl (x_m LK.dc rfl rfl rfl rfl hg rfl) rfl ?_;refine Z5 ?_;refine Z7 ?_;refine ac rfl rfl (c4) rfl rfl rfl rfl ?_;refine Z5 ?_;refine Z7 ?_;refine Z5 ?_;refine Z7 ?_;refine ac rfl rfl (c1) rfl rfl rfl rfl ?_;refine Z5 ?_;refine Z7 ?_;refine Z5 ?_;refine Z7 ?_;refine ac rfl rfl (c2) rfl rfl rfl rfl ?_;refine ac rfl rfl (c3) rfl rfl rfl rfl ?_;refine ac rfl rfl (hl' ▸ c5) rfl rfl rfl rfl ?_;refine ar rfl rfl rfl rfl rfl rfl ?_;refine ah rfl rfl rfl rfl rfl ?_;refine eQ O ?_;clear O
  rcases i with _ | i
  ·have w1 : wrN (csN g s) (0 + 1) = 0 := by rw [ws]; split <;> rfl
   have b3 : iQ (csN g s) 0 = zcs := if_pos rfl
   rw [b3];refine gQ fun _ O=>?_;refine Z9 ?_;refine Z6 ?_;refine Z9 ?_;refine aB rfl ?_;refine aB rfl ?_;refine aB rfl ?_;refine aB rfl ?_;refine Z4 ?_;refine eQ O ?_;clear O;refine ap rfl (fun _ => ?_) (fun h => by cases h);refine bb tok mixed (A := [[], [], [], []]) (an := [{}, {}, {}, {}]) rfl (by kernel_rfl) rfl fun _ O=>?_;refine Z9 ?_;refine Z7 ?_;refine Z8 ?_;refine ah rfl rfl rfl rfl rfl ?_;refine eQ O ?_;clear O;show AWP _ _ _ _ _ _;refine gR fun _ O=>?_;refine Z9 ?_;refine au rfl (aE (c := ((0 + 1 : Nat) : Int)) (by omega) (by omega)) rfl ?_;refine Z8 ?_;refine eQ O ?_;clear O;refine ⟨0 + 1, by omega, hg, ?_⟩
   have a2 : iQ (csN g s) (0 + 1) = (qzW (csN g s 0)).cs := by rw [iQ, if_neg (by omega), w1]
   rw [a2, w1];exact Wk.mk' ⟨rfl, rfl, rfl, rfl, rfl, rfl, trivial⟩ ⟨rfl, rfl, rfl, trivial⟩
  ·rw [b2];generalize hw0 : wrN (csN g s) (i + 1) = w0' at *;generalize (csN g s (i + 1) - csN g s w0').num.sign = kk at c6 hgt;refine gQ fun _ O=>?_;refine Z9 ?_;refine au rfl (v6 (c := false) (by rw [beq_eq_false_iff_ne]; omega)) rfl ?_;refine Z9 ?_;refine Z7 ?_;refine Z7 ?_;refine ac rfl rfl (c6) rfl rfl rfl rfl ?_;refine au rfl (Df hgt) rfl ?_;refine Z4 ?_;refine eQ O ?_;clear O;refine ap rfl (fun he => ?_) (fun he => ?_)
   ·rw [if_pos (of_decide_eq_true he)] at ws;refine bb tok mixed (A := [[], [], [], []]) (an := [{}, {}, {}, {}]) rfl (by kernel_rfl) rfl fun _ O=>?_;refine Z9 ?_;refine Z7 ?_;refine Z8 ?_;refine ah rfl rfl rfl rfl rfl ?_;refine eQ O ?_;clear O;show AWP _ _ _ _ _ _;refine gR fun _ O=>?_;refine Z9 ?_;refine au rfl (aE (c := ((i + 1 + 1 : Nat) : Int)) (by omega) (by omega)) rfl ?_;refine Z8 ?_;refine eQ O ?_;clear O;refine ⟨i + 1 + 1, by omega, hg, ?_⟩;rw [b2, ws];exact Wk.mk' ⟨rfl, rfl, rfl, rfl, rfl, rfl, trivial⟩ ⟨rfl, rfl, rfl, trivial⟩
   ·rw [if_neg (of_decide_eq_false he)] at ws;refine ak ?_;show AWP _ _ _ _ _ _;refine gR fun _ O=>?_;refine Z9 ?_;refine au rfl (aE (c := ((i + 1 + 1 : Nat) : Int)) (by omega) (by omega)) rfl ?_;refine Z8 ?_;refine eQ O ?_;clear O;refine ⟨i + 1 + 1, by omega, hg, ?_⟩;rw [b2, ws];exact Wk.mk' ⟨rfl, rfl, rfl, rfl, rfl, rfl, trivial⟩ ⟨rfl, rfl, rfl, trivial⟩
 have hg : i = g.links.length := by simp at hg; omega
 subst hg
 have a2 : iQ (csN g s) g.links.length = (qzW (csN g s (wrN (csN g s) g.links.length))).cs := if_neg hd
 rw [a2];refine aA ?_;show AWP _ _ _ _ _ _;refine aH tok mixed (A := [[], [], [], [], []]) (an := [{}, {}, {}, {}, {}]) rfl (by kernel_rfl) rfl fun _ O=>?_;refine Z9 ?_;refine Z7 ?_;refine Z8 ?_;refine ah rfl rfl rfl rfl rfl ?_;refine Z8 ?_;refine eQ O ?_;clear O;exact al aP

set_option maxHeartbeats 1000000 in
theorem tc (g : GR) (s : List SP) (hg : ∀ r ∈ g.nodes, r.W) (hs : ∀ p ∈ s, p.W) (hl : s.length <= 9223372036854775807) : Con Tryz.prog 3 [AG g.cs, V1 (dSs s)] { v := dB true } := by
 refine Z3 Tryz.func3 ?_
 intro w0 X
 rw [aq _ _ [(0, AG g.cs), (1, V1 (dSs s))] rfl rfl];refine gQ fun _ O=>?_;refine aF rfl rfl rfl rfl rfl rfl ?_;refine Z8 ?_;refine eQ O ?_;clear O;refine ag ?_;refine aT (α := Bool) (fun c => mk 125 [(1, V1 (dSs s)), (2, .ptr 2 0), (34, dB c)] [(2, some (.box g.cs))] []) (fun c => c = !(rH g && xT s)) ?_ ?_
 ·refine bO fun _ O=>?_;refine aa tok rfl ?_;refine ac rfl rfl (rY) rfl rfl rfl rfl ?_;refine ae ?_;refine aa tok rfl ?_;refine dz rfl rfl rfl ?_;refine ae ?_;refine aa tok rfl ?_;refine Z9 ?_;refine ae ?_;refine aV (fun h0 => ?_) (fun h0 => ?_)
  ·refine ai rfl rfl ?_;refine ai rfl rfl ?_;refine ai rfl rfl ?_;refine aa tok rfl ?_;refine Z4 ?_;refine ae ?_;refine aa tok rfl ?_;refine Z9 ?_;refine ae ?_;refine ai rfl rfl ?_;refine ai rfl rfl ?_;refine ai rfl rfl ?_;refine aa tok rfl ?_;refine Z4 ?_;refine ae ?_;refine aW rfl (O _ ?_); clear O
   first|(exact absurd h0 (by decide))|exact ⟨_, (by simp only [Bool.not_eq_true', Bool.not_eq_false'] at h0; simp only [h0, Bool.false_and, Bool.true_and, Bool.not_false, Bool.not_true]), Wk.mk' ⟨rfl, rfl, rfl, trivial⟩ ⟨rfl, trivial⟩⟩
  ·refine aa tok rfl ?_;refine Z7 ?_;refine ae ?_;refine aa tok rfl ?_;refine ac rfl rfl (Cx g) rfl rfl rfl rfl ?_;refine ae ?_;refine aa tok rfl ?_;refine dz rfl rfl rfl ?_;refine ae ?_;refine aa tok rfl ?_;refine Z4 ?_;refine ae ?_;refine aa tok rfl ?_;refine Z9 ?_;refine ae ?_;refine aV (fun h1 => ?_) (fun h1 => ?_)
   ·refine ai rfl rfl ?_;refine ai rfl rfl ?_;refine ai rfl rfl ?_;refine aa tok rfl ?_;refine Z4 ?_;refine ae ?_;refine aW rfl (O _ ?_); clear O
    first|(exact absurd h0 (by decide))|exact ⟨_, (by simp only [Bool.not_eq_true', Bool.not_eq_false'] at h0 h1; simp only [h0, h1, Bool.false_and, Bool.true_and, Bool.not_false, Bool.not_true]), Wk.mk' ⟨rfl, rfl, rfl, trivial⟩ ⟨rfl, trivial⟩⟩
   ·refine aa tok rfl ?_;refine Z9 ?_;refine ae ?_;refine aa tok rfl ?_;refine ac rfl rfl (DB s hl) rfl rfl rfl rfl ?_;refine ae ?_;refine aa tok rfl ?_;refine dz rfl rfl rfl ?_;refine ae ?_;refine aa tok rfl ?_;refine Z4 ?_;refine ae ?_;refine aW rfl (O _ ?_); clear O
    first|(exact absurd h0 (by decide))|exact ⟨_, (by simp only [Bool.not_eq_true', Bool.not_eq_false'] at h0 h1; simp only [h0, h1, Bool.false_and, Bool.true_and, Bool.not_false, Bool.not_true]), Wk.mk' ⟨rfl, rfl, rfl, trivial⟩ ⟨rfl, trivial⟩⟩
 rintro c rfl
 refine ap rfl (fun hc => ?_) (fun hc => ?_)
 ·refine gQ fun _ O=>?_;refine ac rfl rfl (rY) rfl rfl rfl rfl ?_;refine Z8 ?_;refine eQ O ?_;clear O;exact al aP
 rw [Bool.not_eq_false', Bool.and_eq_true] at hc
 obtain ⟨hf, hsh⟩ := hc
 obtain ⟨ok1, hsm, hl49⟩ := AF hg hf
 obtain ⟨os1, hs6⟩ := BE hs hsh
 have ok : ∀ r ∈ g.nodes, r.OK 4096 := fun r hr => (ok1 r hr).mono rfl
 have os : ∀ p ∈ s, p.OK 4096 := fun p hp => (os1 p hp).mono rfl
 have hll : g.links.length <= 9223372036854775806 := by omega
 have m1 := vX g ok hsm
 have m2 := zu g hll ok hsm
 have l1 := AB g ok hsm
 have l2 := DQ g hll ok hsm
 have g1 := Ei g s ok os
 have g2 := DR g s hll ok os
 have w1 := AA g s ok os
 have w2 := DP g s hll ok os
 have bM := pc (minV g).1 (by
  unfold minV
  split
  ·split
   ·have := hsm (by assumption); have := this.n6; rw [jO]; omega
   ·simp
  ·simp) (fun p hp => by
  unfold minV at hp
  by_cases hv : bQ g = true
  ·rw [if_pos hv] at hp
   by_cases hc : cnB g = true
   ·rw [if_pos hc] at hp;exact (xi (bJ.1 hv) (hsm hv) hc p hp).sm rfl
   ·rw [if_neg hc] at hp; cases hp
  ·rw [if_neg hv] at hp; cases hp)
 have bL : Con Tryz.prog 26 [AG (lstV g).1.cs, AG (lstV g).1.cs] { v := dB true } := uh _ (by
  unfold lstV
  by_cases hv : bQ g = true
  ·rw [if_pos hv]
   by_cases hcn : cnB g = true
   ·rw [if_pos hcn]
    have gv := bJ.1 hv
    have om4 : ∀ p ∈ mnL g, p.OK 4096 := fun p hp => (xi gv (hsm hv) hcn p hp).mono rfl
    have qL : ql (lsQ g) <= 16777216 := by
     have := wk (g := g) (s := mnL g) ⟨gv, jO g⟩ ok om4 g.links (fun l hl => hl) 0
     have z : ql (0 : Rat) <= 1 := eC
     have := gv.l
     rw [<- A3 gv]; unfold csR; omega
    exact ⟨aN (aD qL).lp rfl, aN (aD qL).lq rfl⟩
   ·rw [if_neg hcn]; exact ⟨Nat.zero_le _, Nat.zero_le _⟩
  ·rw [if_neg hv]; exact ⟨Nat.zero_le _, Nat.zero_le _⟩)
 have bG := pc (grdV g s).1 (by
  unfold grdV
  split
  ·have h := cK.1 (by assumption); have := h.gv.n2; simp [Cs]; omega
  ·simp) (fun p hp => by
  unfold grdV at hp
  by_cases hb : dq g s = true
  ·rw [if_pos hb] at hp
   have h := cK.1 hb
   have l16 := (hsm (bJ.2 h.gv)).l16
   obtain ⟨v, hv, rfl⟩ := List.mem_map.1 hp
   have := uN h ok os v g.links.length (Nat.le_refl _)
   rw [List.take_length] at this;exact (eZ (k := 1048576) (Nat.le_trans this.1 (by omega)) (Nat.le_trans this.2 (by omega))).sm rfl
  ·rw [if_neg hb] at hp; cases hp)
 have bW : Con Tryz.prog 26 [AG (wrsV g s).2.1.cs, AG (wrsV g s).2.1.cs] { v := dB true } := uh _ (by
  unfold wrsV
  by_cases hb : dq g s = true
  ·rw [if_pos hb]
   have h := cK.1 hb
   by_cases h0 : g.links.length = 0
   ·rw [if_pos h0]; exact ⟨Nat.zero_le _, Nat.zero_le _⟩
   ·rw [if_neg h0]
    have hw := r8 (csN g s) (Nat.le_refl g.links.length) (by omega)
    generalize wrN (csN g s) g.links.length = w at hw ⊢
    have q : ql (csN g s w) <= 98400 := by
     unfold csN
     rw [List.getD_eq_getElem?_getD, List.getElem?_eq_getElem hw];exact nu h (List.getElem_mem hw) ok os
    exact ⟨aN (aD q).lp rfl, aN (aD q).lq rfl⟩
  ·rw [if_neg hb]; exact ⟨Nat.zero_le _, Nat.zero_le _⟩)
 generalize minV g = mv at m1 m2 bM;generalize lstV g = lv at l1 l2 bL;generalize grdV g s = gv at g1 g2 bG;generalize wrsV g s = wv at w1 w2 bW;refine ak ?_;show AWP _ _ _ _ _ _;refine gQ fun _ O=>?_;refine Z7 ?_;refine ac rfl rfl (m1) rfl rfl rfl rfl ?_;refine Z9 ?_;refine am rfl rfl rfl ?_;refine am rfl rfl rfl ?_;refine Z8 ?_;refine Z8 ?_;refine eQ O ?_;clear O;refine gQ fun _ O=>?_;refine Z7 ?_;refine ac rfl rfl (m2) rfl rfl rfl rfl ?_;refine Z9 ?_;refine am rfl rfl rfl ?_;refine am rfl rfl rfl ?_;refine Z8 ?_;refine Z8 ?_;refine eQ O ?_;clear O;refine gQ fun _ O=>?_;refine Z7 ?_;refine ac rfl rfl (l1) rfl rfl rfl rfl ?_;refine Z9 ?_;refine am rfl rfl rfl ?_;refine am rfl rfl rfl ?_;refine ar rfl rfl rfl rfl rfl rfl ?_;refine ah rfl rfl rfl rfl rfl ?_;refine Z8 ?_;refine eQ O ?_;clear O;refine gQ fun _ O=>?_;refine Z7 ?_;refine ac rfl rfl (l2) rfl rfl rfl rfl ?_;refine Z9 ?_;refine am rfl rfl rfl ?_;refine am rfl rfl rfl ?_;refine ar rfl rfl rfl rfl rfl rfl ?_;refine ah rfl rfl rfl rfl rfl ?_;refine Z8 ?_;refine eQ O ?_;clear O;refine gQ fun _ O=>?_;refine Z7 ?_;refine Z9 ?_;refine ac rfl rfl (g1) rfl rfl rfl rfl ?_;refine Z9 ?_;refine am rfl rfl rfl ?_;refine am rfl rfl rfl ?_;refine Z8 ?_;refine Z8 ?_;refine eQ O ?_;clear O;refine gQ fun _ O=>?_;refine Z7 ?_;refine Z9 ?_;refine ac rfl rfl (g2) rfl rfl rfl rfl ?_;refine Z9 ?_;refine am rfl rfl rfl ?_;refine am rfl rfl rfl ?_;refine Z8 ?_;refine Z8 ?_;refine eQ O ?_;clear O;refine gQ fun _ O=>?_;refine Z7 ?_;refine Z9 ?_;refine ac rfl rfl (w1) rfl rfl rfl rfl ?_;refine Z9 ?_;refine am rfl rfl rfl ?_;refine am rfl rfl rfl ?_;refine am rfl rfl rfl ?_;refine ar rfl rfl rfl rfl rfl rfl ?_;refine Z8 ?_;refine ah rfl rfl rfl rfl rfl ?_;refine Z8 ?_;refine eQ O ?_;clear O;refine gQ fun _ O=>?_;refine Z7 ?_;refine Z9 ?_;refine ac rfl rfl (w2) rfl rfl rfl rfl ?_;refine Z9 ?_;refine am rfl rfl rfl ?_;refine am rfl rfl rfl ?_;refine am rfl rfl rfl ?_;refine ar rfl rfl rfl rfl rfl rfl ?_;refine Z8 ?_;refine ah rfl rfl rfl rfl rfl ?_;refine Z8 ?_;refine eQ O ?_;clear O;refine gQ fun _ O=>?_;refine Z9 ?_;refine Z9 ?_;refine au rfl (rN rfl) rfl ?_;refine Z9 ?_;refine Z9 ?_;refine Z9 ?_;refine ac rfl rfl (bM) rfl rfl rfl rfl ?_;refine Z4 ?_;refine Z9 ?_;refine Z9 ?_;refine Z9 ?_;refine au rfl (rN rfl) rfl ?_;refine Z4 ?_;refine Z9 ?_;refine Z7 ?_;refine Z7 ?_;refine ac rfl rfl (bL) rfl rfl rfl rfl ?_;refine Z4 ?_;refine Z9 ?_;refine Z9 ?_;refine Z9 ?_;refine au rfl (rN rfl) rfl ?_;refine Z4 ?_;refine Z9 ?_;refine Z9 ?_;refine Z9 ?_;refine ac rfl rfl (bG) rfl rfl rfl rfl ?_;refine Z4 ?_;refine Z9 ?_;refine Z9 ?_;refine Z9 ?_;refine au rfl (rN rfl) rfl ?_;refine Z4 ?_;refine Z9 ?_;refine Z7 ?_;refine Z7 ?_;refine ac rfl rfl (bW) rfl rfl rfl rfl ?_;refine Z4 ?_;refine Z9 ?_;refine Z9 ?_;refine Z9 ?_;refine au rfl (rN rfl) rfl ?_;refine Z4 ?_;refine Z8 ?_;refine eQ O ?_;clear O;exact al aP
end Go.Proofs.YtfichkokppbipaaGreatDoor
