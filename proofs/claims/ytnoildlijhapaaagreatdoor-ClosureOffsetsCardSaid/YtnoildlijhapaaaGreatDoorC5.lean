/- Part of a proof that a Go function answers true for every input. No condition. -/
import Derived.Test.YtnoildlijhapaaaGreatDoorC4
import Derived.Lib.Walk
import Derived.Lib.ItoaMem
import Derived.Lib.AppendIntMem
import Derived.WalkKit
import Derived.BigCall
import Derived.BigGuard
set_option linter.unusedVariables false
set_option linter.unusedSimpArgs false
set_option linter.unusedSectionVars false
/- closure: Reckon. No condition. -/
namespace Go.Proofs.YtnoildlijhapaaaGreatDoor
attribute [local irreducible] aC
open Go.RowKit

theorem CG (a b : SP) (x y : Rat) (ha : a.OK 16777215) (hb : b.OK 16777215) (hx : a.vx + b.vx = x) (hy : a.vy + b.vy = y) :
  Con Tryz.prog 59 [AG a.cs, AG b.cs] { v := AG (szW x y).cs } := by
 refine Z2 Tryz.func59 ?_
 intro w0 X
 rw [aq _ _ [(0, AG a.cs), (1, AG b.cs)] rfl rfl];refine gQ fun _ Z9=>?_;refine aB rfl rfl rfl rfl rfl rfl ?_;refine aB rfl rfl rfl rfl rfl rfl ?_;refine av rfl rfl rfl rfl rfl rfl ?_;refine eQ Z9 ?_;clear Z9;refine aA tok mixed (A := [[], [], [], [], [0, 2], [], [], [], [], [0, 1, 2, 3, 5, 7], [0, 1, 2, 3, 5, 6, 7, 8], []]) (an := [{}, {}, {}, {}, {}, { c := [9] }, { c := [9] }, { c := [9] }, { c := [9] }, {}, {}, {}]) rfl (by kernel_rfl) rfl fun _ Z9=>?_;refine Z4 ?_;refine Z6 ?_;refine Z4 ?_;refine Z6 ?_;refine ab rfl rfl (vu a.x b.x _ (ha.x.mono rfl) (hb.x.mono rfl) hx) rfl rfl rfl rfl ?_;refine Z4 ?_;refine Z6 ?_;refine Z4 ?_;refine Z6 ?_;refine ab rfl rfl (vu a.y b.y _ (ha.y.mono rfl) (hb.y.mono rfl) hy) rfl rfl rfl rfl ?_;refine aG rfl rfl rfl ?_;refine ak rfl rfl rfl rfl rfl ?_;refine eQ Z9 ?_;clear Z9;exact ai aE
theorem qV (a b : SP) (x y : Rat) (ha : a.OK 16777215) (hb : b.OK 16777215) (hx : a.vx - b.vx = x) (hy : a.vy - b.vy = y) :
  Con Tryz.prog 60 [AG a.cs, AG b.cs] { v := AG (szW x y).cs } := by
 refine Z2 Tryz.func60 ?_
 intro w0 X
 rw [aq _ _ [(0, AG a.cs), (1, AG b.cs)] rfl rfl];refine gQ fun _ Z9=>?_;refine aB rfl rfl rfl rfl rfl rfl ?_;refine aB rfl rfl rfl rfl rfl rfl ?_;refine av rfl rfl rfl rfl rfl rfl ?_;refine eQ Z9 ?_;clear Z9;refine aA tok mixed (A := [[], [], [], [], [0, 2], [], [], [], [], [0, 1, 2, 3, 5, 7], [0, 1, 2, 3, 5, 6, 7, 8], []]) (an := [{}, {}, {}, {}, {}, { c := [9] }, { c := [9] }, { c := [9] }, { c := [9] }, {}, {}, {}]) rfl (by kernel_rfl) rfl fun _ Z9=>?_;refine Z4 ?_;refine Z6 ?_;refine Z4 ?_;refine Z6 ?_;refine ab rfl rfl (qj a.x b.x _ ha.x hb.x hx) rfl rfl rfl rfl ?_;refine Z4 ?_;refine Z6 ?_;refine Z4 ?_;refine Z6 ?_;refine ab rfl rfl (qj a.y b.y _ ha.y hb.y hy) rfl rfl rfl rfl ?_;refine aG rfl rfl rfl ?_;refine ak rfl rfl rfl rfl rfl ?_;refine eQ Z9 ?_;clear Z9;exact ai aE
def rkD (n : Nat) (s : RK) : List (List DC) := (List.range n).map fun v => if s.pl v = true then (szW (s.x v) (s.y v)).dc else sp0.dc
theorem jp {n : Nat} {s : RK} : (rkD n s).length = n := by simp [rkD]
theorem pn {n v : Nat} {s : RK} (h : v < n) (hp : s.pl v = true) : (rkD n s)[v]? = some (szW (s.x v) (s.y v)).dc := by simp [rkD, h, hp]
theorem sw {n : Nat} {s : RK} : ∀ el ∈ rkD n s, el.length = 8 := fun el h => by
 obtain ⟨v, _, rfl⟩ := List.mem_map.1 h
 split <;> rfl
theorem kG {n v : Nat} {s : RK} {a b : Rat} : (rkD n s).set v (szW a b).dc = rkD n ⟨gJ s.pl v, cZ s.x v a, cZ s.y v b⟩ := by
 apply List.ext_getElem?
 intro k
 rw [List.getElem?_set, jp]
 rcases Nat.lt_or_ge k n with hk | hk
 ·have e1 : ∀ s : RK, (rkD n s)[k]? = some (if s.pl k = true then (szW (s.x k) (s.y k)).dc else sp0.dc) := fun s => by simp [rkD, hk]
  rw [e1, e1]
  by_cases e : v = k
  ·subst e
   rw [if_pos rfl, if_pos hk]
   simp [gJ, cZ]
  ·rw [if_neg e]
   simp [gJ, cZ, Ne.symm e]
 ·rw [List.getElem?_eq_none (by rw [jp]; omega), List.getElem?_eq_none (by rw [jp]; omega)]
  split
  ·rw [if_neg (by omega)]
  ·rfl
theorem C3 {n : Nat} : List.replicate n sp0.dc = rkD n ⟨fun _ => false, fun _ => 0, fun _ => 0⟩ := by simp [rkD, List.map_const']
theorem wS {g : GR} (h : alP g = true) : rkD g.nodes.length (rk g (g.nodes.length - 1)) = (rkL g).map SP.dc := by
 unfold rkD rkL
 rw [List.map_map];refine List.map_congr_left fun v hv => ?_;rw [if_pos (pM.1 h v (List.mem_range.1 hv))]; rfl
theorem sA : rk0 = ⟨gJ (fun _ => false) 0, cZ (fun _ => 0) 0 0, cZ (fun _ => 0) 0 0⟩ := by
 have e1 : (fun v : Nat => decide (v = 0)) = gJ (fun _ => false) 0 := by funext v; simp [gJ]
 have e2 : (fun _ : Nat => (0 : Rat)) = cZ (fun _ => 0) 0 0 := by funext v; simp [cZ]
 unfold rk0
 rw [e1]
 congr
theorem AU {g : GR} (gv : GV g) {k : Nat} (ok : ∀ r ∈ g.nodes, r.OK k) (hk : Nat.ble 1 k = true) : ∀ l ∈ g.links, ql (dX g l) <= 4 * k + 7 /\ ql (dY g l) <= 4 * k + 7 := fun l hl => by
 have lv := gLV gv l hl
 have o := tE (ok _ (mY lv)) hk lv.ix lv.iy (m := 4 * k + 7) (Nat.ble_eq_true_of_le (Nat.le_refl _))
 have k1 := Nat.le_of_ble_eq_true hk
 have o1 := o.qx (Nat.ble_eq_true_of_le (by omega))
 have o2 := o.qy (Nat.ble_eq_true_of_le (by omega))
 rw [alS, dV] at o1;rw [alS, dT] at o2;exact ⟨o1, o2⟩
theorem zk {g : GR} (gv : GV g) {k : Nat} (ok : ∀ r ∈ g.nodes, r.OK k) (hk : Nat.ble 1 k = true) : ∀ p ∈ rkL g, p.OK (1 + 15 * (4 * k + 8)) := fun p hp => by
 obtain ⟨v, _, rfl⟩ := List.mem_map.1 hp
 have h := wR gv (AU gv ok hk) (g.nodes.length - 1) v
 have : (g.nodes.length - 1) * (4 * k + 7 + 1) <= 15 * (4 * k + 8) := Nat.mul_le_mul (by have := gv.n2; omega) (by omega)
 exact eM (Nat.le_trans h.1 (by omega)) (Nat.le_trans h.2 (by omega))
section
variable {st : St} {a sz n id : Nat} {es : List (List DC)}
theorem CF (h1 : st.σ id = some (.box [.own a sz 0 n])) (h2 : st.σ a = some (.arr sz es)) (h3 : es.length = n) : nw st id = some [.sl es] := by
 unfold nw
 rw [h1]
 have e : d8 st (.own a sz 0 n) = some (.sl es) := by
  simp only [d8, h2];rw [if_pos ⟨trivial, by omega⟩, List.drop_zero, List.take_of_length_le (by omega)]
 simp only [bW, e]
 rfl
theorem CK {f : FuncId} {c : SC} {d : DC} {ds : List DC} (hx : d8 st c = some d) (hc : nw st id = some ds) : qY st [.val (.one c), .clo f id] = some [.val (.one (.d d)), .fn f (some ds)] := by
 simp only [qY, CM, gS, hx, hc]
end

set_option maxHeartbeats 4000000 in
theorem tv (g : GR) (ok : ∀ r ∈ g.nodes, r.OK 4096) : Con Tryz.prog 17 [AG g.cs] { v := .tup [.one (.d (dSs (iz g).1)), .one (.d (lI (iz g).2))] } := by
 have cV := iZ g
 have cz := sP 0 ⟨by decide, by decide⟩
 refine Z2 Tryz.func17 ?_
 intro w0 X
 rw [aq _ _ [(0, AG g.cs)] rfl rfl];refine gQ fun _ Z9=>?_;refine aB rfl rfl rfl rfl rfl rfl ?_;refine Z7 ?_;refine Z7 ?_;refine eQ Z9 ?_;clear Z9;refine ah ?_
 by_cases hv : bR g = true
 ·have gv := b8.1 hv
  rw [hv] at cV;rw [iz, if_pos hv]
  have n1 := gv.n1
  have n16 := gv.n2
  have l48 := gv.l
  have lvs := gLV gv
  have qd := AU gv ok rfl
  obtain ⟨n, hn⟩ : ∃ n, n = g.nodes.length := ⟨_, rfl⟩
  refine gQ fun _ Z9=>?_;refine Z6 ?_;refine ab rfl rfl (cV) rfl rfl rfl rfl ?_;refine bd rfl rfl rfl ?_;refine eQ Z9 ?_;clear Z9;refine ap rfl (fun h => by cases h) (fun _ => ?_);refine aj ?_;show AWP _ _ _ _ _ _;refine gQ fun _ Z9=>?_;refine Z4 ?_;refine Z6 ?_;refine ay rfl (aL (l := g.nodes) RW.dc rfl rfl) rfl ?_;refine bn (sz := _) (es := _) (f := _) (v := _) rfl (yd (l := n) rfl rfl rfl rfl rfl (Nat.le_of_ble_eq_true rfl) (by decide) (by rw [hn]) (by rw [hn]) (by omega)) rfl rfl ?_;refine Z7 ?_;refine eQ Z9 ?_;clear Z9;refine gQ fun _ Z9=>?_;refine Z4 ?_;refine Z6 ?_;refine ay rfl (aL (l := g.nodes) RW.dc rfl rfl) rfl ?_;refine bn (sz := _) (es := _) (f := _) (v := _) rfl (yd (l := n) rfl rfl rfl rfl rfl (Nat.le_of_ble_eq_true rfl) (by decide) (by rw [hn]) (by rw [hn]) (by omega)) rfl rfl ?_;refine av rfl rfl rfl rfl rfl rfl ?_;refine tT rfl rfl rfl rfl rfl ?_;refine eQ Z9 ?_;clear Z9;refine aA tok mixed (A := [[], [], [], [], [], [], [], [], []]) (an := [{}, {}, {}, {}, {}, {}, { d := [5] }, {}, {}]) rfl (by kernel_rfl) rfl fun _ Z9=>?_;refine Z8 ?_;refine Z6 ?_;refine ab rfl rfl (cz) rfl rfl rfl rfl ?_;refine ab rfl rfl (cz) rfl rfl rfl rfl ?_;refine aG rfl rfl rfl ?_;refine ac rfl (x_o (i := 0) (j := 0) rfl rfl rfl rfl rfl (by omega) rfl) rfl ?_;refine ak rfl (xN (p := szW 0 0) rfl rfl rfl (by simp; omega) (fun el h => by rw [List.eq_of_mem_replicate h]; rfl)) rfl rfl rfl ?_;refine ac rfl (x_o (i := 0) (j := 0) rfl rfl rfl rfl rfl (by omega) rfl) rfl ?_;refine ak rfl (q7 (ds := bC true) rfl rfl (by simp; omega) (fun _ h => by rw [List.eq_of_mem_replicate (List.mem_of_getElem? h)]; rfl) rfl rfl rfl) rfl rfl rfl ?_;refine eQ Z9 ?_;clear Z9
  have e5 : (List.replicate n sp0.dc).set 0 (szW 0 0).dc = rkD n (rk g 0) := by
   rw [C3, kG]
   show _ = rkD n rk0
   rw [sA]
  have e6 : (List.replicate n (bC false)).set 0 (bC true) = plD n (rk g 0).pl := by
   have : List.replicate n (bC false) = plD n fun _ => false := by simp [plD, List.map_const']
   rw [this, kJ (by omega)]
   show _ = plD n rk0.pl
   rw [sA]
  refine ah ?_;refine ar (aN (α := Nat) (fun k => mk 83 [(1, .ptr 1 0), (4, .val (.one (.own 16 8 0 n))), (5, .ptr 5 0)] [(1, some (.box g.cs)), (16, some (.arr 8 (rkD n (rk g k)))), (5, some (.box [.own 20 1 0 n])), (20, some (.arr 1 (plD n (rk g k).pl)))] [5]) (fun k => k + 1 <= n /\ ∀ j, j < k -> nxK g (rk g j) ≠ none) (fun k => n - k) 0 ?_ ⟨by omega, fun j hj => by omega⟩ ?_)
  ·exact Wk.mk' ⟨rfl, rfl, rfl, trivial⟩ ⟨rfl, congrArg (fun x => some (OO.arr 8 x)) e5, rfl, congrArg (fun x => some (OO.arr 1 x)) e6, trivial⟩
  rintro k ⟨hk, hj⟩
  have cI := Ak n g.links (rk g k).pl (by rw [hn]; exact lvs) (by omega)
  have hx := wR gv qd k
  have kb : k * (4 * 4096 + 7 + 1) <= 16 * 16392 := Nat.mul_le_mul (by omega) (by decide)
  refine ar ?_;refine bh fun _ Z9=>?_;refine aa tok rfl ?_;refine Z4 ?_;refine ae ?_;refine aa tok rfl ?_;refine Z6 ?_;refine ae ?_;refine aa tok rfl ?_;refine u7 rfl rfl rfl ?_;refine ae ?_;refine Bs (args := [V1 (dLs g.links), .fn 57 (some [.sl (plD n (rk g k).pl)])]) cI rfl (CK rfl (CF rfl rfl gy)) ⟨rfl, fun _ _ h => by cases h⟩ rfl rfl rfl ?_;refine aa tok rfl ?_;refine Z7 ?_;refine ae ?_;refine aS rfl (Z9 _ ?_); clear Z9;refine ah ?_
  cases hx0 : nxK g (rk g k) with
  | none =>
   have ee : g.links.findIdx? (hfB (rk g k).pl) = none := hx0
   rw [ee]
   have hf := zj gv hx0 (by omega)
   refine gQ fun _ Z9=>?_;refine Z8 ?_;refine am rfl (cy (c := true) rfl) rfl ?_;refine eQ Z9 ?_;clear Z9;refine ap rfl (fun _ => ?_) (fun h => by cases h);refine az ?_;show AWP _ _ _ _ _ _
   have cC := uM n (rk g k).pl (by omega)
   have ea : alP g = (List.range n).all (rk g k).pl := by unfold alP; rw [hf, hn]
   rw [<- ea] at cC;refine ah ?_;refine eL [1, 4, 5] [1, 16, 5, 20] 20 [(1, .ptr 1 0), (4, .val (.one (.own 16 8 0 n))), (5, .ptr 5 0)] [(1, some (.box g.cs)), (16, some (.arr 8 (rkD n (rk g k)))), (5, some (.box [.d (.sl (plD n (rk g k).pl))]))] rfl ⟨rfl, rfl, rfl, trivial⟩ ⟨rfl, rfl, (by show some (OO.box [mX 20 1 _ (.own 20 1 0 _)]) = _; rw [Au rfl gy.symm]), trivial⟩ ?_
   cases ha : alP g with
   | false =>
    rw [ha] at cC;refine gQ fun _ Z9=>?_;refine Z6 ?_;refine ab rfl rfl (cC) rfl rfl rfl rfl ?_;refine eQ Z9 ?_;clear Z9;refine ap rfl (fun _ => ?_) (fun h => by cases h);refine gQ fun _ Z9=>?_;refine Z7 ?_;refine Z7 ?_;refine eQ Z9 ?_;clear Z9;exact ai aE
   | true =>
    rw [ha] at cC
    have er : rkD n (rk g k) = (rkL g).map SP.dc := by rw [<- hf, hn, wS ha]
    rw [er];refine gQ fun _ Z9=>?_;refine Z6 ?_;refine ab rfl rfl (cC) rfl rfl rfl rfl ?_;refine eQ Z9 ?_;clear Z9;refine ap rfl (fun h => by cases h) (fun _ => ?_);refine aj ?_;show AWP _ _ _ _ _ _;refine eL [4] [16] 16 [(4, V1 (dSs (rkL g)))] [] rfl ?_ trivial ?_
    ·exact ⟨cD rfl (by rw [List.length_map, jo, hn]), trivial⟩
    refine gQ fun _ Z9=>?_;refine Z8 ?_;refine Z7 ?_;refine Z7 ?_;refine eQ Z9 ?_;clear Z9;exact ai aE
  | some i =>
   obtain ⟨hi, _, hb, _⟩ := mP hx0
   have ee : g.links.findIdx? (hfB (rk g k).pl) = some i := hx0
   rw [ee]
   have hj' : ∀ j, j < k + 1 -> nxK g (rk g j) ≠ none := fun j hjk => by
    by_cases e : j = k
    ·rw [e, hx0]; simp
    ·exact hj j (by omega)
   have hk' := Eu gv hj'
   rw [<- hn] at hk'
   have es : rk g (k + 1) = rkS g g.links[i] (rk g k) := j9 hx0 hi
   obtain ⟨l, hl⟩ : ∃ l, l = g.links[i] := ⟨_, rfl⟩
   have hm : l ∈ g.links := hl ▸ List.getElem_mem hi
   have lv := lvs l hm
   have cA := uB g (i : Int) (fun r hr => (ok r hr).mono rfl) (by omega)
   have eA : cU g (i : Int) = (szW (dX g l) (dY g l), 0) := by
    unfold cU
    rw [if_pos hv, dif_pos ⟨by omega, by rw [Int.toNat_natCast]; exact hi⟩];simp only [Int.toNat_natCast, <- hl]; rfl
   rw [eA] at cA
   obtain ⟨qx, qy⟩ := qd l hm
   have od : (szW (dX g l) (dY g l)).OK 16777215 := eM (by omega) (by omega)
   rw [<- hl] at es hb;rw [<- hn] at lv
   obtain ⟨a, b, hla, hlb, e1, e2, hne⟩ := lv.lt
   unfold hfB at hb
   unfold rkS at es
   rw [e1, e2, Int.toNat_natCast, Int.toNat_natCast] at hb es
   have hxx : ∀ v, (rk g k).pl v = (rk g k).pl v := fun _ => rfl
   have qa := hx a
   have qb := hx b
   have oa : (szW ((rk g k).x a) ((rk g k).y a)).OK 16777215 := eM (by omega) (by omega)
   have ob : (szW ((rk g k).x b) ((rk g k).y b)).OK 16777215 := eM (by omega) (by omega)
   generalize hdx : dX g l = dx at cA od es;generalize hdy : dY g l = dy at cA od es;generalize hs : rk g k = s at hb es oa ob;refine gQ fun _ Z9=>?_;refine Z8 ?_;refine am rfl (cy (c := false) (decide_eq_false (by show ¬ (i : Int) < 0; omega))) rfl ?_;refine eQ Z9 ?_;clear Z9;refine ap rfl (fun h => by cases h) (fun _ => ?_);refine aj ?_;show AWP _ _ _ _ _ _;refine gQ fun _ Z9=>?_;refine Z4 ?_;refine Z6 ?_;refine Z8 ?_;refine ac rfl (x_m LK.dc rfl rfl rfl rfl hi rfl) rfl ?_;refine Z6 ?_;refine av rfl rfl rfl rfl rfl rfl ?_;refine ak rfl rfl rfl rfl rfl ?_;refine eQ Z9 ?_;clear Z9;rw [<- hl];refine gQ fun _ Z9=>?_;refine Z6 ?_;refine Z8 ?_;refine ab rfl rfl (cA) rfl rfl rfl rfl ?_;refine Z8 ?_;refine au rfl rfl rfl ?_;refine au rfl rfl rfl ?_;refine av rfl rfl rfl rfl rfl rfl ?_;refine ak rfl rfl rfl rfl rfl ?_;refine Z7 ?_;refine eQ Z9 ?_;clear Z9
   cases hp : s.pl a with
   | true =>
    rw [if_pos hp] at es
    have ga := pn (s := s) hla hp
    have gp := gW (p := s.pl) hla
    rw [hp] at gp
    have cP := CG (szW (s.x a) (s.y a)) (szW dx dy) (s.x a + dx) (s.y a + dy) oa od (by rw [dV, dV]) (by rw [dT, dT])
    refine gQ fun _ Z9=>?_;refine Z6 ?_;refine Z4 ?_;refine Z6 ?_;refine ac rfl (x_o (i := a) (j := a) rfl rfl rfl rfl e1 hla (Nat.zero_add _)) rfl ?_;refine bq rfl (l_o rfl rfl gp rfl rfl) rfl ?_;refine eQ Z9 ?_;clear Z9;refine ap rfl (fun _ => ?_) (fun h => by cases h);refine cE tok mixed (A := [[], [], [], [], [], [], [], [], [], [7], [6, 7, 8], [], [6, 7, 8, 9], [], [], [], []]) (an := [{}, {}, {}, {}, {}, {}, {}, {}, {}, {}, {}, {}, {}, {}, { d := [5, 54] }, {}, {}]) rfl (by kernel_rfl) rfl fun _ Z9=>?_;refine Z8 ?_;refine Z4 ?_;refine Z6 ?_;refine Z6 ?_;refine Z4 ?_;refine Z6 ?_;refine Z8 ?_;refine Z4 ?_;refine Z6 ?_;refine ac rfl (x_o (i := a) (j := a) rfl rfl rfl rfl e1 hla (Nat.zero_add _)) rfl ?_;refine bq rfl (l_o rfl rfl ga rfl rfl) rfl ?_;refine Z6 ?_;refine ab rfl rfl (cP) rfl rfl rfl rfl ?_;refine ac rfl (x_o (i := b) (j := b) rfl rfl rfl rfl e2 hlb (Nat.zero_add _)) rfl ?_;refine ak rfl (xN (p := szW (s.x a + dx) (s.y a + dy)) rfl rfl rfl (by rw [jp]; exact hlb) sw) rfl rfl rfl ?_;refine ac rfl (x_o (i := b) (j := b) rfl rfl rfl rfl e2 hlb (Nat.zero_add _)) rfl ?_;refine ak rfl (q7 (ds := bC true) rfl rfl (by rw [gy]; exact hlb) (fun _ h => sT h) rfl rfl rfl) rfl rfl rfl ?_;refine eQ Z9 ?_;clear Z9;rw [kG, kJ hlb];refine ⟨k + 1, by omega, ⟨hk', hj'⟩, ?_⟩;rw [es];exact Wk.mk' ⟨rfl, rfl, rfl, trivial⟩ ⟨rfl, rfl, rfl, rfl, trivial⟩
   | false =>
    rw [if_neg (by rw [hp]; decide)] at es;rw [hp] at hb
    have hpb : s.pl b = true := by simpa using hb
    have ga := pn (s := s) hlb hpb
    have gp := gW (p := s.pl) hla
    rw [hp] at gp
    have cP := qV (szW (s.x b) (s.y b)) (szW dx dy) (s.x b - dx) (s.y b - dy) ob od (by rw [dV, dV]) (by rw [dT, dT])
    refine gQ fun _ Z9=>?_;refine Z6 ?_;refine Z4 ?_;refine Z6 ?_;refine ac rfl (x_o (i := a) (j := a) rfl rfl rfl rfl e1 hla (Nat.zero_add _)) rfl ?_;refine bq rfl (l_o rfl rfl gp rfl rfl) rfl ?_;refine eQ Z9 ?_;clear Z9;refine ap rfl (fun h => by cases h) (fun _ => ?_);refine cE tok mixed (A := [[], [], [], [], [], [], [], [], [], [7], [6, 7, 8], [], [6, 7, 8, 9], [], [], [], []]) (an := [{}, {}, {}, {}, {}, {}, {}, {}, {}, {}, {}, {}, {}, {}, { d := [5, 69] }, {}, {}]) rfl (by kernel_rfl) rfl fun _ Z9=>?_;refine Z8 ?_;refine Z4 ?_;refine Z6 ?_;refine Z6 ?_;refine Z4 ?_;refine Z6 ?_;refine Z8 ?_;refine Z4 ?_;refine Z6 ?_;refine ac rfl (x_o (i := b) (j := b) rfl rfl rfl rfl e2 hlb (Nat.zero_add _)) rfl ?_;refine bq rfl (l_o rfl rfl ga rfl rfl) rfl ?_;refine Z6 ?_;refine ab rfl rfl (cP) rfl rfl rfl rfl ?_;refine ac rfl (x_o (i := a) (j := a) rfl rfl rfl rfl e1 hla (Nat.zero_add _)) rfl ?_;refine ak rfl (xN (p := szW (s.x b - dx) (s.y b - dy)) rfl rfl rfl (by rw [jp]; exact hla) sw) rfl rfl rfl ?_;refine ac rfl (x_o (i := a) (j := a) rfl rfl rfl rfl e1 hla (Nat.zero_add _)) rfl ?_;refine ak rfl (q7 (ds := bC true) rfl rfl (by rw [gy]; exact hla) (fun _ h => sT h) rfl rfl rfl) rfl rfl rfl ?_;refine eQ Z9 ?_;clear Z9;rw [kG, kJ hla];refine ⟨k + 1, by omega, ⟨hk', hj'⟩, ?_⟩;rw [es];exact Wk.mk' ⟨rfl, rfl, rfl, trivial⟩ ⟨rfl, rfl, rfl, rfl, trivial⟩
 ·rw [iz, if_neg hv];rw [Bool.eq_false_iff.2 hv] at cV;refine gQ fun _ Z9=>?_;refine Z6 ?_;refine ab rfl rfl (cV) rfl rfl rfl rfl ?_;refine bd rfl rfl rfl ?_;refine eQ Z9 ?_;clear Z9;refine ap rfl (fun _ => ?_) (fun h => by cases h);refine gQ fun _ Z9=>?_;refine Z7 ?_;refine Z7 ?_;refine eQ Z9 ?_;clear Z9;exact ai aE
end Go.Proofs.YtnoildlijhapaaaGreatDoor

/- Offsets and near spots, the program's and the reference's. No condition. -/
namespace Go.Proofs.YtnoildlijhapaaaGreatDoor
attribute [local irreducible] aC
open Go.RowKit

theorem D6 {T : Tab} {t : TypeId} (a b : Nat) : aH T .eql t (dI a) (dI b) = .set (dB (decide (a = b))) := by
 refine dS ?_;rw [Bool.eq_iff_iff]; simp only [beq_iff_eq, decide_eq_true_eq]; omega
theorem uP (g : GR) (s : List SP) : Con Tryz.prog 67 [AG g.cs, V1 (dSs s)] { v := dB (da g s) } := by
 have cV := iZ g
 have e : da g s = (bR g && decide (s.length = g.nodes.length)) := rfl
 rw [e];generalize bR g = b at cV;refine Z2 Tryz.func67 ?_
 intro w0 X
 rw [aq _ _ [(0, AG g.cs), (1, V1 (dSs s))] rfl rfl];refine gQ fun _ Z9=>?_;refine aB rfl rfl rfl rfl rfl rfl ?_;refine Z7 ?_;refine eQ Z9 ?_;clear Z9
 cases b with
 | true =>
  refine gQ fun _ Z9=>?_;refine Z6 ?_;refine ab rfl rfl (cV) rfl rfl rfl rfl ?_;refine Z8 ?_;refine Z8 ?_;refine ay rfl (aL SP.dc rfl rfl) rfl ?_;refine Z4 ?_;refine Z6 ?_;refine ay rfl (aL RW.dc rfl rfl) rfl ?_;refine am rfl (D6 _ _) rfl ?_;refine Z3 ?_;refine Z7 ?_;refine eQ Z9 ?_;clear Z9;exact ai aE
 | false =>
  refine gQ fun _ Z9=>?_;refine Z6 ?_;refine ab rfl rfl (cV) rfl rfl rfl rfl ?_;refine Z8 ?_;refine ag rfl ?_;refine ag rfl ?_;refine ag rfl ?_;refine ag rfl ?_;refine ag rfl ?_;refine ag rfl ?_;refine Z3 ?_;refine Z7 ?_;refine eQ Z9 ?_;clear Z9;exact ai aE
theorem CP (g : GR) (l : LK) : Con Tryz.prog 68 [AG g.cs, AG l.cs] { v := AG (rj g l).cs } := by
 refine Z2 Tryz.func68 ?_
 intro w0 X
 rw [aq _ _ [(0, AG g.cs), (1, AG l.cs)] rfl rfl];refine gQ fun _ Z9=>?_;refine aB rfl rfl rfl rfl rfl rfl ?_;refine aB rfl rfl rfl rfl rfl rfl ?_;refine av rfl rfl rfl rfl rfl rfl ?_;refine eQ Z9 ?_;clear Z9;refine bh fun _ Z9=>?_;refine aa tok rfl ?_;refine Z4 ?_;refine ae ?_;refine aa tok rfl ?_;refine Z6 ?_;refine ae ?_;refine aa tok rfl ?_;refine Z6 ?_;refine ae ?_;refine aa tok rfl ?_;refine aI rfl rfl rfl rfl ?_;refine ae ?_;refine sh (Wk.fzNew rfl rfl rfl) ?_;refine aa tok rfl ?_;refine aG rfl rfl rfl ?_;refine ae ?_;refine aa tok rfl ?_;refine ak rfl rfl rfl rfl rfl ?_;refine ae ?_;refine aS rfl (Z9 _ ?_); clear Z9;exact ai aE
theorem se {g : GR} {l : LK} (h : iC g l = true) : cU (rj g l) 0 = (szW (dX g l) (dY g l), 0) := by
 unfold cU
 rw [if_pos (show bR (rj g l) = true from h), dif_pos ⟨Int.le_refl 0, by show 0 < 1; omega⟩]
 rfl
theorem sU {g : GR} {l : LK} {k m : Nat} (lv : LV g.nodes.length l) (ok : ∀ r ∈ g.nodes, r.OK k) (hk : Nat.ble 1 k = true) (hm : Nat.ble (4 * k + 7) m = true) : (szW (dX g l) (dY g l)).OK m := tE (ok _ (mY lv)) hk lv.ix lv.iy hm
section
variable {g : GR} {s : List SP} {l : LK}
theorem xb (gs : GS g s) (lv : LV g.nodes.length l) {k m : Nat} (ok : ∀ r ∈ g.nodes, r.OK k) (os : ∀ p ∈ s, p.OK k) (hk : Nat.ble 1 k = true) (hm : 6 * k + 10 <= m) : (o6 g s l).OK m := by
 have k1 := Nat.le_of_ble_eq_true hk
 have o := sU lv ok hk (m := 4 * k + 7) (Nat.ble_eq_true_of_le (Nat.le_refl _))
 have o1 := o.qx (Nat.ble_eq_true_of_le (by omega))
 have o2 := o.qy (Nat.ble_eq_true_of_le (by omega))
 rw [dV] at o1;rw [dT] at o2
 have ha := os _ (gB lv.f gs.hs)
 have hb := os _ (gB lv.t gs.hs)
 exact eM (Nat.le_trans (bv (bv (hb.qx hk) (ha.qx hk)) o1) (by omega)) (Nat.le_trans (bv (bv (hb.qy hk) (ha.qy hk)) o2) (by omega))
end
set_option maxHeartbeats 2000000 in
theorem wo (g : GR) (s : List SP) (l : LK) (ok : ∀ r ∈ g.nodes, r.OK 4096) (os : ∀ p ∈ s, p.OK 4096) : Con Tryz.prog 21 [AG g.cs, V1 (dSs s), AG l.cs] { v := .tup [.agg (eW g s l).1.cs, .one (.d (lI (eW g s l).2))] } := by
 have cR := uP g s
 have cA := CP g l
 have cV := iZ (rj g l)
 have cL := uB (rj g l) 0 (fun r hr => (ok r hr).mono rfl) (by show 1 <= 9223372036854775806; omega)
 refine Z2 Tryz.func21 ?_
 intro w0 X
 rw [aq _ _ [(0, AG g.cs), (1, V1 (dSs s)), (2, AG l.cs)] rfl rfl];refine gQ fun _ Z9=>?_;refine aB rfl rfl rfl rfl rfl rfl ?_;refine aB rfl rfl rfl rfl rfl rfl ?_;refine av rfl rfl rfl rfl rfl rfl ?_;refine Z7 ?_;refine eQ Z9 ?_;clear Z9;refine ah ?_
 cases hc : da g s with
 | false =>
  have e : eW g s l = (sp0, 1) := by unfold eW; rw [hc]; rfl
  rw [e];rw [hc] at cR;refine gQ fun _ Z9=>?_;refine Z6 ?_;refine Z8 ?_;refine ab rfl rfl (cR) rfl rfl rfl rfl ?_;refine bd rfl rfl rfl ?_;refine Z8 ?_;refine ag rfl ?_;refine ag rfl ?_;refine ag rfl ?_;refine ag rfl ?_;refine ag rfl ?_;refine Z3 ?_;refine eQ Z9 ?_;clear Z9;refine ap rfl (fun _ => ?_) (fun h => by cases h);refine gQ fun _ Z9=>?_;refine aG rfl rfl rfl ?_;refine ak rfl rfl rfl rfl rfl ?_;refine Z7 ?_;refine eQ Z9 ?_;clear Z9;exact ai aE
 | true =>
  have gs := eI.1 hc
  rw [hc] at cR
  cases hf : iC g l with
  | false =>
   have e : eW g s l = (sp0, 1) := by unfold eW; rw [hc, hf]; rfl
   rw [e];rw [show bR (rj g l) = false from hf] at cV;refine gQ fun _ Z9=>?_;refine Z6 ?_;refine Z8 ?_;refine ab rfl rfl (cR) rfl rfl rfl rfl ?_;refine bd rfl rfl rfl ?_;refine Z8 ?_;refine Z6 ?_;refine Z6 ?_;refine ab rfl rfl (cA) rfl rfl rfl rfl ?_;refine ab rfl rfl (cV) rfl rfl rfl rfl ?_;refine bd rfl rfl rfl ?_;refine Z3 ?_;refine eQ Z9 ?_;clear Z9;refine ap rfl (fun _ => ?_) (fun h => by cases h);refine gQ fun _ Z9=>?_;refine aG rfl rfl rfl ?_;refine ak rfl rfl rfl rfl rfl ?_;refine Z7 ?_;refine eQ Z9 ?_;clear Z9;exact ai aE
  | true =>
   have e : eW g s l = (o6 g s l, 0) := by unfold eW; rw [hc, hf]; rfl
   rw [e];rw [show bR (rj g l) = true from hf] at cV;rw [se hf] at cL
   have lv : LV g.nodes.length l := cK.1 ((kk gs.gv).symm.trans hf)
   have od := sU lv ok rfl (m := 16391) rfl
   have oF := os _ (gB lv.f gs.hs)
   have oT := os _ (gB lv.t gs.hs)
   obtain ⟨i, j, hi, hj, e1, e2, _⟩ := lv.lt
   have hi' : i < s.length := by have := gs.hs; omega
   have hj' : j < s.length := by have := gs.hs; omega
   have eF := kR e1 hi'
   have eT := kR e2 hj'
   have c1 := qV (atS s l.t) (atS s l.f) _ _ (oT.mono rfl) (oF.mono rfl) rfl rfl
   have o1 : (szW ((atS s l.t).vx - (atS s l.f).vx) ((atS s l.t).vy - (atS s l.f).vy)).OK 16777215 := eM (aM (bv (oT.qx rfl) (oF.qx rfl)) rfl) (aM (bv (oT.qy rfl) (oF.qy rfl)) rfl)
   have c2 := qV _ (szW (dX g l) (dY g l)) (vB g s l) (vA g s l) o1 (od.mono rfl) (by rw [dV, dV]; rfl) (by rw [dT, dT]; rfl)
   rw [eF, eT] at c1;rw [eF, eT] at c2
   unfold o6
   generalize szW (dX g l) (dY g l) = d at cL c2;generalize szW (vB g s l) (vA g s l) = r at c2 ⊢;refine gQ fun _ Z9=>?_;refine Z6 ?_;refine Z8 ?_;refine ab rfl rfl (cR) rfl rfl rfl rfl ?_;refine bd rfl rfl rfl ?_;refine Z8 ?_;refine Z6 ?_;refine Z6 ?_;refine ab rfl rfl (cA) rfl rfl rfl rfl ?_;refine ab rfl rfl (cV) rfl rfl rfl rfl ?_;refine bd rfl rfl rfl ?_;refine Z3 ?_;refine eQ Z9 ?_;clear Z9;refine ap rfl (fun h => by cases h) (fun _ => ?_);refine aj ?_;show AWP _ _ _ _ _ _;refine gQ fun _ Z9=>?_;refine Z6 ?_;refine Z6 ?_;refine ab rfl rfl (cA) rfl rfl rfl rfl ?_;refine ab rfl rfl (cL) rfl rfl rfl rfl ?_;refine Z8 ?_;refine au rfl rfl rfl ?_;refine au rfl rfl rfl ?_;refine av rfl rfl rfl rfl rfl rfl ?_;refine ak rfl rfl rfl rfl rfl ?_;refine Z7 ?_;refine eQ Z9 ?_;clear Z9;refine aA tok mixed (A := [[], [], [], [1], [0, 1, 2], [], [], [], [6], [5, 6, 7], [0, 1, 2, 3, 5, 6, 7, 8], [], [0, 1, 2, 3, 4, 5, 6, 7, 8, 9], [], []]) (an := [{}, {}, {}, {}, {}, {}, {}, {}, {}, {}, {}, { c := [39] }, {}, {}, {}]) rfl (by kernel_rfl) rfl fun _ Z9=>?_;refine Z8 ?_;refine Z4 ?_;refine Z6 ?_;refine ac rfl (x_m SP.dc rfl rfl rfl e2 hj' rfl) rfl ?_;refine Z6 ?_;refine Z8 ?_;refine Z4 ?_;refine Z6 ?_;refine ac rfl (x_m SP.dc rfl rfl rfl e1 hi' rfl) rfl ?_;refine Z6 ?_;refine ab rfl rfl (c1) rfl rfl rfl rfl ?_;refine Z6 ?_;refine ab rfl rfl (c2) rfl rfl rfl rfl ?_;refine ak rfl rfl rfl rfl rfl ?_;refine Z7 ?_;refine eQ Z9 ?_;clear Z9;exact ai aE

theorem BS (g : GR) (l : LK) : Con Tryz.prog 69 [AG g.cs, AG l.cs] { v := dB (iC g l) } := by
 have cV := ia (rj g l) (by show 1 <= 9223372036854775806; omega)
 refine Z2 Tryz.func69 ?_
 intro w0 X
 rw [aq _ _ [(0, AG g.cs), (1, AG l.cs)] rfl rfl];refine gQ fun _ Z9=>?_;refine aB rfl rfl rfl rfl rfl rfl ?_;refine aB rfl rfl rfl rfl rfl rfl ?_;refine Z7 ?_;refine eQ Z9 ?_;clear Z9;refine bh fun _ Z9=>?_;refine aa tok rfl ?_;refine Z4 ?_;refine ae ?_;refine aa tok rfl ?_;refine Z6 ?_;refine ae ?_;refine aa tok rfl ?_;refine Z6 ?_;refine ae ?_;refine aa tok rfl ?_;refine aI rfl rfl rfl rfl ?_;refine ae ?_;refine sh (Wk.fzNew rfl rfl rfl) ?_;refine aa tok rfl ?_;refine aG rfl rfl rfl ?_;refine ae ?_;refine aa tok rfl ?_;refine ab rfl rfl (cV) rfl rfl rfl rfl ?_;refine ae ?_;refine aa tok rfl ?_;refine Z7 ?_;refine ae ?_;refine aS rfl (Z9 _ ?_); clear Z9;exact ai aE
theorem wX (g : GR) (l : LK) (ok : ∀ r ∈ g.nodes, r.OK 4096) (h : iC g l = true) : Con Tryz.prog 64 [AG g.cs, AG l.cs] { v := AG (szW (dX g l) (dY g l)).cs } := by
 have cL := vo (rj g l) 0 (fun r hr => (ok r hr).mono rfl) (by show 1 <= 9223372036854775806; omega)
 rw [se h] at cL;generalize szW (dX g l) (dY g l) = d at cL ⊢;refine Z2 Tryz.func64 ?_
 intro w0 X
 rw [aq _ _ [(0, AG g.cs), (1, AG l.cs)] rfl rfl];refine gQ fun _ Z9=>?_;refine aB rfl rfl rfl rfl rfl rfl ?_;refine aB rfl rfl rfl rfl rfl rfl ?_;refine av rfl rfl rfl rfl rfl rfl ?_;refine eQ Z9 ?_;clear Z9;refine bh fun _ Z9=>?_;refine aa tok rfl ?_;refine Z4 ?_;refine ae ?_;refine aa tok rfl ?_;refine Z6 ?_;refine ae ?_;refine aa tok rfl ?_;refine Z6 ?_;refine ae ?_;refine aa tok rfl ?_;refine aI rfl rfl rfl rfl ?_;refine ae ?_;refine sh (Wk.fzNew rfl rfl rfl) ?_;refine aa tok rfl ?_;refine aG rfl rfl rfl ?_;refine ae ?_;refine aa tok rfl ?_;refine ab rfl rfl (cL) rfl rfl rfl rfl ?_;refine ae ?_;refine aa tok rfl ?_;refine Z8 ?_;refine ae ?_;refine aa tok rfl ?_;refine au rfl rfl rfl ?_;refine ae ?_;refine aa tok rfl ?_;refine au rfl rfl rfl ?_;refine ae ?_;refine aa tok rfl ?_;refine av rfl rfl rfl rfl rfl rfl ?_;refine ae ?_;refine aa tok rfl ?_;refine ak rfl rfl rfl rfl rfl ?_;refine ae ?_;refine aa tok rfl ?_;refine Z7 ?_;refine ae ?_;refine aS rfl (Z9 _ ?_); clear Z9;refine gQ fun _ Z9=>?_;refine Z6 ?_;refine ak rfl rfl rfl rfl rfl ?_;refine eQ Z9 ?_;clear Z9;exact ai aE
set_option maxHeartbeats 2000000 in
theorem zD (g : GR) (s : List SP) (l : LK) (ok : ∀ r ∈ g.nodes, r.OK 4096) (os : ∀ p ∈ s, p.OK 4096) (hl : g.links.length <= 9223372036854775806) : Con Tryz.prog 22 [AG g.cs, V1 (dSs s), AG l.cs] { v := .tup [.agg (eW g s l).1.cs, .one (.d (lI (eW g s l).2))] } := by
 have cV := ia g hl
 have cF := BS g l
 refine Z2 Tryz.func22 ?_
 intro w0 X
 rw [aq _ _ [(0, AG g.cs), (1, V1 (dSs s)), (2, AG l.cs)] rfl rfl];refine gQ fun _ Z9=>?_;refine aB rfl rfl rfl rfl rfl rfl ?_;refine aB rfl rfl rfl rfl rfl rfl ?_;refine av rfl rfl rfl rfl rfl rfl ?_;refine Z7 ?_;refine eQ Z9 ?_;clear Z9;refine ah ?_
 cases hv : bR g with
 | false =>
  have e : eW g s l = (sp0, 1) := by unfold eW da; rw [hv]; rfl
  rw [e];rw [hv] at cV;refine gQ fun _ Z9=>?_;refine Z6 ?_;refine ab rfl rfl (cV) rfl rfl rfl rfl ?_;refine bd rfl rfl rfl ?_;refine Z8 ?_;refine ag rfl ?_;refine ag rfl ?_;refine ag rfl ?_;refine ag rfl ?_;refine ag rfl ?_;refine ag rfl ?_;refine Z3 ?_;refine Z8 ?_;refine ag rfl ?_;refine ag rfl ?_;refine ag rfl ?_;refine ag rfl ?_;refine Z3 ?_;refine eQ Z9 ?_;clear Z9;refine ap rfl (fun _ => ?_) (fun h => by cases h);refine gQ fun _ Z9=>?_;refine aG rfl rfl rfl ?_;refine ak rfl rfl rfl rfl rfl ?_;refine Z7 ?_;refine eQ Z9 ?_;clear Z9;exact ai aE
 | true =>
  rw [hv] at cV
  by_cases hs : s.length = g.nodes.length
  ·have hc : da g s = true := eI.2 ⟨b8.1 hv, hs⟩
   have gs := eI.1 hc
   cases hf : iC g l with
   | false =>
    have e : eW g s l = (sp0, 1) := by unfold eW; rw [hc, hf]; rfl
    rw [e];rw [hf] at cF;refine gQ fun _ Z9=>?_;refine Z6 ?_;refine ab rfl rfl (cV) rfl rfl rfl rfl ?_;refine bd rfl rfl rfl ?_;refine Z8 ?_;refine Z8 ?_;refine ay rfl (aL SP.dc rfl rfl) rfl ?_;refine Z4 ?_;refine Z6 ?_;refine ay rfl (aL RW.dc rfl rfl) rfl ?_;refine am rfl (ja (c := false) (by simp [hs])) rfl ?_;refine Z3 ?_;refine Z8 ?_;refine Z6 ?_;refine Z6 ?_;refine ab rfl rfl (cF) rfl rfl rfl rfl ?_;refine bd rfl rfl rfl ?_;refine Z3 ?_;refine eQ Z9 ?_;clear Z9;refine ap rfl (fun _ => ?_) (fun h => by cases h);refine gQ fun _ Z9=>?_;refine aG rfl rfl rfl ?_;refine ak rfl rfl rfl rfl rfl ?_;refine Z7 ?_;refine eQ Z9 ?_;clear Z9;exact ai aE
   | true =>
    have e : eW g s l = (o6 g s l, 0) := by unfold eW; rw [hc, hf]; rfl
    rw [e];rw [hf] at cF
    have cW := wX g l ok hf
    have lv : LV g.nodes.length l := cK.1 ((kk gs.gv).symm.trans hf)
    have od := sU lv ok rfl (m := 16391) rfl
    have oF := os _ (gB lv.f gs.hs)
    have oT := os _ (gB lv.t gs.hs)
    obtain ⟨i, j, hi, hj, e1, e2, _⟩ := lv.lt
    have hi' : i < s.length := by have := gs.hs; omega
    have hj' : j < s.length := by have := gs.hs; omega
    have eF := kR e1 hi'
    have eT := kR e2 hj'
    have q1 := bv (oT.qx rfl) (oF.qx rfl)
    have q2 := bv (oT.qy rfl) (oF.qy rfl)
    have c1 := jr (atS s l.t).x (atS s l.f).x ((atS s l.t).vx - (atS s l.f).vx) (oT.x.mono rfl) (oF.x.mono rfl) rfl
    have c2 := jr (qzW ((atS s l.t).vx - (atS s l.f).vx)) (szW (dX g l) (dY g l)).x (vB g s l) ((bj q1).mono rfl) (od.x.mono rfl) (by rw [bB]; show _ - (szW (dX g l) (dY g l)).vx = _; rw [dV]; rfl)
    have c3 := jr (atS s l.t).y (atS s l.f).y ((atS s l.t).vy - (atS s l.f).vy) (oT.y.mono rfl) (oF.y.mono rfl) rfl
    have c4 := jr (qzW ((atS s l.t).vy - (atS s l.f).vy)) (szW (dX g l) (dY g l)).y (vA g s l) ((bj q2).mono rfl) (od.y.mono rfl) (by rw [bB]; show _ - (szW (dX g l) (dY g l)).vy = _; rw [dT]; rfl)
    rw [eF, eT] at c1 c2 c3 c4
    unfold o6
    have ez : szW (vB g s l) (vA g s l) = ⟨qzW (vB g s l), qzW (vA g s l)⟩ := rfl
    rw [ez];generalize szW (dX g l) (dY g l) = d at cW c2 c4;generalize qzW (vB g s l) = rx at c2 ⊢;generalize qzW (vA g s l) = ry at c4 ⊢;refine gQ fun _ Z9=>?_;refine Z6 ?_;refine ab rfl rfl (cV) rfl rfl rfl rfl ?_;refine bd rfl rfl rfl ?_;refine Z8 ?_;refine Z8 ?_;refine ay rfl (aL SP.dc rfl rfl) rfl ?_;refine Z4 ?_;refine Z6 ?_;refine ay rfl (aL RW.dc rfl rfl) rfl ?_;refine am rfl (ja (c := false) (by simp [hs])) rfl ?_;refine Z3 ?_;refine Z8 ?_;refine Z6 ?_;refine Z6 ?_;refine ab rfl rfl (cF) rfl rfl rfl rfl ?_;refine bd rfl rfl rfl ?_;refine Z3 ?_;refine eQ Z9 ?_;clear Z9;refine ap rfl (fun h => by cases h) (fun _ => ?_);refine aj ?_;show AWP _ _ _ _ _ _;refine gQ fun _ Z9=>?_;refine Z6 ?_;refine Z6 ?_;refine ab rfl rfl (cW) rfl rfl rfl rfl ?_;refine av rfl rfl rfl rfl rfl rfl ?_;refine ak rfl rfl rfl rfl rfl ?_;refine eQ Z9 ?_;clear Z9;refine aA tok mixed (A := [[], [], [], [1], [0, 1, 2], [0, 1, 2, 3], [], [], [], [7], [6, 7, 8], [6, 7, 8, 9], [0, 1, 2, 3, 4, 6, 7, 8, 9, 10], [], [], [0, 1, 2, 3, 4, 5, 6, 7, 8, 9, 10, 11, 13], [], []]) (an := [{}, {}, {}, {}, {}, {}, {}, {}, {}, {}, {}, {}, {}, { c := [44] }, { c := [44] }, {}, { c := [44, 47] }, {}]) rfl (by kernel_rfl) rfl fun _ Z9=>?_;refine Z8 ?_;refine Z4 ?_;refine Z6 ?_;refine ac rfl (x_m SP.dc rfl rfl rfl e2 hj' rfl) rfl ?_;refine Z4 ?_;refine Z6 ?_;refine Z8 ?_;refine Z4 ?_;refine Z6 ?_;refine ac rfl (x_m SP.dc rfl rfl rfl e1 hi' rfl) rfl ?_;refine Z4 ?_;refine Z6 ?_;refine ab rfl rfl (c1) rfl rfl rfl rfl ?_;refine Z4 ?_;refine Z6 ?_;refine ab rfl rfl (c2) rfl rfl rfl rfl ?_;refine av rfl rfl rfl rfl rfl rfl ?_;refine ak rfl rfl rfl rfl rfl ?_;refine eQ Z9 ?_;clear Z9;refine aA tok mixed (A := [[], [], [], [1], [0, 1, 2], [0, 1, 2, 3], [], [], [], [7], [6, 7, 8], [6, 7, 8, 9], [0, 1, 2, 3, 4, 6, 7, 8, 9, 10], [], [], [0, 1, 2, 3, 4, 5, 6, 7, 8, 9, 10, 11, 13], [], []]) (an := [{}, {}, {}, {}, {}, {}, {}, {}, {}, {}, {}, {}, {}, { c := [60] }, { c := [60] }, {}, { c := [60, 63] }, {}]) rfl (by kernel_rfl) rfl fun _ Z9=>?_;refine Z8 ?_;refine Z4 ?_;refine Z6 ?_;refine ac rfl (x_m SP.dc rfl rfl rfl e2 hj' rfl) rfl ?_;refine Z4 ?_;refine Z6 ?_;refine Z8 ?_;refine Z4 ?_;refine Z6 ?_;refine ac rfl (x_m SP.dc rfl rfl rfl e1 hi' rfl) rfl ?_;refine Z4 ?_;refine Z6 ?_;refine ab rfl rfl (c3) rfl rfl rfl rfl ?_;refine Z4 ?_;refine Z6 ?_;refine ab rfl rfl (c4) rfl rfl rfl rfl ?_;refine av rfl rfl rfl rfl rfl rfl ?_;refine ak rfl rfl rfl rfl rfl ?_;refine eQ Z9 ?_;clear Z9;refine gQ fun _ Z9=>?_;refine Z6 ?_;refine Z6 ?_;refine aG rfl rfl rfl ?_;refine ak rfl rfl rfl rfl rfl ?_;refine Z7 ?_;refine eQ Z9 ?_;clear Z9;exact ai aE
  ·have hc : da g s = false := by unfold da; rw [decide_eq_false hs, Bool.and_false]
   have e : eW g s l = (sp0, 1) := by unfold eW; rw [hc]; rfl
   rw [e];refine gQ fun _ Z9=>?_;refine Z6 ?_;refine ab rfl rfl (cV) rfl rfl rfl rfl ?_;refine bd rfl rfl rfl ?_;refine Z8 ?_;refine Z8 ?_;refine ay rfl (aL SP.dc rfl rfl) rfl ?_;refine Z4 ?_;refine Z6 ?_;refine ay rfl (aL RW.dc rfl rfl) rfl ?_;refine am rfl (ja (c := true) (by simp; omega)) rfl ?_;refine Z3 ?_;refine Z8 ?_;refine ag rfl ?_;refine ag rfl ?_;refine ag rfl ?_;refine ag rfl ?_;refine Z3 ?_;refine eQ Z9 ?_;clear Z9;refine ap rfl (fun _ => ?_) (fun h => by cases h);refine gQ fun _ Z9=>?_;refine aG rfl rfl rfl ?_;refine ak rfl rfl rfl rfl rfl ?_;refine Z7 ?_;refine eQ Z9 ?_;clear Z9;exact ai aE
/-! ### Near -/
theorem uW (t : Int) : Con Tryz.prog 71 [dI t] { v := dB (tolB t) } := by
 refine Z2 Tryz.func71 ?_
 intro w0 X
 rw [aq _ _ [(0, dI t)] rfl rfl];refine gQ fun _ Z9=>?_;refine Z7 ?_;refine eQ Z9 ?_;clear Z9
 by_cases h : 0 <= t
 ·refine gQ fun _ Z9=>?_;refine Z8 ?_;refine am rfl (jb (c := true) (decide_eq_true h)) rfl ?_;refine Z8 ?_;refine Z8 ?_;refine am rfl (nj (c := tolB t) (by unfold tolB; rw [Bool.eq_iff_iff, decide_eq_true_eq, decide_eq_true_eq]; omega)) rfl ?_;refine Z3 ?_;refine Z7 ?_;refine eQ Z9 ?_;clear Z9;exact ai aE
 ·have e : tolB t = false := decide_eq_false (by omega)
  rw [e];refine gQ fun _ Z9=>?_;refine Z8 ?_;refine am rfl (jb (c := false) (decide_eq_false (by omega))) rfl ?_;refine Z8 ?_;refine ag rfl ?_;refine ag rfl ?_;refine Z3 ?_;refine Z7 ?_;refine eQ Z9 ?_;clear Z9;exact ai aE
theorem B3 (a b : Rat) (t : Int) : decide (iT (if (a - b).num.sign < 0 then -(a - b) else a - b) ((2 * t : Int) : Rat) <= 0) = wiB (a - b) (2 * t) := by
 rw [Bool.eq_iff_iff, decide_eq_true_eq, ib, il]
 have hs : (a - b).num.sign < 0 ↔ a - b < 0 := by
  rw [Int.sign_neg_iff, <- Int.not_le, <- Rat.not_le, Rat.num_nonneg]
 by_cases h : a - b < 0
 ·rw [if_pos (hs.2 h)]
  constructor
  ·intro h1; exact ⟨by grind, by grind⟩
  ·rintro ⟨h1, h2⟩; grind
 ·rw [if_neg (fun x => h (hs.1 x))]
  constructor
  ·intro h1; exact ⟨by grind, by grind⟩
  ·rintro ⟨h1, h2⟩; grind
theorem wK {t : Int} (h : tolB t = true) : I64 (2 * t) /\ I64 (-(2 * t)) := by
 have := of_decide_eq_true h
 exact ⟨⟨by omega, by omega⟩, ⟨by omega, by omega⟩⟩
theorem qZ (a b : RW) (t : Int) (oa : a.OK 262144) (ob : b.OK 262144) (ht : tolB t = true) : Con Tryz.prog 77 [AG a.cs, AG b.cs, dI t] { v := dB (wiB (a.v - b.v) (2 * t)) } := by
 have hi := (wK ht).1
 have q := bv (oa.ql rfl) (ob.ql rfl)
 have c1 := qj a b _ (oa.mono rfl) (ob.mono rfl) rfl
 have c2 := mM (qzW (a.v - b.v)) ((bj q).mono rfl)
 have c3 := DA (qzW (a.v - b.v)) ((bj q).mono rfl)
 have c4 := sP (2 * t) hi
 have q' : ql (-(a.v - b.v)) <= 524289 := by rw [sO]; exact q
 have o4 := bj (gn hi)
 have c5 := kf (qzW (a.v - b.v)) (qzW ((2 * t : Int) : Rat)) ((bj q).mono rfl) (o4.mono rfl)
 have c6 := kf (qzW (-(a.v - b.v))) (qzW ((2 * t : Int) : Rat)) ((bj q').mono rfl) (o4.mono rfl)
 have e := B3 a.v b.v t
 rw [bB] at c2 c3;rw [bB, bB] at c5 c6;rw [<- e]
 have tb := of_decide_eq_true ht
 generalize a.v - b.v = d at *;generalize qzW ((2 * t : Int) : Rat) = w at *;refine Z2 Tryz.func77 ?_
 intro w0 X
 rw [aq _ _ [(0, AG a.cs), (1, AG b.cs), (2, dI t)] rfl rfl];refine gQ fun _ Z9=>?_;refine aB rfl rfl rfl rfl rfl rfl ?_;refine aB rfl rfl rfl rfl rfl rfl ?_;refine Z7 ?_;refine eQ Z9 ?_;clear Z9;refine gQ fun _ Z9=>?_;refine Z6 ?_;refine Z6 ?_;refine ab rfl rfl (c1) rfl rfl rfl rfl ?_;refine av rfl rfl rfl rfl rfl rfl ?_;refine ak rfl rfl rfl rfl rfl ?_;refine eQ Z9 ?_;clear Z9
 by_cases h : d.num.sign < 0
 ·rw [if_pos h];refine aO (α := Unit) (fun _ => mk 22 [(2, dI t), (7, .ptr 7 0)] [(7, some (.box (qzW (-d)).cs))] []) (fun _ => True) ?_ ?_
  ·refine gQ fun _ Z9=>?_;refine Z6 ?_;refine ab rfl rfl (c2) rfl rfl rfl rfl ?_;refine am rfl (cy (c := true) (decide_eq_true h)) rfl ?_;refine eQ Z9 ?_;clear Z9;refine ap rfl (fun _ => ?_) (fun h => by cases h);refine gR fun _ Z9=>?_;refine Z6 ?_;refine ab rfl rfl (c3) rfl rfl rfl rfl ?_;refine ak rfl rfl rfl rfl rfl ?_;refine eQ Z9 ?_;clear Z9;exact ⟨(), trivial, Wk.mk' ⟨rfl, rfl, trivial⟩ ⟨rfl, trivial⟩⟩
  intro _ _
  refine aA tok mixed (A := [[], [], [], [1], [1, 2], [0, 1, 2, 3], []]) (an := [{}, {}, {}, {}, {}, {}, {}]) rfl (by kernel_rfl) rfl fun _ Z9=>?_;refine Z6 ?_;refine Z8 ?_;refine am rfl (lG (c := 2 * t) rfl ⟨by omega, by omega⟩) rfl ?_;refine ab rfl rfl (c4) rfl rfl rfl rfl ?_;refine ab rfl rfl (c6) rfl rfl rfl rfl ?_;refine am rfl (nj rfl) rfl ?_;refine Z7 ?_;refine eQ Z9 ?_;clear Z9;exact ai aE
 ·rw [if_neg h];refine aO (α := Unit) (fun _ => mk 22 [(2, dI t), (7, .ptr 7 0)] [(7, some (.box (qzW d).cs))] []) (fun _ => True) ?_ ?_
  ·refine gQ fun _ Z9=>?_;refine Z6 ?_;refine ab rfl rfl (c2) rfl rfl rfl rfl ?_;refine am rfl (cy (c := false) (decide_eq_false h)) rfl ?_;refine eQ Z9 ?_;clear Z9;refine ap rfl (fun h => by cases h) (fun _ => ?_);refine aj ?_;exact ⟨(), trivial, Wk.mk' ⟨rfl, rfl, trivial⟩ ⟨rfl, trivial⟩⟩
  intro _ _
  refine aA tok mixed (A := [[], [], [], [1], [1, 2], [0, 1, 2, 3], []]) (an := [{}, {}, {}, {}, {}, {}, {}]) rfl (by kernel_rfl) rfl fun _ Z9=>?_;refine Z6 ?_;refine Z8 ?_;refine am rfl (lG (c := 2 * t) rfl ⟨by omega, by omega⟩) rfl ?_;refine ab rfl rfl (c4) rfl rfl rfl rfl ?_;refine ab rfl rfl (c5) rfl rfl rfl rfl ?_;refine am rfl (nj rfl) rfl ?_;refine Z7 ?_;refine eQ Z9 ?_;clear Z9;exact ai aE
theorem tw (a b : SP) (t : Int) (oa : a.OK 262144) (ob : b.OK 262144) : Con Tryz.prog 32 [AG a.cs, AG b.cs, dI t] { v := dB (dh a b t) } := by
 have cT := uW t
 refine Z2 Tryz.func32 ?_
 intro w0 X
 rw [aq _ _ [(0, AG a.cs), (1, AG b.cs), (2, dI t)] rfl rfl];refine gQ fun _ Z9=>?_;refine aB rfl rfl rfl rfl rfl rfl ?_;refine aB rfl rfl rfl rfl rfl rfl ?_;refine Z7 ?_;refine eQ Z9 ?_;clear Z9
 cases ht : tolB t with
 | false =>
  have e : dh a b t = false := by unfold dh; rw [ht]; rfl
  rw [e];rw [ht] at cT;refine gQ fun _ Z9=>?_;refine Z8 ?_;refine ab rfl rfl (cT) rfl rfl rfl rfl ?_;refine Z8 ?_;refine ag rfl ?_;refine ag rfl ?_;refine ag rfl ?_;refine ag rfl ?_;refine ag rfl ?_;refine ag rfl ?_;refine Z3 ?_;refine Z8 ?_;refine ag rfl ?_;refine ag rfl ?_;refine ag rfl ?_;refine ag rfl ?_;refine ag rfl ?_;refine ag rfl ?_;refine Z3 ?_;refine Z7 ?_;refine eQ Z9 ?_;clear Z9;exact ai aE
 | true =>
  rw [ht] at cT
  have c1 := qZ a.x b.x t oa.x ob.x ht
  have c2 := qZ a.y b.y t oa.y ob.y ht
  have e : dh a b t = (wiB (a.x.v - b.x.v) (2 * t) && wiB (a.y.v - b.y.v) (2 * t)) := by unfold dh; rw [ht]; rfl
  rw [e]
  cases hx : wiB (a.x.v - b.x.v) (2 * t) with
  | true =>
   rw [hx] at c1;refine gQ fun _ Z9=>?_;refine Z8 ?_;refine ab rfl rfl (cT) rfl rfl rfl rfl ?_;refine Z8 ?_;refine Z4 ?_;refine Z6 ?_;refine Z4 ?_;refine Z6 ?_;refine Z8 ?_;refine ab rfl rfl (c1) rfl rfl rfl rfl ?_;refine Z3 ?_;refine Z8 ?_;refine Z4 ?_;refine Z6 ?_;refine Z4 ?_;refine Z6 ?_;refine Z8 ?_;refine ab rfl rfl (c2) rfl rfl rfl rfl ?_;refine Z3 ?_;refine Z7 ?_;refine eQ Z9 ?_;clear Z9;exact ai aE
  | false =>
   rw [hx] at c1;refine gQ fun _ Z9=>?_;refine Z8 ?_;refine ab rfl rfl (cT) rfl rfl rfl rfl ?_;refine Z8 ?_;refine Z4 ?_;refine Z6 ?_;refine Z4 ?_;refine Z6 ?_;refine Z8 ?_;refine ab rfl rfl (c1) rfl rfl rfl rfl ?_;refine Z3 ?_;refine Z8 ?_;refine ag rfl ?_;refine ag rfl ?_;refine ag rfl ?_;refine ag rfl ?_;refine ag rfl ?_;refine ag rfl ?_;refine Z3 ?_;refine Z7 ?_;refine eQ Z9 ?_;clear Z9;exact ai aE
theorem rE (a b : RW) (n : Int) (oa : a.OK 262144) (ob : b.OK 262144) (hn : I64 n) (hn' : I64 (-n)) : Con Tryz.prog 78 [AG a.cs, AG b.cs, dI n] { v := dB (wiB (a.v - b.v) n) } := by
 have q := bv (oa.ql rfl) (ob.ql rfl)
 have c1 := jr a b _ (oa.mono rfl) (ob.mono rfl) rfl
 have c2 := mH n hn
 have c3 := mH (-n) hn'
 have c4 := iQ (qzW (a.v - b.v)) (qzW (n : Rat)) ((bj q).mono rfl) ((bj (gn hn)).mono rfl)
 have c5 := iQ (qzW (a.v - b.v)) (qzW ((-n : Int) : Rat)) ((bj q).mono rfl) ((bj (gn hn')).mono rfl)
 rw [bB, bB] at c4 c5
 have e1 : decide ((a.v - b.v - (n : Rat)).num.sign <= 0) = decide (a.v - b.v <= (n : Rat)) := by
  rw [Bool.eq_iff_iff, decide_eq_true_eq, decide_eq_true_eq, ua]
  constructor <;> intro h <;> grind
 have e2 : decide ((a.v - b.v - ((-n : Int) : Rat)).num.sign >= 0) = decide (((-n : Int) : Rat) <= a.v - b.v) := by
  rw [Bool.eq_iff_iff, decide_eq_true_eq, decide_eq_true_eq]
  have : (a.v - b.v - ((-n : Int) : Rat)).num.sign >= 0 ↔ 0 <= a.v - b.v - ((-n : Int) : Rat) := by
   rw [ge_iff_le, Int.sign_nonneg_iff, Rat.num_nonneg]
  rw [this]
  constructor <;> intro h <;> grind
 unfold wiB
 rw [<- e1, <- e2];generalize a.v - b.v = d at *;generalize (d - (n : Rat)).num.sign = s1 at *;generalize (d - ((-n : Int) : Rat)).num.sign = s2 at *;generalize qzW (n : Rat) = w1 at *;generalize qzW ((-n : Int) : Rat) = w2 at *;refine Z2 Tryz.func78 ?_
 intro w0 X
 rw [aq _ _ [(0, AG a.cs), (1, AG b.cs), (2, dI n)] rfl rfl];refine gQ fun _ Z9=>?_;refine aB rfl rfl rfl rfl rfl rfl ?_;refine aB rfl rfl rfl rfl rfl rfl ?_;refine Z7 ?_;refine eQ Z9 ?_;clear Z9;refine gQ fun _ Z9=>?_;refine Z6 ?_;refine Z6 ?_;refine ab rfl rfl (c1) rfl rfl rfl rfl ?_;refine av rfl rfl rfl rfl rfl rfl ?_;refine ak rfl rfl rfl rfl rfl ?_;refine eQ Z9 ?_;clear Z9
 cases hx : decide (s1 <= 0) with
 | true =>
  refine aA tok mixed (A := [[], [], [], [1], [0, 1, 2], [0, 1, 2], [0, 1, 2, 3, 4], [0, 1, 2, 3, 4], [0, 1, 2, 3, 4], [0, 1, 2, 3, 4, 7], [0, 1, 2, 3, 4, 7, 8], [0, 1, 2, 3, 4, 6, 7, 8, 9], [0, 1, 2, 3, 4, 6, 7, 8, 9, 10], []]) (an := [{}, {}, {}, {}, {}, {}, {}, {}, {}, {}, {}, {}, {}, {}]) rfl (by kernel_rfl) rfl fun _ Z9=>?_;refine Z6 ?_;refine Z8 ?_;refine ab rfl rfl (c2) rfl rfl rfl rfl ?_;refine ab rfl rfl (c4) rfl rfl rfl rfl ?_;refine am rfl (nj hx) rfl ?_;refine Z8 ?_;refine Z6 ?_;refine Z8 ?_;refine bd rfl (neg_I ⟨by have := hn.1; have := hn'.2; omega, hn.2⟩) rfl ?_;refine ab rfl rfl (c3) rfl rfl rfl rfl ?_;refine ab rfl rfl (c5) rfl rfl rfl rfl ?_;refine am rfl (jb rfl) rfl ?_;refine Z3 ?_;refine Z7 ?_;refine eQ Z9 ?_;clear Z9;exact ai aE
 | false =>
  refine aA tok mixed (A := [[], [], [], [1], [0, 1, 2], [0, 1, 2], [0, 1, 2, 3, 4], [0, 1, 2, 3, 4], [0, 1, 2, 3, 4], [0, 1, 2, 3, 4, 7], [0, 1, 2, 3, 4, 7, 8], [0, 1, 2, 3, 4, 6, 7, 8, 9], [0, 1, 2, 3, 4, 6, 7, 8, 9, 10], []]) (an := [{}, {}, {}, {}, {}, {}, {}, {}, {}, {}, {}, {}, {}, {}]) rfl (by kernel_rfl) rfl fun _ Z9=>?_;refine Z6 ?_;refine Z8 ?_;refine ab rfl rfl (c2) rfl rfl rfl rfl ?_;refine ab rfl rfl (c4) rfl rfl rfl rfl ?_;refine am rfl (nj hx) rfl ?_;refine Z8 ?_;refine ag rfl ?_;refine ag rfl ?_;refine ag rfl ?_;refine ag rfl ?_;refine ag rfl ?_;refine ag rfl ?_;refine Z3 ?_;refine Z7 ?_;refine eQ Z9 ?_;clear Z9;exact ai aE
theorem sH (a b : SP) (t : Int) (oa : a.OK 262144) (ob : b.OK 262144) : Con Tryz.prog 33 [AG a.cs, AG b.cs, dI t] { v := dB (dh a b t) } := by
 refine Z2 Tryz.func33 ?_
 intro w0 X
 rw [aq _ _ [(0, AG a.cs), (1, AG b.cs), (2, dI t)] rfl rfl];refine gQ fun _ Z9=>?_;refine aB rfl rfl rfl rfl rfl rfl ?_;refine aB rfl rfl rfl rfl rfl rfl ?_;refine Z7 ?_;refine eQ Z9 ?_;clear Z9
 by_cases h0 : 0 <= t
 ·by_cases h1 : t <= 1048576
  ·have ht : tolB t = true := decide_eq_true ⟨h0, h1⟩
   obtain ⟨i1, i2⟩ := wK ht
   have c1 := rE a.x b.x (2 * t) oa.x ob.x i1 i2
   have c2 := rE a.y b.y (2 * t) oa.y ob.y i1 i2
   have e : dh a b t = (wiB (a.x.v - b.x.v) (2 * t) && wiB (a.y.v - b.y.v) (2 * t)) := by unfold dh; rw [ht]; rfl
   rw [e]
   cases hx : wiB (a.x.v - b.x.v) (2 * t) with
   | true =>
    rw [hx] at c1;refine gQ fun _ Z9=>?_;refine Z8 ?_;refine am rfl (jb (c := true) (decide_eq_true h0)) rfl ?_;refine Z8 ?_;refine Z8 ?_;refine am rfl (nj (c := true) (decide_eq_true h1)) rfl ?_;refine Z3 ?_;refine Z8 ?_;refine Z4 ?_;refine Z6 ?_;refine Z4 ?_;refine Z6 ?_;refine Z8 ?_;refine am rfl (lG (c := 2 * t) rfl ⟨by omega, by omega⟩) rfl ?_;refine ab rfl rfl (c1) rfl rfl rfl rfl ?_;refine Z3 ?_;refine Z8 ?_;refine Z4 ?_;refine Z6 ?_;refine Z4 ?_;refine Z6 ?_;refine Z8 ?_;refine am rfl (lG (c := 2 * t) rfl ⟨by omega, by omega⟩) rfl ?_;refine ab rfl rfl (c2) rfl rfl rfl rfl ?_;refine Z3 ?_;refine Z7 ?_;refine eQ Z9 ?_;clear Z9;exact ai aE
   | false =>
    rw [hx] at c1;refine gQ fun _ Z9=>?_;refine Z8 ?_;refine am rfl (jb (c := true) (decide_eq_true h0)) rfl ?_;refine Z8 ?_;refine Z8 ?_;refine am rfl (nj (c := true) (decide_eq_true h1)) rfl ?_;refine Z3 ?_;refine Z8 ?_;refine Z4 ?_;refine Z6 ?_;refine Z4 ?_;refine Z6 ?_;refine Z8 ?_;refine am rfl (lG (c := 2 * t) rfl ⟨by omega, by omega⟩) rfl ?_;refine ab rfl rfl (c1) rfl rfl rfl rfl ?_;refine Z3 ?_;refine Z8 ?_;refine ag rfl ?_;refine ag rfl ?_;refine ag rfl ?_;refine ag rfl ?_;refine ag rfl ?_;refine ag rfl ?_;refine ag rfl ?_;refine Z3 ?_;refine Z7 ?_;refine eQ Z9 ?_;clear Z9;exact ai aE
  ·have e : dh a b t = false := by unfold dh; rw [show tolB t = false from decide_eq_false (fun h => h1 h.2)]; rfl
   rw [e];refine gQ fun _ Z9=>?_;refine Z8 ?_;refine am rfl (jb (c := true) (decide_eq_true h0)) rfl ?_;refine Z8 ?_;refine Z8 ?_;refine am rfl (nj (c := false) (decide_eq_false h1)) rfl ?_;refine Z3 ?_;refine Z8 ?_;refine ag rfl ?_;refine ag rfl ?_;refine ag rfl ?_;refine ag rfl ?_;refine ag rfl ?_;refine ag rfl ?_;refine ag rfl ?_;refine Z3 ?_;refine Z8 ?_;refine ag rfl ?_;refine ag rfl ?_;refine ag rfl ?_;refine ag rfl ?_;refine ag rfl ?_;refine ag rfl ?_;refine ag rfl ?_;refine Z3 ?_;refine Z7 ?_;refine eQ Z9 ?_;clear Z9;exact ai aE
 ·have e : dh a b t = false := by unfold dh; rw [show tolB t = false from decide_eq_false (fun h => h0 h.1)]; rfl
  rw [e];refine gQ fun _ Z9=>?_;refine Z8 ?_;refine am rfl (jb (c := false) (decide_eq_false h0)) rfl ?_;refine Z8 ?_;refine ag rfl ?_;refine ag rfl ?_;refine Z3 ?_;refine Z8 ?_;refine ag rfl ?_;refine ag rfl ?_;refine ag rfl ?_;refine ag rfl ?_;refine ag rfl ?_;refine ag rfl ?_;refine ag rfl ?_;refine Z3 ?_;refine Z8 ?_;refine ag rfl ?_;refine ag rfl ?_;refine ag rfl ?_;refine ag rfl ?_;refine ag rfl ?_;refine ag rfl ?_;refine ag rfl ?_;refine Z3 ?_;refine Z7 ?_;refine eQ Z9 ?_;clear Z9;exact ai aE
end Go.Proofs.YtnoildlijhapaaaGreatDoor

/- law30: small inputs. No condition. -/
namespace Go.Proofs.YtnoildlijhapaaaGreatDoor
attribute [local irreducible] aC
open Go.RowKit

def w2 (r : RW) : Bool := decide (r.wp.length <= 2 /\ r.wq.length <= 2)
def vZ (g : GR) : Bool := decide ((g.nodes.length <= 6 \/ g.nodes.length = 17) /\ (g.links.length <= 12 \/ g.links.length = 49))
def m9 (g : GR) : Bool := vZ g && g.nodes.all w2
def su (l : List SP) : Bool := l.all (fun p => w2 p.x && w2 p.y) && decide (l.length <= 12)
theorem pI (g : GR) : Con Tryz.prog 16 [AG g.cs] { v := dB (m9 g) } := by
 refine Z2 Tryz.func16 ?_
 intro w0 X
 rw [aq _ _ [(0, AG g.cs)] rfl rfl];refine gQ fun _ Z9=>?_;refine aB rfl rfl rfl rfl rfl rfl ?_;refine Z7 ?_;refine eQ Z9 ?_;clear Z9;refine ah ?_;refine aO (α := Bool) (fun c => mk 53 [(1, .ptr 1 0), (25, dB c)] [(1, some (.box g.cs))] []) (fun c => c = !vZ g) ?_ ?_
 ·refine bL fun _ Z9=>?_;refine aa tok rfl ?_;refine Z4 ?_;refine ae ?_;refine aa tok rfl ?_;refine Z6 ?_;refine ae ?_;refine aa tok rfl ?_;refine ay rfl (aL RW.dc rfl rfl) rfl ?_;refine ae ?_;refine aa tok rfl ?_;refine am rfl (ko _ 6) rfl ?_;refine ae ?_;refine aa tok rfl ?_;refine Z8 ?_;refine ae ?_;refine aU (fun h0 => ?_) (fun h0 => ?_)
  ·refine aa tok rfl ?_;refine Z4 ?_;refine ae ?_;refine aa tok rfl ?_;refine Z6 ?_;refine ae ?_;refine aa tok rfl ?_;refine ay rfl (aL RW.dc rfl rfl) rfl ?_;refine ae ?_;refine aa tok rfl ?_;refine am rfl (xx _ 17) rfl ?_;refine ae ?_;refine aa tok rfl ?_;refine Z3 ?_;refine ae ?_;refine aa tok rfl ?_;refine Z8 ?_;refine ae ?_;refine aU (fun h1 => ?_) (fun h1 => ?_)
   ·refine al rfl rfl ?_;refine al rfl rfl ?_;refine al rfl rfl ?_;refine al rfl rfl ?_;refine al rfl rfl ?_;refine bJ rfl rfl rfl ?_;refine bJ rfl rfl rfl ?_;refine bJ rfl rfl rfl ?_;refine bJ rfl rfl rfl ?_;refine al rfl rfl ?_;refine aa tok rfl ?_;refine Z3 ?_;refine ae ?_;refine aS rfl (Z9 _ ?_); clear Z9;exact ⟨_, (by simp only [decide_eq_true_eq, decide_eq_false_iff_not] at h0 h1; unfold vZ; rw [Bool.eq_iff_iff]; simp only [decide_eq_true_eq, Bool.not_eq_true', decide_eq_false_iff_not, reduceCtorEq, false_iff, true_iff]; omega), Wk.mk' ⟨rfl, rfl, trivial⟩ ⟨rfl, trivial⟩⟩
   ·refine aa tok rfl ?_;refine Z4 ?_;refine ae ?_;refine aa tok rfl ?_;refine Z6 ?_;refine ae ?_;refine aa tok rfl ?_;refine ay rfl (aL LK.dc rfl rfl) rfl ?_;refine ae ?_;refine aa tok rfl ?_;refine am rfl (ko _ 12) rfl ?_;refine ae ?_;refine aa tok rfl ?_;refine Z8 ?_;refine ae ?_;refine aU (fun h2 => ?_) (fun h2 => ?_)
    ·refine aa tok rfl ?_;refine Z4 ?_;refine ae ?_;refine aa tok rfl ?_;refine Z6 ?_;refine ae ?_;refine aa tok rfl ?_;refine ay rfl (aL LK.dc rfl rfl) rfl ?_;refine ae ?_;refine aa tok rfl ?_;refine am rfl (xx _ 49) rfl ?_;refine ae ?_;refine aa tok rfl ?_;refine Z3 ?_;refine ae ?_;refine aa tok rfl ?_;refine Z3 ?_;refine ae ?_;refine aS rfl (Z9 _ ?_); clear Z9;exact ⟨_, (by simp only [decide_eq_true_eq, decide_eq_false_iff_not] at h0 h1 h2; unfold vZ; rw [Bool.eq_iff_iff]; simp only [decide_eq_true_eq, Bool.not_eq_true', decide_eq_false_iff_not, reduceCtorEq, false_iff, true_iff]; omega), Wk.mk' ⟨rfl, rfl, trivial⟩ ⟨rfl, trivial⟩⟩
    ·refine al rfl rfl ?_;refine al rfl rfl ?_;refine al rfl rfl ?_;refine al rfl rfl ?_;refine aa tok rfl ?_;refine Z3 ?_;refine ae ?_;refine aa tok rfl ?_;refine Z3 ?_;refine ae ?_;refine aS rfl (Z9 _ ?_); clear Z9;exact ⟨_, (by simp only [decide_eq_true_eq, decide_eq_false_iff_not] at h0 h1 h2; unfold vZ; rw [Bool.eq_iff_iff]; simp only [decide_eq_true_eq, Bool.not_eq_true', decide_eq_false_iff_not, reduceCtorEq, false_iff, true_iff]; omega), Wk.mk' ⟨rfl, rfl, trivial⟩ ⟨rfl, trivial⟩⟩
  ·refine al rfl rfl ?_;refine al rfl rfl ?_;refine al rfl rfl ?_;refine al rfl rfl ?_;refine aa tok rfl ?_;refine Z3 ?_;refine ae ?_;refine aa tok rfl ?_;refine Z8 ?_;refine ae ?_;refine aa tok rfl ?_;refine Z4 ?_;refine ae ?_;refine aa tok rfl ?_;refine Z6 ?_;refine ae ?_;refine aa tok rfl ?_;refine ay rfl (aL LK.dc rfl rfl) rfl ?_;refine ae ?_;refine aa tok rfl ?_;refine am rfl (ko _ 12) rfl ?_;refine ae ?_;refine aa tok rfl ?_;refine Z8 ?_;refine ae ?_;refine aU (fun h1 => ?_) (fun h1 => ?_)
   ·refine aa tok rfl ?_;refine Z4 ?_;refine ae ?_;refine aa tok rfl ?_;refine Z6 ?_;refine ae ?_;refine aa tok rfl ?_;refine ay rfl (aL LK.dc rfl rfl) rfl ?_;refine ae ?_;refine aa tok rfl ?_;refine am rfl (xx _ 49) rfl ?_;refine ae ?_;refine aa tok rfl ?_;refine Z3 ?_;refine ae ?_;refine aa tok rfl ?_;refine Z3 ?_;refine ae ?_;refine aS rfl (Z9 _ ?_); clear Z9;exact ⟨_, (by simp only [decide_eq_true_eq, decide_eq_false_iff_not] at h0 h1; unfold vZ; rw [Bool.eq_iff_iff]; simp only [decide_eq_true_eq, Bool.not_eq_true', decide_eq_false_iff_not, reduceCtorEq, false_iff, true_iff]; omega), Wk.mk' ⟨rfl, rfl, trivial⟩ ⟨rfl, trivial⟩⟩
   ·refine al rfl rfl ?_;refine al rfl rfl ?_;refine al rfl rfl ?_;refine al rfl rfl ?_;refine aa tok rfl ?_;refine Z3 ?_;refine ae ?_;refine aa tok rfl ?_;refine Z3 ?_;refine ae ?_;refine aS rfl (Z9 _ ?_); clear Z9;exact ⟨_, (by simp only [decide_eq_true_eq, decide_eq_false_iff_not] at h0 h1; unfold vZ; rw [Bool.eq_iff_iff]; simp only [decide_eq_true_eq, Bool.not_eq_true', decide_eq_false_iff_not, reduceCtorEq, false_iff, true_iff]; omega), Wk.mk' ⟨rfl, rfl, trivial⟩ ⟨rfl, trivial⟩⟩
 rintro c rfl
 refine ap rfl (fun hd => ?_) (fun hd => ?_)
 ·rw [Bool.not_eq_true'] at hd;rw [m9, hd];refine gQ fun _ Z9=>?_;refine Z7 ?_;refine eQ Z9 ?_;clear Z9;exact ai aE
 rw [Bool.not_eq_false'] at hd
 have h17 : g.nodes.length <= 17 := by have := (of_decide_eq_true hd).1; omega
 rw [m9, hd, Bool.true_and];refine aj ?_;show AWP _ _ _ _ _ _;refine ah ?_;refine gQ fun _ Z9=>?_;refine Z7 ?_;refine eQ Z9 ?_;clear Z9;refine ar (aN (α := Nat) (fun i => mk 53 [(1, .ptr 1 0), (3, dI i)] [(1, some (.box g.cs))] []) (fun i => i <= g.nodes.length /\ (g.nodes.take i).all w2 = true) (fun i => g.nodes.length - i) 0 ?_ ⟨Nat.zero_le _, rfl⟩ ?_)
 ·exact Wk.mk' ⟨rfl, rfl, trivial⟩ ⟨rfl, trivial⟩
 rintro i ⟨hi, ht⟩
 refine ah ?_;refine gQ fun _ Z9=>?_;refine Z8 ?_;refine Z4 ?_;refine Z6 ?_;refine ay rfl (aL RW.dc rfl rfl) rfl ?_;refine Z5 ?_;refine eQ Z9 ?_;clear Z9;refine ap rfl (fun hg => ?_) (fun hg => ?_)
 ·have hg : i < g.nodes.length := by simp at hg; omega
  obtain ⟨r, hr⟩ : ∃ r, r = g.nodes[i] := ⟨_, rfl⟩
  refine aj ?_;show AWP _ _ _ _ _ _;refine ah ?_;refine ar ?_;refine aO (α := Bool) (fun c => mk 53 [(1, .ptr 1 0), (3, dI i), (52, dB c)] [(1, some (.box g.cs))] []) (fun c => c = !w2 r) ?_ ?_
  ·refine bL fun _ Z9=>?_;refine aa tok rfl ?_;refine Z4 ?_;refine ae ?_;refine aa tok rfl ?_;refine Z6 ?_;refine ae ?_;refine aa tok rfl ?_;refine Z8 ?_;refine ae ?_;refine aa tok rfl ?_;refine ac rfl (x_m RW.dc rfl rfl rfl rfl hg rfl) rfl ?_;refine ae ?_;refine aa tok rfl ?_;refine Z4 ?_;refine ae ?_;refine aa tok rfl ?_;refine Z4 ?_;refine ae ?_;refine aa tok rfl ?_;refine Z6 ?_;refine ae ?_;refine aa tok rfl ?_;refine ay rfl (aP (ws := g.nodes[i].wp) rfl rfl rfl) rfl ?_;refine ae ?_;refine aa tok rfl ?_;refine am rfl (ko _ 2) rfl ?_;refine ae ?_;refine aa tok rfl ?_;refine Z8 ?_;refine ae ?_;refine aU (fun h0 => ?_) (fun h0 => ?_)
   ·refine al rfl rfl ?_;refine al rfl rfl ?_;refine al rfl rfl ?_;refine al rfl rfl ?_;refine al rfl rfl ?_;refine al rfl rfl ?_;refine al rfl rfl ?_;refine al rfl rfl ?_;refine al rfl rfl ?_;refine aa tok rfl ?_;refine Z3 ?_;refine ae ?_;refine aS rfl (Z9 _ ?_); clear Z9;exact ⟨_, (by simp only [decide_eq_true_eq, decide_eq_false_iff_not] at h0; unfold w2; rw [hr, Bool.eq_iff_iff]; simp only [decide_eq_true_eq, Bool.not_eq_true', decide_eq_false_iff_not, reduceCtorEq, false_iff, true_iff]; omega), Wk.mk' ⟨rfl, rfl, rfl, trivial⟩ ⟨rfl, trivial⟩⟩
   ·refine aa tok rfl ?_;refine Z4 ?_;refine ae ?_;refine aa tok rfl ?_;refine Z6 ?_;refine ae ?_;refine aa tok rfl ?_;refine Z8 ?_;refine ae ?_;refine aa tok rfl ?_;refine ac rfl (x_m RW.dc rfl rfl rfl rfl hg rfl) rfl ?_;refine ae ?_;refine aa tok rfl ?_;refine Z4 ?_;refine ae ?_;refine aa tok rfl ?_;refine Z4 ?_;refine ae ?_;refine aa tok rfl ?_;refine Z6 ?_;refine ae ?_;refine aa tok rfl ?_;refine ay rfl (aP (ws := g.nodes[i].wq) rfl rfl rfl) rfl ?_;refine ae ?_;refine aa tok rfl ?_;refine am rfl (ko _ 2) rfl ?_;refine ae ?_;refine aa tok rfl ?_;refine Z3 ?_;refine ae ?_;refine aS rfl (Z9 _ ?_); clear Z9;exact ⟨_, (by simp only [decide_eq_true_eq, decide_eq_false_iff_not] at h0; unfold w2; rw [hr, Bool.eq_iff_iff]; simp only [decide_eq_true_eq, Bool.not_eq_true', decide_eq_false_iff_not, reduceCtorEq, false_iff, true_iff]; omega), Wk.mk' ⟨rfl, rfl, rfl, trivial⟩ ⟨rfl, trivial⟩⟩
  rintro c rfl
  refine ap rfl (fun hd => ?_) (fun hd => ?_)
  ·refine gQ fun _ Z9=>?_;refine Z7 ?_;refine eQ Z9 ?_;clear Z9;exact ai (bf (h3 := by exact eH (by rw [Bool.not_eq_true'] at hd; rw [List.all_eq_false]; exact ⟨r, hr ▸ List.getElem_mem hg, by rw [hd]; simp⟩)))
  ·refine aj ?_;show AWP _ _ _ _ _ _;refine gR fun _ Z9=>?_;refine Z8 ?_;refine am rfl (aJ rfl (by omega)) rfl ?_;refine Z7 ?_;refine eQ Z9 ?_;clear Z9;refine ⟨i + 1, by omega, ⟨hg, ?_⟩, Wk.mk' ⟨rfl, rfl, trivial⟩ ⟨rfl, trivial⟩⟩;rw [List.take_succ_eq_append_getElem hg, List.all_append, ht, <- hr];rw [Bool.not_eq_false'] at hd
   simp [hd]
 ·have hg : i = g.nodes.length := by simp at hg; omega
  subst hg
  rw [List.take_length] at ht;rw [ht];refine az ?_;show AWP _ _ _ _ _ _;refine gQ fun _ Z9=>?_;refine Z7 ?_;refine eQ Z9 ?_;clear Z9;exact ai aE

theorem ss (l : List SP) (hl : l.length <= 9223372036854775807) : Con Tryz.prog 20 [V1 (dSs l)] { v := dB (su l) } := by
 refine Z2 Tryz.func20 ?_
 intro w0 X
 rw [aq _ _ [(0, V1 (dSs l))] rfl rfl];refine gQ fun _ Z9=>?_;refine Z7 ?_;refine eQ Z9 ?_;clear Z9;refine ah ?_;refine gQ fun _ Z9=>?_;refine Z7 ?_;refine eQ Z9 ?_;clear Z9;refine ar (aN (α := Nat) (fun i => mk 55 [(0, V1 (dSs l)), (3, dI i)] [] []) (fun i => i <= l.length /\ (l.take i).all (fun p => w2 p.x && w2 p.y) = true) (fun i => l.length - i) 0 ?_ ⟨Nat.zero_le _, rfl⟩ ?_)
 ·exact Wk.mk' ⟨rfl, rfl, trivial⟩ trivial
 rintro i ⟨hi, ht⟩
 refine ah ?_;refine gQ fun _ Z9=>?_;refine Z8 ?_;refine Z8 ?_;refine ay rfl (aL SP.dc rfl rfl) rfl ?_;refine Z5 ?_;refine eQ Z9 ?_;clear Z9;refine ap rfl (fun hg => ?_) (fun hg => ?_)
 ·have hg : i < l.length := by simp at hg; omega
  obtain ⟨r, hr⟩ : ∃ r, r = l[i] := ⟨_, rfl⟩
  refine aj ?_;show AWP _ _ _ _ _ _;refine ah ?_;refine ar ?_;refine aO (α := Bool) (fun c => mk 55 [(0, V1 (dSs l)), (3, dI i), (51, dB c)] [] []) (fun c => c = !(w2 r.x && w2 r.y)) ?_ ?_
  ·refine bL fun _ Z9=>?_;refine aa tok rfl ?_;refine Z8 ?_;refine ae ?_;refine aa tok rfl ?_;refine Z8 ?_;refine ae ?_;refine aa tok rfl ?_;refine ac rfl (x_m SP.dc rfl rfl rfl rfl hg rfl) rfl ?_;refine ae ?_;refine aa tok rfl ?_;refine Z4 ?_;refine ae ?_;refine aa tok rfl ?_;refine Z4 ?_;refine ae ?_;refine aa tok rfl ?_;refine Z4 ?_;refine ae ?_;refine aa tok rfl ?_;refine Z6 ?_;refine ae ?_;refine aa tok rfl ?_;refine ay rfl (aP (ws := l[i].x.wp) rfl rfl rfl) rfl ?_;refine ae ?_;refine aa tok rfl ?_;refine am rfl (ko _ 2) rfl ?_;refine ae ?_;refine aa tok rfl ?_;refine Z8 ?_;refine ae ?_;refine aU (fun h0 => ?_) (fun h0 => ?_)
   ·refine al rfl rfl ?_;refine al rfl rfl ?_;refine al rfl rfl ?_;refine al rfl rfl ?_;refine al rfl rfl ?_;refine al rfl rfl ?_;refine al rfl rfl ?_;refine al rfl rfl ?_;refine al rfl rfl ?_;refine aa tok rfl ?_;refine Z3 ?_;refine ae ?_;refine aa tok rfl ?_;refine Z8 ?_;refine ae ?_;refine al rfl rfl ?_;refine al rfl rfl ?_;refine al rfl rfl ?_;refine al rfl rfl ?_;refine al rfl rfl ?_;refine al rfl rfl ?_;refine al rfl rfl ?_;refine al rfl rfl ?_;refine al rfl rfl ?_;refine aa tok rfl ?_;refine Z3 ?_;refine ae ?_;refine aa tok rfl ?_;refine Z8 ?_;refine ae ?_;refine al rfl rfl ?_;refine al rfl rfl ?_;refine al rfl rfl ?_;refine al rfl rfl ?_;refine al rfl rfl ?_;refine al rfl rfl ?_;refine al rfl rfl ?_;refine al rfl rfl ?_;refine al rfl rfl ?_;refine aa tok rfl ?_;refine Z3 ?_;refine ae ?_;refine aS rfl (Z9 _ ?_); clear Z9;exact ⟨_, (by simp only [decide_eq_true_eq, decide_eq_false_iff_not] at h0; unfold w2; rw [hr, Bool.eq_iff_iff]; simp only [decide_eq_true_eq, Bool.not_eq_true', Bool.and_eq_false_iff, decide_eq_false_iff_not, reduceCtorEq, false_iff, true_iff]; omega), Wk.mk' ⟨rfl, rfl, rfl, trivial⟩ trivial⟩
   ·refine aa tok rfl ?_;refine Z8 ?_;refine ae ?_;refine aa tok rfl ?_;refine Z8 ?_;refine ae ?_;refine aa tok rfl ?_;refine ac rfl (x_m SP.dc rfl rfl rfl rfl hg rfl) rfl ?_;refine ae ?_;refine aa tok rfl ?_;refine Z4 ?_;refine ae ?_;refine aa tok rfl ?_;refine Z4 ?_;refine ae ?_;refine aa tok rfl ?_;refine Z4 ?_;refine ae ?_;refine aa tok rfl ?_;refine Z6 ?_;refine ae ?_;refine aa tok rfl ?_;refine ay rfl (aP (ws := l[i].x.wq) rfl rfl rfl) rfl ?_;refine ae ?_;refine aa tok rfl ?_;refine am rfl (ko _ 2) rfl ?_;refine ae ?_;refine aa tok rfl ?_;refine Z3 ?_;refine ae ?_;refine aa tok rfl ?_;refine Z8 ?_;refine ae ?_;refine aU (fun h1 => ?_) (fun h1 => ?_)
    ·refine al rfl rfl ?_;refine al rfl rfl ?_;refine al rfl rfl ?_;refine al rfl rfl ?_;refine al rfl rfl ?_;refine al rfl rfl ?_;refine al rfl rfl ?_;refine al rfl rfl ?_;refine al rfl rfl ?_;refine aa tok rfl ?_;refine Z3 ?_;refine ae ?_;refine aa tok rfl ?_;refine Z8 ?_;refine ae ?_;refine al rfl rfl ?_;refine al rfl rfl ?_;refine al rfl rfl ?_;refine al rfl rfl ?_;refine al rfl rfl ?_;refine al rfl rfl ?_;refine al rfl rfl ?_;refine al rfl rfl ?_;refine al rfl rfl ?_;refine aa tok rfl ?_;refine Z3 ?_;refine ae ?_;refine aS rfl (Z9 _ ?_); clear Z9;exact ⟨_, (by simp only [decide_eq_true_eq, decide_eq_false_iff_not] at h0 h1; unfold w2; rw [hr, Bool.eq_iff_iff]; simp only [decide_eq_true_eq, Bool.not_eq_true', Bool.and_eq_false_iff, decide_eq_false_iff_not, reduceCtorEq, false_iff, true_iff]; omega), Wk.mk' ⟨rfl, rfl, rfl, trivial⟩ trivial⟩
    ·refine aa tok rfl ?_;refine Z8 ?_;refine ae ?_;refine aa tok rfl ?_;refine Z8 ?_;refine ae ?_;refine aa tok rfl ?_;refine ac rfl (x_m SP.dc rfl rfl rfl rfl hg rfl) rfl ?_;refine ae ?_;refine aa tok rfl ?_;refine Z4 ?_;refine ae ?_;refine aa tok rfl ?_;refine Z4 ?_;refine ae ?_;refine aa tok rfl ?_;refine Z4 ?_;refine ae ?_;refine aa tok rfl ?_;refine Z6 ?_;refine ae ?_;refine aa tok rfl ?_;refine ay rfl (aP (ws := l[i].y.wp) rfl rfl rfl) rfl ?_;refine ae ?_;refine aa tok rfl ?_;refine am rfl (ko _ 2) rfl ?_;refine ae ?_;refine aa tok rfl ?_;refine Z3 ?_;refine ae ?_;refine aa tok rfl ?_;refine Z8 ?_;refine ae ?_;refine aU (fun h2 => ?_) (fun h2 => ?_)
     ·refine al rfl rfl ?_;refine al rfl rfl ?_;refine al rfl rfl ?_;refine al rfl rfl ?_;refine al rfl rfl ?_;refine al rfl rfl ?_;refine al rfl rfl ?_;refine al rfl rfl ?_;refine al rfl rfl ?_;refine aa tok rfl ?_;refine Z3 ?_;refine ae ?_;refine aS rfl (Z9 _ ?_); clear Z9;exact ⟨_, (by simp only [decide_eq_true_eq, decide_eq_false_iff_not] at h0 h1 h2; unfold w2; rw [hr, Bool.eq_iff_iff]; simp only [decide_eq_true_eq, Bool.not_eq_true', Bool.and_eq_false_iff, decide_eq_false_iff_not, reduceCtorEq, false_iff, true_iff]; omega), Wk.mk' ⟨rfl, rfl, rfl, trivial⟩ trivial⟩
     ·refine aa tok rfl ?_;refine Z8 ?_;refine ae ?_;refine aa tok rfl ?_;refine Z8 ?_;refine ae ?_;refine aa tok rfl ?_;refine ac rfl (x_m SP.dc rfl rfl rfl rfl hg rfl) rfl ?_;refine ae ?_;refine aa tok rfl ?_;refine Z4 ?_;refine ae ?_;refine aa tok rfl ?_;refine Z4 ?_;refine ae ?_;refine aa tok rfl ?_;refine Z4 ?_;refine ae ?_;refine aa tok rfl ?_;refine Z6 ?_;refine ae ?_;refine aa tok rfl ?_;refine ay rfl (aP (ws := l[i].y.wq) rfl rfl rfl) rfl ?_;refine ae ?_;refine aa tok rfl ?_;refine am rfl (ko _ 2) rfl ?_;refine ae ?_;refine aa tok rfl ?_;refine Z3 ?_;refine ae ?_;refine aS rfl (Z9 _ ?_); clear Z9;exact ⟨_, (by simp only [decide_eq_true_eq, decide_eq_false_iff_not] at h0 h1 h2; unfold w2; rw [hr, Bool.eq_iff_iff]; simp only [decide_eq_true_eq, Bool.not_eq_true', Bool.and_eq_false_iff, decide_eq_false_iff_not, reduceCtorEq, false_iff, true_iff]; omega), Wk.mk' ⟨rfl, rfl, rfl, trivial⟩ trivial⟩
  rintro c rfl
  refine ap rfl (fun hd => ?_) (fun hd => ?_)
  ·refine gQ fun _ Z9=>?_;refine Z7 ?_;refine eQ Z9 ?_;clear Z9;exact ai (bf (h3 := by exact eH (by rw [Bool.not_eq_true'] at hd; unfold su; rw [Bool.and_eq_false_iff]; left; rw [List.all_eq_false]; exact ⟨r, hr ▸ List.getElem_mem hg, by rw [hd]; simp⟩)))
  ·refine aj ?_;show AWP _ _ _ _ _ _;refine gR fun _ Z9=>?_;refine Z8 ?_;refine am rfl (aJ (c := ((i + 1 : Nat) : Int)) (by omega) (by omega)) rfl ?_;refine Z7 ?_;refine eQ Z9 ?_;clear Z9;refine ⟨i + 1, by omega, ⟨hg, ?_⟩, Wk.mk' ⟨rfl, rfl, trivial⟩ trivial⟩;rw [List.take_succ_eq_append_getElem hg, List.all_append, ht, <- hr];rw [Bool.not_eq_false'] at hd
   simp [hd]
 ·have hg : i = l.length := by simp at hg; omega
  subst hg
  rw [List.take_length] at ht;rw [su, ht, Bool.true_and];refine az ?_;show AWP _ _ _ _ _ _;refine gQ fun _ Z9=>?_;refine Z8 ?_;refine ay rfl (aL SP.dc rfl rfl) rfl ?_;refine am rfl (EM _ 12) rfl ?_;refine Z7 ?_;refine eQ Z9 ?_;clear Z9;exact ai aE
theorem m8 {g : GR} (hg : ∀ r ∈ g.nodes, r.W) (h : m9 g = true) : (∀ r ∈ g.nodes, r.OK 2) /\ g.links.length <= 49 /\ g.nodes.length <= 17 /\ (bR g = true -> g.nodes.length <= 6 /\ g.links.length <= 12) := by
 rw [m9, Bool.and_eq_true] at h
 obtain ⟨h1, h2⟩ := h
 have h1 := of_decide_eq_true h1
 have ok : ∀ r ∈ g.nodes, r.OK 2 := fun r hr => by
  have := of_decide_eq_true (List.all_eq_true.1 h2 r hr)
  exact ⟨(hg r hr).1, (hg r hr).2, this.1, this.2⟩
 refine ⟨ok, by omega, by omega, fun hv => ?_⟩
 have gv := b8.1 hv
 have := gv.n2
 have := gv.l
 exact ⟨by omega, by omega⟩
theorem pk {s : List SP} (hs : ∀ p ∈ s, p.W) (h : su s = true) : (∀ p ∈ s, p.OK 2) /\ s.length <= 12 := by
 rw [su, Bool.and_eq_true] at h
 obtain ⟨h1, h2⟩ := h
 refine ⟨fun p hp => ?_, of_decide_eq_true h2⟩
 have := List.all_eq_true.1 h1 p hp
 rw [Bool.and_eq_true] at this
 have a := of_decide_eq_true this.1
 have b := of_decide_eq_true this.2
 exact ⟨⟨(hs p hp).1.1, (hs p hp).1.2, a.1, a.2⟩, ⟨(hs p hp).2.1, (hs p hp).2.2, b.1, b.2⟩⟩
end Go.Proofs.YtnoildlijhapaaaGreatDoor

/- The middle: MinFunc, MaxFunc, Common, both. No condition. -/
namespace Go.Proofs.YtnoildlijhapaaaGreatDoor
attribute [local irreducible] aC
open Go.RowKit

theorem qi (x y : Rat) : decide (iT x y < 0) = decide (x < y) := by
 rw [Bool.eq_iff_iff, decide_eq_true_eq, decide_eq_true_eq]
 have h1 := ib x y
 have h2 := Dy x y
 constructor
 ·intro h
  have a := h1.1 (by omega)
  have b : x ≠ y := fun e => by have := h2.2 e; omega
  grind
 ·intro h
  have a := h1.2 (by grind)
  have b : iT x y ≠ 0 := fun e => by have := h2.1 e; grind
  omega
set_option maxHeartbeats 1000000 in
theorem DN (m0 : RW) (r : List RW) (om : m0.OK 262144) (or : ∀ x ∈ r, x.OK 262144) (hl : r.length <= 1048576) :
  Con Tryz.prog 115 [V1 (dRs (m0 :: r)), .fn 37 none] { v := AG (loR m0 r).cs } := by
 have ho : ∀ k, (loR m0 (r.take k)).OK 262144 := fun k => by
  rcases pD (r.take k) m0 with h | h
  ·rw [h]; exact om
  ·exact or _ (List.mem_of_mem_take h)
 refine Z2 Tryz.func115 ?_
 intro w0 X
 rw [aq _ _ [(0, V1 (dRs (m0 :: r))), (1, .fn 37 none)] rfl rfl];refine gQ fun _ Z9=>?_;refine av rfl rfl rfl rfl rfl rfl ?_;refine eQ Z9 ?_;clear Z9;refine ah ?_;refine gQ fun _ Z9=>?_;refine Z8 ?_;refine ay rfl (aL RW.dc rfl rfl) rfl ?_;refine am rfl (cy (c := false) (decide_eq_false (by simp; omega))) rfl ?_;refine eQ Z9 ?_;clear Z9;refine ap rfl (fun h => by cases h) (fun _ => ?_);refine aj ?_;show AWP _ _ _ _ _ _;refine gQ fun _ Z9=>?_;refine Z8 ?_;refine ac rfl (x_m (i := 0) RW.dc rfl rfl rfl rfl (by simp) rfl) rfl ?_;refine Z6 ?_;refine av rfl rfl rfl rfl rfl rfl ?_;refine ak rfl rfl rfl rfl rfl ?_;refine eQ Z9 ?_;clear Z9;refine ah ?_;refine gQ fun _ Z9=>?_;refine Z7 ?_;refine eQ Z9 ?_;clear Z9;refine ar (aN (α := Nat) (fun i => mk 33 [(0, V1 (dRs (m0 :: r))), (1, .fn 37 none), (4, .ptr 4 0), (5, .ptr 5 0), (6, dI (i + 1 : Nat))] [(4, some (.box [.d (.lit (.bool false)), .nil, .d (.lit (.bool false)), .nil])), (5, some (.box (loR m0 (r.take i)).cs))] []) (fun i => i <= r.length) (fun i => r.length - i) 0 ?_ (Nat.zero_le _) ?_)
 ·exact Wk.mk' ⟨rfl, rfl, rfl, rfl, rfl, trivial⟩ ⟨rfl, rfl, trivial⟩
 intro i hi
 refine ah ?_;refine gQ fun _ Z9=>?_;refine Z8 ?_;refine Z8 ?_;refine ay rfl (aL RW.dc rfl rfl) rfl ?_;refine Z5 ?_;refine eQ Z9 ?_;clear Z9;refine ap rfl (fun hg => ?_) (fun hg => ?_)
 ·have hg : i < r.length := by simp at hg; omega
  have hg1 : i + 1 < (m0 :: r).length := by simp; omega
  have ex : (m0 :: r)[i + 1] = r[i] := rfl
  have et : loR m0 (r.take (i + 1)) = if r[i].v < (loR m0 (r.take i)).v then r[i] else loR m0 (r.take i) := by
   rw [List.take_succ_eq_append_getElem hg, mU]
  have cC := kf r[i] (loR m0 (r.take i)) ((or _ (List.getElem_mem hg)).mono rfl) ((ho i).mono rfl)
  refine aj ?_;show AWP _ _ _ _ _ _;refine ah ?_;refine ar ?_;generalize loR m0 (r.take i) = m at cC et ⊢;refine oZ tok mixed (m := 6) (A := [[], [], [], [], [1, 2], [], [1, 2, 3], [0, 1, 2, 3, 4, 5]]) (an := [{}, {}, {}, {}, {}, {}, {}, {}]) rfl rfl (by kernel_rfl) (by kernel_rfl) (by kernel_rfl) rfl fun _ Z9=>?_;refine Z8 ?_;refine Z8 ?_;refine Z8 ?_;refine ac rfl (x_m RW.dc rfl rfl rfl rfl hg1 rfl) rfl ?_;refine Z6 ?_;refine Z6 ?_;refine ae ?_;refine Br (c := none) (args := [AG r[i].cs, AG m.cs]) cC rfl rfl rfl rfl rfl rfl rfl ?_;refine aa tok rfl ?_;refine am rfl (cy (qi _ _)) rfl ?_;refine ae ?_;refine aS rfl (Z9 _ ?_); clear Z9;refine ap rfl (fun hx => ?_) (fun hx => ?_)
  ·have hx := of_decide_eq_true hx
   rw [if_pos hx] at et;refine gR fun _ Z9=>?_;refine Z8 ?_;refine Z8 ?_;refine ac rfl (x_m RW.dc rfl rfl rfl rfl hg1 rfl) rfl ?_;refine Z6 ?_;refine ak rfl rfl rfl rfl rfl ?_;refine eQ Z9 ?_;clear Z9;show AWP _ _ _ _ _ _;refine gR fun _ Z9=>?_;refine Z8 ?_;refine am rfl (aJ (c := ((i + 1 + 1 : Nat) : Int)) (by omega) (by omega)) rfl ?_;refine Z7 ?_;refine eQ Z9 ?_;clear Z9;refine ⟨i + 1, by omega, hg, ?_⟩;rw [et];exact Wk.mk' ⟨rfl, rfl, rfl, rfl, rfl, trivial⟩ ⟨rfl, rfl, trivial⟩
  ·have hx := of_decide_eq_false hx
   rw [if_neg hx] at et;refine aj ?_;show AWP _ _ _ _ _ _;refine gR fun _ Z9=>?_;refine Z8 ?_;refine am rfl (aJ (c := ((i + 1 + 1 : Nat) : Int)) (by omega) (by omega)) rfl ?_;refine Z7 ?_;refine eQ Z9 ?_;clear Z9;refine ⟨i + 1, by omega, hg, ?_⟩;rw [et];exact Wk.mk' ⟨rfl, rfl, rfl, rfl, rfl, trivial⟩ ⟨rfl, rfl, trivial⟩
 have hg : i = r.length := by simp at hg; omega
 subst hg
 rw [List.take_length];refine az ?_;show AWP _ _ _ _ _ _;refine gQ fun _ Z9=>?_;refine Z6 ?_;refine ak rfl rfl rfl rfl rfl ?_;refine eQ Z9 ?_;clear Z9;exact ai aE
set_option maxHeartbeats 1000000 in
theorem DO (m0 : RW) (r : List RW) (om : m0.OK 262144) (or : ∀ x ∈ r, x.OK 262144) (hl : r.length <= 1048576) :
  Con Tryz.prog 116 [V1 (dRs (m0 :: r)), .fn 37 none] { v := AG (hiR m0 r).cs } := by
 have ho : ∀ k, (hiR m0 (r.take k)).OK 262144 := fun k => by
  rcases pF (r.take k) m0 with h | h
  ·rw [h]; exact om
  ·exact or _ (List.mem_of_mem_take h)
 refine Z2 Tryz.func116 ?_
 intro w0 X
 rw [aq _ _ [(0, V1 (dRs (m0 :: r))), (1, .fn 37 none)] rfl rfl];refine gQ fun _ Z9=>?_;refine av rfl rfl rfl rfl rfl rfl ?_;refine eQ Z9 ?_;clear Z9;refine ah ?_;refine gQ fun _ Z9=>?_;refine Z8 ?_;refine ay rfl (aL RW.dc rfl rfl) rfl ?_;refine am rfl (cy (c := false) (decide_eq_false (by simp; omega))) rfl ?_;refine eQ Z9 ?_;clear Z9;refine ap rfl (fun h => by cases h) (fun _ => ?_);refine aj ?_;show AWP _ _ _ _ _ _;refine gQ fun _ Z9=>?_;refine Z8 ?_;refine ac rfl (x_m (i := 0) RW.dc rfl rfl rfl rfl (by simp) rfl) rfl ?_;refine Z6 ?_;refine av rfl rfl rfl rfl rfl rfl ?_;refine ak rfl rfl rfl rfl rfl ?_;refine eQ Z9 ?_;clear Z9;refine ah ?_;refine gQ fun _ Z9=>?_;refine Z7 ?_;refine eQ Z9 ?_;clear Z9;refine ar (aN (α := Nat) (fun i => mk 33 [(0, V1 (dRs (m0 :: r))), (1, .fn 37 none), (4, .ptr 4 0), (5, .ptr 5 0), (6, dI (i + 1 : Nat))] [(4, some (.box [.d (.lit (.bool false)), .nil, .d (.lit (.bool false)), .nil])), (5, some (.box (hiR m0 (r.take i)).cs))] []) (fun i => i <= r.length) (fun i => r.length - i) 0 ?_ (Nat.zero_le _) ?_)
 ·exact Wk.mk' ⟨rfl, rfl, rfl, rfl, rfl, trivial⟩ ⟨rfl, rfl, trivial⟩
 intro i hi
 refine ah ?_;refine gQ fun _ Z9=>?_;refine Z8 ?_;refine Z8 ?_;refine ay rfl (aL RW.dc rfl rfl) rfl ?_;refine Z5 ?_;refine eQ Z9 ?_;clear Z9;refine ap rfl (fun hg => ?_) (fun hg => ?_)
 ·have hg : i < r.length := by simp at hg; omega
  have hg1 : i + 1 < (m0 :: r).length := by simp; omega
  have ex : (m0 :: r)[i + 1] = r[i] := rfl
  have et : hiR m0 (r.take (i + 1)) = if (hiR m0 (r.take i)).v < r[i].v then r[i] else hiR m0 (r.take i) := by
   rw [List.take_succ_eq_append_getElem hg, mW]
  have cC := kf r[i] (hiR m0 (r.take i)) ((or _ (List.getElem_mem hg)).mono rfl) ((ho i).mono rfl)
  refine aj ?_;show AWP _ _ _ _ _ _;refine ah ?_;refine ar ?_;generalize hiR m0 (r.take i) = m at cC et ⊢;refine oZ tok mixed (m := 6) (A := [[], [], [], [], [1, 2], [], [1, 2, 3], [0, 1, 2, 3, 4, 5]]) (an := [{}, {}, {}, {}, {}, {}, {}, {}]) rfl rfl (by kernel_rfl) (by kernel_rfl) (by kernel_rfl) rfl fun _ Z9=>?_;refine Z8 ?_;refine Z8 ?_;refine Z8 ?_;refine ac rfl (x_m RW.dc rfl rfl rfl rfl hg1 rfl) rfl ?_;refine Z6 ?_;refine Z6 ?_;refine ae ?_;refine Br (c := none) (args := [AG r[i].cs, AG m.cs]) cC rfl rfl rfl rfl rfl rfl rfl ?_;refine aa tok rfl ?_;refine am rfl (dz (zP _ _)) rfl ?_;refine ae ?_;refine aS rfl (Z9 _ ?_); clear Z9;refine ap rfl (fun hx => ?_) (fun hx => ?_)
  ·have hx := of_decide_eq_true hx
   rw [if_pos hx] at et;refine gR fun _ Z9=>?_;refine Z8 ?_;refine Z8 ?_;refine ac rfl (x_m RW.dc rfl rfl rfl rfl hg1 rfl) rfl ?_;refine Z6 ?_;refine ak rfl rfl rfl rfl rfl ?_;refine eQ Z9 ?_;clear Z9;show AWP _ _ _ _ _ _;refine gR fun _ Z9=>?_;refine Z8 ?_;refine am rfl (aJ (c := ((i + 1 + 1 : Nat) : Int)) (by omega) (by omega)) rfl ?_;refine Z7 ?_;refine eQ Z9 ?_;clear Z9;refine ⟨i + 1, by omega, hg, ?_⟩;rw [et];exact Wk.mk' ⟨rfl, rfl, rfl, rfl, rfl, trivial⟩ ⟨rfl, rfl, trivial⟩
  ·have hx := of_decide_eq_false hx
   rw [if_neg hx] at et;refine aj ?_;show AWP _ _ _ _ _ _;refine gR fun _ Z9=>?_;refine Z8 ?_;refine am rfl (aJ (c := ((i + 1 + 1 : Nat) : Int)) (by omega) (by omega)) rfl ?_;refine Z7 ?_;refine eQ Z9 ?_;clear Z9;refine ⟨i + 1, by omega, hg, ?_⟩;rw [et];exact Wk.mk' ⟨rfl, rfl, rfl, rfl, rfl, trivial⟩ ⟨rfl, rfl, trivial⟩
 have hg : i = r.length := by simp at hg; omega
 subst hg
 rw [List.take_length];refine az ?_;show AWP _ _ _ _ _ _;refine gQ fun _ Z9=>?_;refine Z6 ?_;refine ak rfl rfl rfl rfl rfl ?_;refine eQ Z9 ?_;clear Z9;exact ai aE
theorem s4 {m : RW} {l : List RW} {k : Nat} (hm : m.OK k) (hl : ∀ x ∈ l, x.OK k) : (loR m l).OK k := by
 rcases pD l m with h | h
 ·rw [h]; exact hm
 ·exact hl _ h
theorem s9 {m : RW} {l : List RW} {k : Nat} (hm : m.OK k) (hl : ∀ x ∈ l, x.OK k) : (hiR m l).OK k := by
 rcases pF l m with h | h
 ·rw [h]; exact hm
 ·exact hl _ h
theorem DV : Con Tryz.prog 35 [dI 1, dI 2] { v := AG (qzW (Rat.divInt 1 2)).cs } := ub 1 2 ⟨by decide, by decide⟩ ⟨by decide, by decide⟩
theorem pG : ql (Rat.divInt 1 2) <= 1 := by decide +kernel
set_option maxHeartbeats 1000000 in
theorem um (m0 : RW) (r : List RW) (t : Int) (om : m0.OK 262144) (or : ∀ x ∈ r, x.OK 262144) (hl : r.length <= 1048576) (ht : tolB t = true) :
  Con Tryz.prog 74 [V1 (dRs (m0 :: r)), dI t] { v := .tup [.agg (qzW (dM (loR m0 r) (hiR m0 r))).cs, .one (.d (.lit (.bool (jI (loR m0 r) (hiR m0 r) t))))] } := by
 have c1 := DN m0 r om or hl
 have c2 := DO m0 r om or hl
 have o1 := s4 om or
 have o2 := s9 om or
 unfold jI dM
 generalize loR m0 r = lo at c1 o1 ⊢;generalize hiR m0 r = hi at c2 o2 ⊢
 have q := b7 (o1.ql rfl) (o2.ql rfl)
 have c3 := vu lo hi (lo.v + hi.v) (o1.mono rfl) (o2.mono rfl) rfl
 have c4 := DV
 have c5 := DB (qzW (lo.v + hi.v)) (qzW (Rat.divInt 1 2)) ((lo.v + hi.v) * (Rat.divInt 1 2)) ((bj q).mono rfl) ((bj pG).mono rfl) (by rw [bB, bB])
 have c6 := qZ lo hi t o1 o2 ht
 generalize qzW ((lo.v + hi.v) * (Rat.divInt 1 2)) = w at c5 ⊢;generalize qzW (lo.v + hi.v) = w1 at c3 c5;generalize qzW (Rat.divInt 1 2) = w2 at c4 c5;refine Z2 Tryz.func74 ?_
 intro w0 X
 rw [aq _ _ [(0, V1 (dRs (m0 :: r))), (1, dI t)] rfl rfl];refine gQ fun _ Z9=>?_;refine av rfl rfl rfl rfl rfl rfl ?_;refine Z7 ?_;refine eQ Z9 ?_;clear Z9;refine gQ fun _ Z9=>?_;refine Z8 ?_;refine ab rfl rfl (c1) rfl rfl rfl rfl ?_;refine Z8 ?_;refine ab rfl rfl (c2) rfl rfl rfl rfl ?_;refine av rfl rfl rfl rfl rfl rfl ?_;refine av rfl rfl rfl rfl rfl rfl ?_;refine ak rfl rfl rfl rfl rfl ?_;refine ak rfl rfl rfl rfl rfl ?_;refine eQ Z9 ?_;clear Z9;refine aA tok mixed (A := [[], [], [], [0, 1], [0, 1], [], [], [], [0, 1, 2, 3], [5, 6, 7], []]) (an := [{}, {}, {}, {}, {}, { c := [14, 15, 16] }, { c := [14, 15, 16] }, { c := [14, 15, 16] }, {}, {}, {}]) rfl (by kernel_rfl) rfl fun _ Z9=>?_;refine Z6 ?_;refine Z6 ?_;refine ab rfl rfl (c3) rfl rfl rfl rfl ?_;refine ab rfl rfl (c4) rfl rfl rfl rfl ?_;refine ab rfl rfl (c5) rfl rfl rfl rfl ?_;refine Z6 ?_;refine Z6 ?_;refine Z8 ?_;refine ab rfl rfl (c6) rfl rfl rfl rfl ?_;refine ak rfl rfl rfl rfl rfl ?_;refine Z7 ?_;refine eQ Z9 ?_;clear Z9;exact ai aE
set_option maxHeartbeats 4000000 in
theorem wt (l : List SP) (t : Int) (ol : ∀ p ∈ l, p.OK 262144) (hl : l.length <= 1048576) : Con Tryz.prog 30 [V1 (dSs l), dI t] { v := .tup [.agg (eu l t).1.cs, .one (.d (.lit (.bool (eu l t).2)))] } := by
 have cT := uW t
 refine Z2 Tryz.func30 ?_
 intro w0 X
 rw [aq _ _ [(0, V1 (dSs l)), (1, dI t)] rfl rfl];refine gQ fun _ Z9=>?_;refine av rfl rfl rfl rfl rfl rfl ?_;refine Z7 ?_;refine eQ Z9 ?_;clear Z9;refine ah ?_
 rcases l with _ | ⟨p, r⟩
 ·refine gQ fun _ Z9=>?_;refine Z8 ?_;refine ay rfl (aL SP.dc rfl rfl) rfl ?_;refine am rfl (dS (c := true) rfl) rfl ?_;refine Z8 ?_;refine ag rfl ?_;refine ag rfl ?_;refine ag rfl ?_;refine Z3 ?_;refine eQ Z9 ?_;clear Z9;refine ap rfl (fun _ => ?_) (fun h => by cases h);show AWP _ _ _ _ _ _
  have e : eu [] t = (sp0, false) := rfl
  rw [e];refine gQ fun _ Z9=>?_;refine aG rfl rfl rfl ?_;refine ak rfl rfl rfl rfl rfl ?_;refine Z7 ?_;refine eQ Z9 ?_;clear Z9;exact ai aE
 cases ht : tolB t with
 | false =>
  rw [ht] at cT
  have e : eu (p :: r) t = (sp0, false) := by unfold eu; rw [ht]; rfl
  rw [e];refine gQ fun _ Z9=>?_;refine Z8 ?_;refine ay rfl (aL SP.dc rfl rfl) rfl ?_;refine am rfl (dS (c := false) (by simp; omega)) rfl ?_;refine Z8 ?_;refine Z8 ?_;refine ab rfl rfl (cT) rfl rfl rfl rfl ?_;refine bd rfl rfl rfl ?_;refine Z3 ?_;refine eQ Z9 ?_;clear Z9;refine ap rfl (fun _ => ?_) (fun h => by cases h);refine gQ fun _ Z9=>?_;refine aG rfl rfl rfl ?_;refine ak rfl rfl rfl rfl rfl ?_;refine Z7 ?_;refine eQ Z9 ?_;clear Z9;exact ai aE
 | true =>
  rw [ht] at cT
  have ox := (ol p List.mem_cons_self).x
  have oy := (ol p List.mem_cons_self).y
  have orx : ∀ x ∈ r.map SP.x, x.OK 262144 := fun x hx => by obtain ⟨q, hq, rfl⟩ := List.mem_map.1 hx; exact (ol q (List.mem_cons_of_mem _ hq)).x
  have ory : ∀ x ∈ r.map SP.y, x.OK 262144 := fun x hx => by obtain ⟨q, hq, rfl⟩ := List.mem_map.1 hx; exact (ol q (List.mem_cons_of_mem _ hq)).y
  have hr : r.length <= 1048575 := by simp at hl; omega
  have cX := um p.x (r.map SP.x) t ox orx (by rw [List.length_map]; omega) ht
  have cY := um p.y (r.map SP.y) t oy ory (by rw [List.length_map]; omega) ht
  have e : eu (p :: r) t = if jI (loR p.x (r.map SP.x)) (hiR p.x (r.map SP.x)) t && jI (loR p.y (r.map SP.y)) (hiR p.y (r.map SP.y)) t then (szW (dM (loR p.x (r.map SP.x)) (hiR p.x (r.map SP.x))) (dM (loR p.y (r.map SP.y)) (hiR p.y (r.map SP.y))), true) else (sp0, false) := by
   show (if tolB t && _ then _ else _) = _
   rw [ht, Bool.true_and]
  rw [e];generalize jI (loR p.x (r.map SP.x)) (hiR p.x (r.map SP.x)) t = bx at cX ⊢;generalize jI (loR p.y (r.map SP.y)) (hiR p.y (r.map SP.y)) t = bY at cY ⊢
  have ez : szW (dM (loR p.x (r.map SP.x)) (hiR p.x (r.map SP.x))) (dM (loR p.y (r.map SP.y)) (hiR p.y (r.map SP.y))) = ⟨qzW (dM (loR p.x (r.map SP.x)) (hiR p.x (r.map SP.x))), qzW (dM (loR p.y (r.map SP.y)) (hiR p.y (r.map SP.y)))⟩ := rfl
  rw [ez];generalize qzW (dM (loR p.x (r.map SP.x)) (hiR p.x (r.map SP.x))) = mx at cX ⊢;generalize qzW (dM (loR p.y (r.map SP.y)) (hiR p.y (r.map SP.y))) = my at cY ⊢
  have exs : p.x :: r.map SP.x = (p :: r).map SP.x := rfl
  have eys : p.y :: r.map SP.y = (p :: r).map SP.y := rfl
  rw [exs] at cX;rw [eys] at cY;refine gQ fun _ Z9=>?_;refine Z8 ?_;refine ay rfl (aL SP.dc rfl rfl) rfl ?_;refine am rfl (dS (c := false) (by simp; omega)) rfl ?_;refine Z8 ?_;refine Z8 ?_;refine ab rfl rfl (cT) rfl rfl rfl rfl ?_;refine bd rfl rfl rfl ?_;refine Z3 ?_;refine eQ Z9 ?_;clear Z9;refine ap rfl (fun h => by cases h) (fun _ => ?_);refine aj ?_;show AWP _ _ _ _ _ _
  obtain ⟨L, hL⟩ : ∃ L, L = p :: r := ⟨_, rfl⟩
  have hne : L.length ≠ 0 := by rw [hL]; simp
  rw [<- hL] at cX cY hl ⊢;clear exs eys ez e;refine gQ fun _ Z9=>?_;refine Z7 ?_;refine Z7 ?_;refine eQ Z9 ?_;clear Z9;refine ah ?_;refine gQ fun _ Z9=>?_;refine Z8 ?_;refine ay rfl (aL SP.dc rfl rfl) rfl ?_;refine Z8 ?_;refine eQ Z9 ?_;clear Z9;refine ar (aN (α := Nat) (fun i => mk 62 [(1, dI t), (4, .ptr 4 0), (6, dK 200 4 i), (7, dK 201 4 i), (23, V1 (dSs L)), (24, dI L.length), (25, dI i)] [(4, some (.box [.d (.lit (.bool false)), .nil, .d (.lit (.bool false)), .nil, .d (.lit (.bool false)), .nil, .d (.lit (.bool false)), .nil])), (200, gf 4 (((L.take i).map SP.x).map RW.dc) i), (201, gf 4 (((L.take i).map SP.y).map RW.dc) i)] []) (fun i => i <= L.length) (fun i => L.length - i) 0 ?_ (Nat.zero_le _) ?_)
  ·exact Wk.mk' ⟨rfl, rfl, rfl, rfl, rfl, rfl, rfl, trivial⟩ ⟨rfl, rfl, rfl, trivial⟩
  intro i hi
  refine gQ fun _ Z9=>?_;refine Z5 ?_;refine eQ Z9 ?_;clear Z9;refine ah ?_;refine ap rfl (fun hg => ?_) (fun hg => ?_)
  ·have hg : i < L.length := by simp at hg; omega
   have n1 : ((L.take i).map SP.x).map RW.dc ++ [L[i].x.dc] = ((L.take (i + 1)).map SP.x).map RW.dc := by
    rw [List.take_succ_eq_append_getElem hg, List.map_append, List.map_append]; rfl
   have n2 : ((L.take i).map SP.y).map RW.dc ++ [L[i].y.dc] = ((L.take (i + 1)).map SP.y).map RW.dc := by
    rw [List.take_succ_eq_append_getElem hg, List.map_append, List.map_append]; rfl
   have z1 : (((L.take i).map SP.x).map RW.dc).length = i := by simp; omega
   have z2 : (((L.take i).map SP.y).map RW.dc).length = i := by simp; omega
   generalize ((L.take i).map SP.x).map RW.dc = xs' at n1 z1 ⊢;generalize ((L.take i).map SP.y).map RW.dc = ys' at n2 z2 ⊢;refine aj ?_;show AWP _ _ _ _ _ _;refine ah ?_;refine ar ?_;refine gQ fun _ Z9=>?_;refine ac rfl (x_m SP.dc rfl rfl rfl rfl hg rfl) rfl ?_;refine Z6 ?_;refine av rfl rfl rfl rfl rfl (by rcases i with _|i <;> rfl) ?_;refine ak rfl rfl rfl rfl rfl ?_;refine eQ Z9 ?_;clear Z9;refine cE tok mixed (A := [[], [], [], [1], [1, 2], [], [], [], [6], [0, 1, 2, 3, 6, 7], [5, 6, 7, 8], []]) (an := [{}, {}, {}, {}, {}, { c := [32, 33] }, { c := [32, 33] }, { c := [32, 33] }, { c := [32, 33] }, {}, {}, {}]) rfl (by kernel_rfl) rfl fun _ Z9=>?_;refine j6 rfl vD (by rcases i with _|i <;> rfl) ?_;refine Z4 ?_;refine Z6 ?_;refine aI rfl rfl (by rcases i with _|i <;> rfl) rfl ?_;refine lP rfl rfl rfl rfl rfl rfl rfl rfl rfl (by decide) (Nat.le_of_ble_eq_true rfl) rfl (by simp) (z1.symm) (by simp) (by simp <;> omega) (by rcases i with _|i <;> rfl) rfl rfl ?_;refine j6 rfl vD (by rcases i with _|i <;> rfl) ?_;refine Z4 ?_;refine Z6 ?_;refine aI rfl rfl (by rcases i with _|i <;> rfl) rfl ?_;refine lP rfl rfl rfl rfl rfl rfl rfl rfl rfl (by decide) (Nat.le_of_ble_eq_true rfl) rfl (by simp) (z2.symm) (by simp) (by simp <;> omega) (by rcases i with _|i <;> rfl) rfl rfl ?_;refine Z7 ?_;refine Z7 ?_;refine eQ Z9 ?_;clear Z9;show AWP _ _ _ _ _ _;refine gR fun _ Z9=>?_;refine am rfl (aJ (c := ((i + 1 : Nat) : Int)) (by omega) (by omega)) rfl ?_;refine Z8 ?_;refine eQ Z9 ?_;clear Z9;refine ⟨i + 1, by omega, hg, Wk.trans (Wk.rn [1, 4, 6, 7, 23, 24, 25] [4, 33, 38] 33 200 (E' := [(1, dI t), (4, .ptr 4 0), (6, dK 200 4 (i + 1)), (7, dK 38 4 (i + 1)), (23, V1 (dSs L)), (24, dI L.length), (25, dI (i + 1 : Nat))]) (S' := [(4, some (.box [.d (.lit (.bool false)), .nil, .d (.lit (.bool false)), .nil, .d (.lit (.bool false)), .nil, .d (.lit (.bool false)), .nil])), (200, gf 4 (((L.take (i + 1)).map SP.x).map RW.dc) (i + 1)), (38, gf 4 (((L.take (i + 1)).map SP.y).map RW.dc) (i + 1))]) rfl rfl rfl ⟨rfl, rfl, rfl, rfl, rfl, rfl, rfl, trivial⟩ ⟨rfl, ?_, ?_, trivial⟩) (Wk.rn [1, 4, 6, 7, 23, 24, 25] [4, 200, 38] 38 201 rfl rfl rfl ⟨rfl, rfl, rfl, rfl, rfl, rfl, rfl, trivial⟩ ⟨rfl, rfl, rfl, trivial⟩)⟩
   ·rw [<- n1]; rfl
   ·rw [<- n2]; rfl
  have hg : i = L.length := by simp at hg; omega
  subst hg
  rw [List.take_length];refine az ?_;show AWP _ _ _ _ _ _
  obtain ⟨n, hn⟩ : ∃ n, L.length = n + 1 := ⟨L.length - 1, by omega⟩
  rw [hn];refine eL [1, 4, 6, 7] [4, 200, 201] 200 [(1, dI t), (4, .ptr 4 0), (6, V1 (dRs (L.map SP.x))), (7, dK 201 4 (n + 1))] [(4, some (.box [.d (.lit (.bool false)), .nil, .d (.lit (.bool false)), .nil, .d (.lit (.bool false)), .nil, .d (.lit (.bool false)), .nil])), (201, gf 4 ((L.map SP.y).map RW.dc) (n + 1))] rfl ?_ ⟨rfl, rfl, trivial⟩ ?_
  ·exact ⟨rfl, rfl, cD rfl (by simp [hn]), rfl, trivial⟩
  refine eL [1, 4, 6, 7] [4, 201] 201 [(1, dI t), (4, .ptr 4 0), (6, V1 (dRs (L.map SP.x))), (7, V1 (dRs (L.map SP.y)))] [(4, some (.box [.d (.lit (.bool false)), .nil, .d (.lit (.bool false)), .nil, .d (.lit (.bool false)), .nil, .d (.lit (.bool false)), .nil]))] rfl ?_ ⟨rfl, trivial⟩ ?_
  ·exact ⟨rfl, rfl, rfl, cD rfl (by simp [hn]), trivial⟩
  refine gQ fun _ Z9=>?_;refine Z8 ?_;refine Z8 ?_;refine ab rfl rfl (cX) rfl rfl rfl rfl ?_;refine Z8 ?_;refine au rfl rfl rfl ?_;refine au rfl rfl rfl ?_;refine av rfl rfl rfl rfl rfl rfl ?_;refine ak rfl rfl rfl rfl rfl ?_;refine Z7 ?_;refine eQ Z9 ?_;clear Z9;refine gQ fun _ Z9=>?_;refine Z8 ?_;refine Z8 ?_;refine ab rfl rfl (cY) rfl rfl rfl rfl ?_;refine Z8 ?_;refine au rfl rfl rfl ?_;refine au rfl rfl rfl ?_;refine av rfl rfl rfl rfl rfl rfl ?_;refine ak rfl rfl rfl rfl rfl ?_;refine Z7 ?_;refine eQ Z9 ?_;clear Z9;refine ah ?_
  cases bx with
  | false =>
   refine gQ fun _ Z9=>?_;refine Z8 ?_;refine bd rfl rfl rfl ?_;refine Z8 ?_;refine ag rfl ?_;refine ag rfl ?_;refine Z3 ?_;refine eQ Z9 ?_;clear Z9;refine ap rfl (fun _ => ?_) (fun h => by cases h);refine gQ fun _ Z9=>?_;refine aG rfl rfl rfl ?_;refine ak rfl rfl rfl rfl rfl ?_;refine Z7 ?_;refine eQ Z9 ?_;clear Z9;exact ai aE
  | true =>
   cases bY with
   | false =>
    refine gQ fun _ Z9=>?_;refine Z8 ?_;refine bd rfl rfl rfl ?_;refine Z8 ?_;refine Z8 ?_;refine bd rfl rfl rfl ?_;refine Z3 ?_;refine eQ Z9 ?_;clear Z9;refine ap rfl (fun _ => ?_) (fun h => by cases h);refine gQ fun _ Z9=>?_;refine aG rfl rfl rfl ?_;refine ak rfl rfl rfl rfl rfl ?_;refine Z7 ?_;refine eQ Z9 ?_;clear Z9;exact ai aE
   | true =>
    refine gQ fun _ Z9=>?_;refine Z8 ?_;refine bd rfl rfl rfl ?_;refine Z8 ?_;refine Z8 ?_;refine bd rfl rfl rfl ?_;refine Z3 ?_;refine eQ Z9 ?_;clear Z9;refine ap rfl (fun h => by cases h) (fun _ => ?_);refine aj ?_;show AWP _ _ _ _ _ _;refine gQ fun _ Z9=>?_;refine Z6 ?_;refine Z6 ?_;refine aG rfl rfl rfl ?_;refine ak rfl rfl rfl rfl rfl ?_;refine Z7 ?_;refine eQ Z9 ?_;clear Z9;exact ai aE
end Go.Proofs.YtnoildlijhapaaaGreatDoor

/- Pattern and Select, both. No condition. -/
namespace Go.Proofs.YtnoildlijhapaaaGreatDoor
attribute [local irreducible] aC
open Go.RowKit

theorem qk {g : GR} {s : List SP} {ls : List LK} {t : Int} (h : tolB t = false) : d5 g s ls t = ([], 2) := by unfold d5; rw [if_pos h]
theorem uh {g : GR} {s : List SP} {ls : List LK} {t : Int} (h : tolB t = true) (h2 : 16 < ls.length) : d5 g s ls t = ([], 6) := by unfold d5; rw [if_neg (by rw [h]; decide), if_pos h2]
theorem nK {g : GR} {s : List SP} {ls : List LK} {t : Int} (h : tolB t = true) (h2 : ¬ 16 < ls.length) (h3 : da g s = false) : d5 g s ls t = ([], 1) := by unfold d5; rw [if_neg (by rw [h]; decide), if_neg h2, if_pos h3]
theorem ui {g : GR} {s : List SP} {ls : List LK} {t : Int} (h : tolB t = true) (h2 : ¬ 16 < ls.length) (h3 : da g s = true) (h4 : ls.all (iC g) = false) : d5 g s ls t = ([], 1) := by
 unfold d5; rw [if_neg (by rw [h]; decide), if_neg h2, if_neg (by rw [h3]; decide), if_neg (by rw [h4]; decide)]
theorem w8 {g : GR} {s : List SP} {ls : List LK} {t : Int} (h : tolB t = true) (h2 : ¬ 16 < ls.length) (h3 : da g s = true) (h4 : ls.all (iC g) = true) : d5 g s ls t = (prP (nrP (cd g s ls) t) ls.length ls.length, 0) := by
 unfold d5; rw [if_neg (by rw [h]; decide), if_neg h2, if_neg (by rw [h3]; decide), if_pos h4]
theorem Bh {g : GR} {ls : List LK} {i : Nat} (h : i < ls.length) (hf : iC g ls[i] = false) : ls.all (iC g) = false := by
 rw [List.all_eq_false]; exact ⟨_, List.getElem_mem h, by rw [hf]; decide⟩
theorem xa {g : GR} {s : List SP} {l : LK} (h3 : da g s = true) (hf : iC g l = false) : eW g s l = (sp0, 1) := by unfold eW; rw [h3, hf]; rfl
theorem uk {g : GR} {s : List SP} {l : LK} (h3 : da g s = true) (hf : iC g l = true) : eW g s l = (o6 g s l, 0) := by unfold eW; rw [h3, hf]; rfl
theorem xc {g : GR} {s : List SP} {ls : List LK} (h3 : da g s = true) (ok : ∀ r ∈ g.nodes, r.OK 4096) (os : ∀ p ∈ s, p.OK 4096) (h4 : ls.all (iC g) = true) : ∀ p ∈ cd g s ls, p.OK 262144 := fun p hp => by
 obtain ⟨l, hl, rfl⟩ := List.mem_map.1 hp
 have gs := eI.1 h3
 exact xb gs (cK.1 ((kk gs.gv).symm.trans (List.all_eq_true.1 h4 l hl))) ok os rfl (by omega)

set_option maxHeartbeats 8000000 in
theorem A2 (g : GR) (s : List SP) (ls : List LK) (t : Int) (ok : ∀ r ∈ g.nodes, r.OK 4096) (os : ∀ p ∈ s, p.OK 4096) : Con Tryz.prog 24 [AG g.cs, V1 (dSs s), V1 (dLs ls), dI t] { v := .tup [.one (.d (.sl ((d5 g s ls t).1.map prD))), .one (.d (lI (d5 g s ls t).2))] } := by
 have cT := uW t
 have cR := uP g s
 refine Z2 Tryz.func24 ?_
 intro w0 X
 rw [aq _ _ [(0, AG g.cs), (1, V1 (dSs s)), (2, V1 (dLs ls)), (3, dI t)] rfl rfl];refine gQ fun _ Z9=>?_;refine aB rfl rfl rfl rfl rfl rfl ?_;refine Z7 ?_;refine Z7 ?_;refine eQ Z9 ?_;clear Z9;refine ah ?_;refine ar ?_
 cases ht : tolB t with
 | false =>
  rw [ht] at cT;rw [qk ht];refine gQ fun _ Z9=>?_;refine Z8 ?_;refine ab rfl rfl (cT) rfl rfl rfl rfl ?_;refine bd rfl rfl rfl ?_;refine Z7 ?_;refine eQ Z9 ?_;clear Z9;refine ap rfl (fun _ => ?_) (fun h => by cases h);refine gQ fun _ Z9=>?_;refine Z7 ?_;refine Z7 ?_;refine eQ Z9 ?_;clear Z9;exact ai aE
 | true =>
  rw [ht] at cT;refine gQ fun _ Z9=>?_;refine Z8 ?_;refine ab rfl rfl (cT) rfl rfl rfl rfl ?_;refine bd rfl rfl rfl ?_;refine Z7 ?_;refine eQ Z9 ?_;clear Z9;refine ap rfl (fun h => by cases h) (fun _ => ?_)
  by_cases h16 : 16 < ls.length
  ·rw [uh ht h16];refine gQ fun _ Z9=>?_;refine Z8 ?_;refine ay rfl (aL LK.dc rfl rfl) rfl ?_;refine am rfl (dz (c := true) (decide_eq_true (by omega))) rfl ?_;refine Z7 ?_;refine eQ Z9 ?_;clear Z9;refine ap rfl (fun _ => ?_) (fun h => by cases h);refine gQ fun _ Z9=>?_;refine Z7 ?_;refine Z7 ?_;refine eQ Z9 ?_;clear Z9;exact ai aE
  refine gQ fun _ Z9=>?_;refine Z8 ?_;refine ay rfl (aL LK.dc rfl rfl) rfl ?_;refine am rfl (dz (c := false) (decide_eq_false (by omega))) rfl ?_;refine Z7 ?_;refine eQ Z9 ?_;clear Z9;refine ap rfl (fun h => by cases h) (fun _ => ?_)
  cases hc : da g s with
  | false =>
   rw [hc] at cR;rw [nK ht h16 hc];refine gQ fun _ Z9=>?_;refine Z6 ?_;refine Z8 ?_;refine ab rfl rfl (cR) rfl rfl rfl rfl ?_;refine bd rfl rfl rfl ?_;refine Z7 ?_;refine eQ Z9 ?_;clear Z9;refine ap rfl (fun _ => ?_) (fun h => by cases h);refine gQ fun _ Z9=>?_;refine Z7 ?_;refine Z7 ?_;refine eQ Z9 ?_;clear Z9;exact ai aE
  | true =>
   rw [hc] at cR;refine gQ fun _ Z9=>?_;refine Z6 ?_;refine Z8 ?_;refine ab rfl rfl (cR) rfl rfl rfl rfl ?_;refine bd rfl rfl rfl ?_;refine Z7 ?_;refine eQ Z9 ?_;clear Z9;refine ap rfl (fun h => by cases h) (fun _ => ?_);refine aj ?_;show AWP _ _ _ _ _ _;refine gQ fun _ Z9=>?_;refine Z7 ?_;refine eQ Z9 ?_;clear Z9;refine ah ?_;refine gQ fun _ Z9=>?_;refine Z8 ?_;refine ay rfl (aL LK.dc rfl rfl) rfl ?_;refine Z8 ?_;refine eQ Z9 ?_;clear Z9;refine ar (aN (α := Nat) (fun i => mk 83 [(1, V1 (dSs s)), (3, dI t), (4, .ptr 4 0), (10, dK 200 8 i), (31, V1 (dLs ls)), (32, dI ls.length), (33, dI i)] [(4, some (.box g.cs)), (200, gf 8 ((cd g s (ls.take i)).map SP.dc) i)] []) (fun i => i <= ls.length /\ (ls.take i).all (iC g) = true) (fun i => ls.length - i) 0 ?_ ⟨Nat.zero_le _, rfl⟩ ?_)
   ·exact Wk.mk' ⟨rfl, rfl, rfl, rfl, rfl, rfl, rfl, trivial⟩ ⟨rfl, rfl, trivial⟩
   rintro i ⟨hi, hall⟩
   refine gQ fun _ Z9=>?_;refine Z5 ?_;refine eQ Z9 ?_;clear Z9;refine ah ?_;refine ap rfl (fun hg => ?_) (fun hg => ?_)
   ·have hg : i < ls.length := by simp at hg; omega
    have cO := wo g s ls[i] ok os
    refine aj ?_;show AWP _ _ _ _ _ _;refine ah ?_;refine ar ?_;refine gQ fun _ Z9=>?_;refine ac rfl (x_m LK.dc rfl rfl rfl rfl hg rfl) rfl ?_;refine Z6 ?_;refine av rfl rfl rfl rfl rfl (by rcases i with _|i <;> rfl) ?_;refine ak rfl rfl rfl rfl rfl ?_;refine eQ Z9 ?_;clear Z9
    cases hf : iC g ls[i] with
    | false =>
     rw [xa hc hf] at cO;rw [ui ht h16 hc (Bh hg hf)];refine gQ fun _ Z9=>?_;refine Z6 ?_;refine Z8 ?_;refine Z6 ?_;refine ab rfl rfl (cO) rfl rfl rfl rfl ?_;refine Z8 ?_;refine au rfl rfl rfl ?_;refine au rfl rfl rfl ?_;refine av rfl rfl rfl rfl rfl (by rcases i with _|i <;> rfl) ?_;refine ak rfl rfl rfl rfl rfl ?_;refine Z7 ?_;refine eQ Z9 ?_;clear Z9;refine ah ?_;refine gQ fun _ Z9=>?_;refine Z8 ?_;refine am rfl (ja (c := true) rfl) rfl ?_;refine eQ Z9 ?_;clear Z9;refine ap rfl (fun _ => ?_) (fun h => by cases h);refine gQ fun _ Z9=>?_;refine Z8 ?_;refine Z7 ?_;refine Z7 ?_;refine eQ Z9 ?_;clear Z9;exact ai aE
    | true =>
     rw [uk hc hf] at cO
     have n1 : (cd g s (ls.take i)).map SP.dc ++ [(o6 g s ls[i]).dc] = (cd g s (ls.take (i + 1))).map SP.dc := by
      unfold cd
      rw [List.take_succ_eq_append_getElem hg, List.map_append, List.map_append]; rfl
     have z1 : ((cd g s (ls.take i)).map SP.dc).length = i := by simp [cd]; omega
     generalize (cd g s (ls.take i)).map SP.dc = es at n1 z1 ⊢;generalize o6 g s ls[i] = o at cO n1;refine gQ fun _ Z9=>?_;refine Z6 ?_;refine Z8 ?_;refine Z6 ?_;refine ab rfl rfl (cO) rfl rfl rfl rfl ?_;refine Z8 ?_;refine au rfl rfl rfl ?_;refine au rfl rfl rfl ?_;refine av rfl rfl rfl rfl rfl (by rcases i with _|i <;> rfl) ?_;refine ak rfl rfl rfl rfl rfl ?_;refine Z7 ?_;refine eQ Z9 ?_;clear Z9;refine ah ?_;refine gQ fun _ Z9=>?_;refine Z8 ?_;refine am rfl (ja (c := false) rfl) rfl ?_;refine eQ Z9 ?_;clear Z9;refine ap rfl (fun h => by cases h) (fun _ => ?_);refine aj ?_;show AWP _ _ _ _ _ _;refine gR fun _ Z9=>?_;refine j6 rfl vD rfl ?_;refine Z6 ?_;refine aI rfl rfl (by rcases i with _|i <;> rfl) rfl ?_;refine lP rfl rfl rfl rfl rfl rfl rfl rfl rfl (by decide) (Nat.le_of_ble_eq_true rfl) rfl (by simp) (z1.symm) (by simp) (by simp <;> omega) (by rcases i with _|i <;> rfl) rfl rfl ?_;refine Z7 ?_;refine eQ Z9 ?_;clear Z9;show AWP _ _ _ _ _ _;refine gR fun _ Z9=>?_;refine am rfl (aJ (c := ((i + 1 : Nat) : Int)) (by omega) (by omega)) rfl ?_;refine Z8 ?_;refine eQ Z9 ?_;clear Z9;refine ⟨i + 1, by omega, ⟨hg, by rw [List.take_succ_eq_append_getElem hg, List.all_append, hall]; simp [hf]⟩, Wk.rn [1, 3, 4, 10, 31, 32, 33] [4, 50] 50 200 rfl rfl rfl ⟨rfl, rfl, rfl, rfl, rfl, rfl, rfl, trivial⟩ ⟨rfl, ?_, trivial⟩⟩;rw [<- n1]; rfl
   have hg : i = ls.length := by simp at hg; omega
   subst hg
   rw [List.take_length] at hall;rw [List.take_length, w8 ht h16 hc hall]
   have oo := xc hc ok os hall
   have ol : (cd g s ls).length = ls.length := by simp [cd]
   have nr : ∀ i j (hi : i < (cd g s ls).length) (hj : j < (cd g s ls).length), Con Tryz.prog 32 [AG (cd g s ls)[i].cs, AG (cd g s ls)[j].cs, dI t] { v := dB (nrP (cd g s ls) t i j) } := fun i j hi hj => by
    have c := tw (cd g s ls)[i] (cd g s ls)[j] t (oo _ (List.getElem_mem hi)) (oo _ (List.getElem_mem hj))
    have e1 : (cd g s ls).getD i sp0 = (cd g s ls)[i] := by rw [List.getD_eq_getElem?_getD, List.getElem?_eq_getElem hi]; rfl
    have e2 : (cd g s ls).getD j sp0 = (cd g s ls)[j] := by rw [List.getD_eq_getElem?_getD, List.getElem?_eq_getElem hj]; rfl
    unfold nrP
    rw [e1, e2]; exact c
   generalize nrP (cd g s ls) t = q at nr ⊢;generalize cd g s ls = O at nr ol ⊢;rw [<- ol] at h16 ⊢;refine az ?_;show AWP _ _ _ _ _ _
   obtain ⟨m, hm⟩ : ∃ m, O.length = m := ⟨_, rfl⟩
   rcases O with _ | ⟨p1, O1⟩
   ·refine gQ fun _ Z9=>?_;refine Z7 ?_;refine eQ Z9 ?_;clear Z9;refine ah ?_;refine gQ fun _ Z9=>?_;refine Z8 ?_;refine ay rfl rfl rfl ?_;refine Z8 ?_;refine eQ Z9 ?_;clear Z9;refine ar (aN (α := Unit) (fun _ => mk 83 [(15, dK 200 2 0), (53, dI 0), (54, dI 0)] [] []) (fun _ => True) (fun _ => 0) () ?_ trivial ?_)
    ·exact Wk.mk' ⟨rfl, rfl, rfl, trivial⟩ trivial
    intro _ _
    refine gQ fun _ Z9=>?_;refine Z5 ?_;refine eQ Z9 ?_;clear Z9;refine ah ?_;refine ap rfl (fun h => by cases h) (fun _ => ?_);refine az ?_;show AWP _ _ _ _ _ _;refine gQ fun _ Z9=>?_;refine Z8 ?_;refine Z7 ?_;refine Z7 ?_;refine eQ Z9 ?_;clear Z9;exact ai aE
   refine eL [3, 10] [200] 200 [(3, dI t), (10, V1 (dSs (p1 :: O1)))] [] rfl ?_ trivial ?_
   ·exact ⟨rfl, cD rfl (by simp), trivial⟩
   generalize p1 :: O1 = O at nr ol hm h16 ⊢;rw [hm];rw [hm] at h16;refine gQ fun _ Z9=>?_;refine Z7 ?_;refine eQ Z9 ?_;clear Z9;refine ah ?_;refine gQ fun _ Z9=>?_;refine Z8 ?_;refine ay rfl (mV (n := m) rfl rfl (by rw [List.length_map]; exact hm)) rfl ?_;refine Z8 ?_;refine eQ Z9 ?_;clear Z9;refine ar (aN (α := Nat) (fun a => mk 83 [(3, dI t), (10, V1 (dSs O)), (15, dK 200 2 (prP q m a).length), (53, dI m), (54, dI a)] [(200, gf 2 ((prP q m a).map prD) (prP q m a).length)] []) (fun a => a <= m) (fun a => m - a) 0 ?_ (Nat.zero_le _) ?_)
   ·exact Wk.mk' ⟨rfl, rfl, rfl, rfl, rfl, trivial⟩ ⟨rfl, trivial⟩
   intro a ha
   refine gQ fun _ Z9=>?_;refine Z5 ?_;refine eQ Z9 ?_;clear Z9;refine ah ?_;refine ap rfl (fun hg => ?_) (fun hg => ?_)
   ·have hg : a < m := by simp at hg; omega
    have hlen := kI q m a
    refine aj ?_;show AWP _ _ _ _ _ _;refine ah ?_;refine ar ?_;refine gQ fun _ Z9=>?_;refine Z8 ?_;refine Z7 ?_;refine eQ Z9 ?_;clear Z9;refine gQ fun _ Z9=>?_;refine Z8 ?_;refine am rfl (aJ (c := ((a + 1 : Nat) : Int)) (by omega) (by omega)) rfl ?_;refine Z7 ?_;refine eQ Z9 ?_;clear Z9;refine ar (aN (α := Nat) (fun b => mk 83 [(3, dI t), (10, V1 (dSs O)), (15, dK 200 2 (prP q m a ++ prR q a b).length), (16, dI a), (17, dI b), (53, dI m), (54, dI a)] [(200, gf 2 ((prP q m a ++ prR q a b).map prD) (prP q m a ++ prR q a b).length)] []) (fun b => a < b /\ b <= m) (fun b => m - b) (a + 1) ?_ ⟨by omega, by omega⟩ ?_)
    ·rw [vw q a (a + 1) (Nat.le_refl _), List.append_nil];exact Wk.mk' ⟨rfl, rfl, rfl, rfl, rfl, rfl, rfl, trivial⟩ ⟨rfl, trivial⟩
    rintro b ⟨hab, hb⟩
    have hlr := pz q a b
    have hss := uc (q := q) hab
    obtain ⟨l, hl⟩ : ∃ l, l = prP q m a ++ prR q a b := ⟨_, rfl⟩
    have hll : l.length <= 8192 := by
     have : a * m <= 16 * 16 := Nat.mul_le_mul (by omega) (by omega)
     rw [hl, List.length_append]; omega
    have hs' : prP q m a ++ prR q a (b + 1) = l ++ if q a b = true then [(a, b)] else [] := by rw [hss, hl, List.append_assoc]
    rw [<- hl]
    obtain ⟨L, hL⟩ : ∃ L, l.length = L := ⟨_, rfl⟩
    rw [hL];rw [hL] at hll;refine ah ?_;refine gQ fun _ Z9=>?_;refine Z8 ?_;refine Z8 ?_;refine ay rfl (mV (n := m) rfl rfl (by rw [List.length_map]; exact hm)) rfl ?_;refine Z5 ?_;refine eQ Z9 ?_;clear Z9;refine ap rfl (fun hf => ?_) (fun hf => ?_)
    ·have hf : b < m := by simp at hf; omega
     have ga : a < O.length := by omega
     have gb : b < O.length := by omega
     have cN := nr a b ga gb
     refine aj ?_;show AWP _ _ _ _ _ _;refine ah ?_;refine ar ?_;refine aA tok mixed (A := [[], [], [], [0, 1], [], [], [], [4, 5], [], [0, 1, 2, 4, 5, 6]]) (an := [{}, {}, {}, {}, {}, {}, {}, {}, {}, {}]) rfl (by kernel_rfl) rfl fun _ Z9=>?_;refine Z8 ?_;refine Z8 ?_;refine ac rfl (x_m SP.dc rfl rfl rfl rfl ga rfl) rfl ?_;refine Z6 ?_;refine Z8 ?_;refine Z8 ?_;refine ac rfl (x_m SP.dc rfl rfl rfl rfl gb rfl) rfl ?_;refine Z6 ?_;refine Z8 ?_;refine ab rfl rfl (cN) rfl rfl rfl rfl ?_;refine eQ Z9 ?_;clear Z9;refine ap rfl (fun hx => ?_) (fun hx => ?_)
     ·rw [if_pos hx] at hs';refine gR fun _ Z9=>?_;refine j6 rfl vD rfl ?_;refine Z8 ?_;refine Z8 ?_;refine aG rfl rfl rfl ?_;refine aI rfl rfl (by rcases L with _|L <;> rfl) rfl ?_;refine lP rfl rfl rfl rfl rfl rfl rfl rfl rfl (by decide) (Nat.le_of_ble_eq_true rfl) rfl (by simp) (by rw [List.length_map, hL]) (by simp) (by simp <;> omega) (by rcases L with _|L <;> rfl) rfl rfl ?_;refine Z7 ?_;refine eQ Z9 ?_;clear Z9;show AWP _ _ _ _ _ _;refine gR fun _ Z9=>?_;refine Z8 ?_;refine am rfl (aJ (c := ((b + 1 : Nat) : Int)) (by omega) (by omega)) rfl ?_;refine Z7 ?_;refine eQ Z9 ?_;clear Z9;refine ⟨b + 1, by omega, ⟨by omega, hf⟩, Wk.rn [3, 10, 15, 16, 17, 53, 54] [80] 80 200 rfl rfl rfl ⟨rfl, rfl, ?_, rfl, rfl, rfl, rfl, trivial⟩ ⟨?_, trivial⟩⟩
      ·rw [hs', qm hL]; rfl
      ·rw [hs', qW hL]; rfl
     ·rw [if_neg (by rw [hx]; decide), List.append_nil] at hs';refine aj ?_;show AWP _ _ _ _ _ _;refine gR fun _ Z9=>?_;refine Z8 ?_;refine am rfl (aJ (c := ((b + 1 : Nat) : Int)) (by omega) (by omega)) rfl ?_;refine Z7 ?_;refine eQ Z9 ?_;clear Z9;refine ⟨b + 1, by omega, ⟨by omega, hf⟩, ?_⟩;rw [hs', hL];exact Wk.mk' ⟨rfl, rfl, rfl, rfl, rfl, rfl, rfl, trivial⟩ ⟨rfl, trivial⟩
    have hf : b = m := by simp at hf; omega
    subst hf
    refine az ?_;show AWP _ _ _ _ _ _;refine gR fun _ Z9=>?_;refine am rfl (aJ (c := ((a + 1 : Nat) : Int)) (by omega) (by omega)) rfl ?_;refine Z8 ?_;refine eQ Z9 ?_;clear Z9;refine ⟨a + 1, by omega, hg, ?_⟩
    have ee : prP q b (a + 1) = l := by rw [hl]; rfl
    rw [ee, hL];exact Wk.mk' ⟨rfl, rfl, rfl, rfl, rfl, trivial⟩ ⟨rfl, trivial⟩
   have hf : a = m := by simp at hg; omega
   subst hf
   refine az ?_;show AWP _ _ _ _ _ _
   obtain ⟨l, hl⟩ : ∃ l, l = prP q a a := ⟨_, rfl⟩
   rw [<- hl]
   rcases l with _ | ⟨p, l⟩
   ·refine gQ fun _ Z9=>?_;refine Z8 ?_;refine Z7 ?_;refine Z7 ?_;refine eQ Z9 ?_;clear Z9;exact ai aE
   ·refine eL [15] [200] 200 [(15, V1 (.sl ((p :: l).map prD)))] [] rfl ?_ trivial ?_
    ·exact ⟨cD rfl (by simp), trivial⟩
    refine gQ fun _ Z9=>?_;refine Z8 ?_;refine Z7 ?_;refine Z7 ?_;refine eQ Z9 ?_;clear Z9;exact ai aE
end Go.Proofs.YtnoildlijhapaaaGreatDoor

/- The reference's Pattern; Select, both. No condition. -/
namespace Go.Proofs.YtnoildlijhapaaaGreatDoor
attribute [local irreducible] aC
open Go.RowKit

set_option maxHeartbeats 8000000 in
theorem zB (g : GR) (s : List SP) (ls : List LK) (t : Int) (ok : ∀ r ∈ g.nodes, r.OK 4096) (os : ∀ p ∈ s, p.OK 4096) (hgl : g.links.length <= 9223372036854775806) : Con Tryz.prog 25 [AG g.cs, V1 (dSs s), V1 (dLs ls), dI t] { v := .tup [.one (.d (.sl ((d5 g s ls t).1.map prD))), .one (.d (lI (d5 g s ls t).2))] } := by
 have cV := ia g hgl
 refine Z2 Tryz.func25 ?_
 intro w0 X
 rw [aq _ _ [(0, AG g.cs), (1, V1 (dSs s)), (2, V1 (dLs ls)), (3, dI t)] rfl rfl];refine gQ fun _ Z9=>?_;refine aB rfl rfl rfl rfl rfl rfl ?_;refine Z7 ?_;refine Z7 ?_;refine eQ Z9 ?_;clear Z9;refine ah ?_
 by_cases ht0 : t < 0
 ·rw [qk (decide_eq_false (fun h => by omega))];refine gQ fun _ Z9=>?_;refine Z8 ?_;refine am rfl (cy (c := true) (decide_eq_true ht0)) rfl ?_;refine Z8 ?_;refine ag rfl ?_;refine ag rfl ?_;refine Z3 ?_;refine eQ Z9 ?_;clear Z9;refine ap rfl (fun _ => ?_) (fun h => by cases h);refine gQ fun _ Z9=>?_;refine Z7 ?_;refine Z7 ?_;refine eQ Z9 ?_;clear Z9;exact ai aE
 by_cases ht1 : t > 1048576
 ·rw [qk (decide_eq_false (fun h => by omega))];refine gQ fun _ Z9=>?_;refine Z8 ?_;refine am rfl (cy (c := false) (decide_eq_false ht0)) rfl ?_;refine Z8 ?_;refine Z8 ?_;refine am rfl (dz (c := true) (decide_eq_true ht1)) rfl ?_;refine Z3 ?_;refine eQ Z9 ?_;clear Z9;refine ap rfl (fun _ => ?_) (fun h => by cases h);refine gQ fun _ Z9=>?_;refine Z7 ?_;refine Z7 ?_;refine eQ Z9 ?_;clear Z9;exact ai aE
 have ht : tolB t = true := decide_eq_true ⟨by omega, by omega⟩
 refine gQ fun _ Z9=>?_;refine Z8 ?_;refine am rfl (cy (c := false) (decide_eq_false ht0)) rfl ?_;refine Z8 ?_;refine Z8 ?_;refine am rfl (dz (c := false) (decide_eq_false ht1)) rfl ?_;refine Z3 ?_;refine eQ Z9 ?_;clear Z9;refine ap rfl (fun h => by cases h) (fun _ => ?_);refine aj ?_;show AWP _ _ _ _ _ _;refine ah ?_
 by_cases h16 : 16 < ls.length
 ·rw [uh ht h16];refine gQ fun _ Z9=>?_;refine Z8 ?_;refine ay rfl (aL LK.dc rfl rfl) rfl ?_;refine am rfl (dz (c := true) (decide_eq_true (by omega))) rfl ?_;refine eQ Z9 ?_;clear Z9;refine ap rfl (fun _ => ?_) (fun h => by cases h);refine gQ fun _ Z9=>?_;refine Z7 ?_;refine Z7 ?_;refine eQ Z9 ?_;clear Z9;exact ai aE
 refine gQ fun _ Z9=>?_;refine Z8 ?_;refine ay rfl (aL LK.dc rfl rfl) rfl ?_;refine am rfl (dz (c := false) (decide_eq_false (by omega))) rfl ?_;refine eQ Z9 ?_;clear Z9;refine ap rfl (fun h => by cases h) (fun _ => ?_);refine aj ?_;show AWP _ _ _ _ _ _;refine ah ?_
 cases hv : bR g with
 | false =>
  rw [hv] at cV;rw [nK ht h16 (by unfold da; rw [hv]; rfl)];refine gQ fun _ Z9=>?_;refine Z6 ?_;refine ab rfl rfl (cV) rfl rfl rfl rfl ?_;refine bd rfl rfl rfl ?_;refine Z8 ?_;refine ag rfl ?_;refine ag rfl ?_;refine ag rfl ?_;refine ag rfl ?_;refine ag rfl ?_;refine ag rfl ?_;refine Z3 ?_;refine eQ Z9 ?_;clear Z9;refine ap rfl (fun _ => ?_) (fun h => by cases h);refine gQ fun _ Z9=>?_;refine Z7 ?_;refine Z7 ?_;refine eQ Z9 ?_;clear Z9;exact ai aE
 | true =>
  rw [hv] at cV
  by_cases hsl : s.length = g.nodes.length
  ·have hc : da g s = true := eI.2 ⟨b8.1 hv, hsl⟩
   refine gQ fun _ Z9=>?_;refine Z6 ?_;refine ab rfl rfl (cV) rfl rfl rfl rfl ?_;refine bd rfl rfl rfl ?_;refine Z8 ?_;refine Z8 ?_;refine ay rfl (aL SP.dc rfl rfl) rfl ?_;refine Z4 ?_;refine Z6 ?_;refine ay rfl (aL RW.dc rfl rfl) rfl ?_;refine am rfl (ja (c := false) (by simp [hsl])) rfl ?_;refine Z3 ?_;refine eQ Z9 ?_;clear Z9;refine ap rfl (fun h => by cases h) (fun _ => ?_);refine aj ?_;show AWP _ _ _ _ _ _;refine gQ fun _ Z9=>?_;refine Z7 ?_;refine eQ Z9 ?_;clear Z9;refine ah ?_;refine gQ fun _ Z9=>?_;refine Z7 ?_;refine eQ Z9 ?_;clear Z9;refine ar (aN (α := Nat) (fun i => mk 91 [(1, V1 (dSs s)), (2, V1 (dLs ls)), (3, dI t), (4, .ptr 4 0), (10, dK 200 8 i), (11, dI i)] [(4, some (.box g.cs)), (200, gf 8 ((cd g s (ls.take i)).map SP.dc) i)] []) (fun i => i <= ls.length /\ (ls.take i).all (iC g) = true) (fun i => ls.length - i) 0 ?_ ⟨Nat.zero_le _, rfl⟩ ?_)
   ·exact Wk.mk' ⟨rfl, rfl, rfl, rfl, rfl, rfl, trivial⟩ ⟨rfl, rfl, trivial⟩
   rintro i ⟨hi, hall⟩
   refine ah ?_;refine gQ fun _ Z9=>?_;refine Z8 ?_;refine Z8 ?_;refine ay rfl (aL LK.dc rfl rfl) rfl ?_;refine Z5 ?_;refine eQ Z9 ?_;clear Z9;refine ap rfl (fun hg => ?_) (fun hg => ?_)
   ·have hg : i < ls.length := by simp at hg; omega
    have cO := zD g s ls[i] ok os hgl
    refine aj ?_;show AWP _ _ _ _ _ _;refine ah ?_;refine ar ?_
    cases hf : iC g ls[i] with
    | false =>
     rw [xa hc hf] at cO;rw [ui ht h16 hc (Bh hg hf)];refine aA tok mixed (A := [[], [], [], [], [], [2, 3], [2, 3, 4], [0, 1, 2, 3, 4, 5], [0, 1, 2, 3, 4, 5, 6], [0, 1, 2, 3, 4, 5, 6], [], [], []]) (an := [{}, {}, {}, {}, {}, {}, {}, {}, {}, {}, { c := [50] }, {}, {}]) rfl (by kernel_rfl) rfl fun _ Z9=>?_;refine Z6 ?_;refine Z8 ?_;refine Z8 ?_;refine Z8 ?_;refine ac rfl (x_m LK.dc rfl rfl rfl rfl hg rfl) rfl ?_;refine Z6 ?_;refine ab rfl rfl (cO) rfl rfl rfl rfl ?_;refine Z8 ?_;refine au rfl rfl rfl ?_;refine au rfl rfl rfl ?_;refine av rfl rfl rfl rfl rfl (by rcases i with _|i <;> rfl) ?_;refine ak rfl rfl rfl rfl rfl ?_;refine Z7 ?_;refine eQ Z9 ?_;clear Z9;refine ah ?_;refine gQ fun _ Z9=>?_;refine Z8 ?_;refine am rfl (ja (c := true) rfl) rfl ?_;refine eQ Z9 ?_;clear Z9;refine ap rfl (fun _ => ?_) (fun h => by cases h);refine gQ fun _ Z9=>?_;refine Z8 ?_;refine Z7 ?_;refine Z7 ?_;refine eQ Z9 ?_;clear Z9;exact ai aE
    | true =>
     rw [uk hc hf] at cO
     have n1 : (cd g s (ls.take i)).map SP.dc ++ [(o6 g s ls[i]).dc] = (cd g s (ls.take (i + 1))).map SP.dc := by
      unfold cd
      rw [List.take_succ_eq_append_getElem hg, List.map_append, List.map_append]; rfl
     have z1 : ((cd g s (ls.take i)).map SP.dc).length = i := by simp [cd]; omega
     generalize (cd g s (ls.take i)).map SP.dc = es at n1 z1 ⊢;generalize o6 g s ls[i] = o at cO n1;refine aA tok mixed (A := [[], [], [], [], [], [2, 3], [2, 3, 4], [0, 1, 2, 3, 4, 5], [0, 1, 2, 3, 4, 5, 6], [0, 1, 2, 3, 4, 5, 6], [], [], []]) (an := [{}, {}, {}, {}, {}, {}, {}, {}, {}, {}, { c := [50] }, {}, {}]) rfl (by kernel_rfl) rfl fun _ Z9=>?_;refine Z6 ?_;refine Z8 ?_;refine Z8 ?_;refine Z8 ?_;refine ac rfl (x_m LK.dc rfl rfl rfl rfl hg rfl) rfl ?_;refine Z6 ?_;refine ab rfl rfl (cO) rfl rfl rfl rfl ?_;refine Z8 ?_;refine au rfl rfl rfl ?_;refine au rfl rfl rfl ?_;refine av rfl rfl rfl rfl rfl (by rcases i with _|i <;> rfl) ?_;refine ak rfl rfl rfl rfl rfl ?_;refine Z7 ?_;refine eQ Z9 ?_;clear Z9;refine ah ?_;refine gQ fun _ Z9=>?_;refine Z8 ?_;refine am rfl (ja (c := false) rfl) rfl ?_;refine eQ Z9 ?_;clear Z9;refine ap rfl (fun h => by cases h) (fun _ => ?_);refine aj ?_;show AWP _ _ _ _ _ _;refine gR fun _ Z9=>?_;refine j6 rfl vD rfl ?_;refine Z6 ?_;refine aI rfl rfl (by rcases i with _|i <;> rfl) rfl ?_;refine lP rfl rfl rfl rfl rfl rfl rfl rfl rfl (by decide) (Nat.le_of_ble_eq_true rfl) rfl (by simp) (z1.symm) (by simp) (by simp <;> omega) (by rcases i with _|i <;> rfl) rfl rfl ?_;refine Z7 ?_;refine eQ Z9 ?_;clear Z9;show AWP _ _ _ _ _ _;refine gR fun _ Z9=>?_;refine Z8 ?_;refine am rfl (aJ (c := ((i + 1 : Nat) : Int)) (by omega) (by omega)) rfl ?_;refine Z7 ?_;refine eQ Z9 ?_;clear Z9;refine ⟨i + 1, by omega, ⟨hg, by rw [List.take_succ_eq_append_getElem hg, List.all_append, hall]; simp [hf]⟩, Wk.rn [1, 2, 3, 4, 10, 11] [4, 59] 59 200 rfl rfl rfl ⟨rfl, rfl, rfl, rfl, rfl, rfl, trivial⟩ ⟨rfl, ?_, trivial⟩⟩;rw [<- n1]; rfl
   have hg : i = ls.length := by simp at hg; omega
   subst hg
   rw [List.take_length] at hall;rw [List.take_length, w8 ht h16 hc hall]
   have oo := xc hc ok os hall
   have ol : (cd g s ls).length = ls.length := by simp [cd]
   have nr : ∀ i j (hi : i < (cd g s ls).length) (hj : j < (cd g s ls).length), Con Tryz.prog 33 [AG (cd g s ls)[i].cs, AG (cd g s ls)[j].cs, dI t] { v := dB (nrP (cd g s ls) t i j) } := fun i j hi hj => by
    have c := sH (cd g s ls)[i] (cd g s ls)[j] t (oo _ (List.getElem_mem hi)) (oo _ (List.getElem_mem hj))
    have e1 : (cd g s ls).getD i sp0 = (cd g s ls)[i] := by rw [List.getD_eq_getElem?_getD, List.getElem?_eq_getElem hi]; rfl
    have e2 : (cd g s ls).getD j sp0 = (cd g s ls)[j] := by rw [List.getD_eq_getElem?_getD, List.getElem?_eq_getElem hj]; rfl
    unfold nrP
    rw [e1, e2]; exact c
   generalize nrP (cd g s ls) t = q at nr ⊢;generalize cd g s ls = O at nr ol ⊢;rw [<- ol] at h16 ⊢;refine az ?_;show AWP _ _ _ _ _ _
   obtain ⟨m, hm⟩ : ∃ m, O.length = m := ⟨_, rfl⟩
   rcases O with _ | ⟨p1, O1⟩
   ·refine gQ fun _ Z9=>?_;refine Z7 ?_;refine eQ Z9 ?_;clear Z9;refine ah ?_;refine gQ fun _ Z9=>?_;refine Z7 ?_;refine eQ Z9 ?_;clear Z9;refine ar (aN (α := Unit) (fun _ => mk 91 [(10, dK 200 8 0), (14, dK 200 2 0), (15, dI 0)] [] []) (fun _ => True) (fun _ => 0) () ?_ trivial ?_)
    ·exact Wk.mk' ⟨rfl, rfl, rfl, trivial⟩ trivial
    intro _ _
    refine ah ?_;refine gQ fun _ Z9=>?_;refine Z8 ?_;refine Z8 ?_;refine ay rfl rfl rfl ?_;refine Z5 ?_;refine eQ Z9 ?_;clear Z9;refine ap rfl (fun h => by cases h) (fun _ => ?_);refine az ?_;show AWP _ _ _ _ _ _;refine gQ fun _ Z9=>?_;refine Z8 ?_;refine Z7 ?_;refine Z7 ?_;refine eQ Z9 ?_;clear Z9;exact ai aE
   refine eL [3, 10] [200] 200 [(3, dI t), (10, V1 (dSs (p1 :: O1)))] [] rfl ?_ trivial ?_
   ·exact ⟨rfl, cD rfl (by simp), trivial⟩
   generalize p1 :: O1 = O at nr ol hm h16 ⊢;rw [hm];rw [hm] at h16;refine gQ fun _ Z9=>?_;refine Z7 ?_;refine eQ Z9 ?_;clear Z9;refine ah ?_;refine gQ fun _ Z9=>?_;refine Z7 ?_;refine eQ Z9 ?_;clear Z9;refine ar (aN (α := Nat) (fun a => mk 91 [(3, dI t), (10, V1 (dSs O)), (14, dK 200 2 (prP q m a).length), (15, dI a)] [(200, gf 2 ((prP q m a).map prD) (prP q m a).length)] []) (fun a => a <= m) (fun a => m - a) 0 ?_ (Nat.zero_le _) ?_)
   ·exact Wk.mk' ⟨rfl, rfl, rfl, rfl, trivial⟩ ⟨rfl, trivial⟩
   intro a ha
   refine ah ?_;refine gQ fun _ Z9=>?_;refine Z8 ?_;refine Z8 ?_;refine ay rfl (mV (n := m) rfl rfl (by rw [List.length_map]; exact hm)) rfl ?_;refine Z5 ?_;refine eQ Z9 ?_;clear Z9;refine ap rfl (fun hg => ?_) (fun hg => ?_)
   ·have hg : a < m := by simp at hg; omega
    have hlen := kI q m a
    refine aj ?_;show AWP _ _ _ _ _ _;refine ah ?_;refine ar ?_;refine gQ fun _ Z9=>?_;refine Z8 ?_;refine am rfl (aJ (c := ((a + 1 : Nat) : Int)) (by omega) (by omega)) rfl ?_;refine Z7 ?_;refine eQ Z9 ?_;clear Z9;refine ar (aN (α := Nat) (fun b => mk 91 [(3, dI t), (10, V1 (dSs O)), (14, dK 200 2 (prP q m a ++ prR q a b).length), (15, dI a), (16, dI b)] [(200, gf 2 ((prP q m a ++ prR q a b).map prD) (prP q m a ++ prR q a b).length)] []) (fun b => a < b /\ b <= m) (fun b => m - b) (a + 1) ?_ ⟨by omega, by omega⟩ ?_)
    ·rw [vw q a (a + 1) (Nat.le_refl _), List.append_nil];exact Wk.mk' ⟨rfl, rfl, rfl, rfl, rfl, trivial⟩ ⟨rfl, trivial⟩
    rintro b ⟨hab, hb⟩
    have hlr := pz q a b
    have hss := uc (q := q) hab
    obtain ⟨l, hl⟩ : ∃ l, l = prP q m a ++ prR q a b := ⟨_, rfl⟩
    have hll : l.length <= 8192 := by
     have : a * m <= 16 * 16 := Nat.mul_le_mul (by omega) (by omega)
     rw [hl, List.length_append]; omega
    have hs' : prP q m a ++ prR q a (b + 1) = l ++ if q a b = true then [(a, b)] else [] := by rw [hss, hl, List.append_assoc]
    rw [<- hl]
    obtain ⟨L, hL⟩ : ∃ L, l.length = L := ⟨_, rfl⟩
    rw [hL];rw [hL] at hll;refine ah ?_;refine gQ fun _ Z9=>?_;refine Z8 ?_;refine Z8 ?_;refine ay rfl (mV (n := m) rfl rfl (by rw [List.length_map]; exact hm)) rfl ?_;refine Z5 ?_;refine eQ Z9 ?_;clear Z9;refine ap rfl (fun hf => ?_) (fun hf => ?_)
    ·have hf : b < m := by simp at hf; omega
     have ga : a < O.length := by omega
     have gb : b < O.length := by omega
     have cN := nr a b ga gb
     refine aj ?_;show AWP _ _ _ _ _ _;refine ah ?_;refine ar ?_;refine aA tok mixed (A := [[], [], [], [0, 1], [], [], [], [4, 5], [], [0, 1, 2, 4, 5, 6]]) (an := [{}, {}, {}, {}, {}, {}, {}, {}, {}, {}]) rfl (by kernel_rfl) rfl fun _ Z9=>?_;refine Z8 ?_;refine Z8 ?_;refine ac rfl (x_m SP.dc rfl rfl rfl rfl ga rfl) rfl ?_;refine Z6 ?_;refine Z8 ?_;refine Z8 ?_;refine ac rfl (x_m SP.dc rfl rfl rfl rfl gb rfl) rfl ?_;refine Z6 ?_;refine Z8 ?_;refine ab rfl rfl (cN) rfl rfl rfl rfl ?_;refine eQ Z9 ?_;clear Z9;refine ap rfl (fun hx => ?_) (fun hx => ?_)
     ·rw [if_pos hx] at hs';refine gR fun _ Z9=>?_;refine j6 rfl vD rfl ?_;refine Z8 ?_;refine Z8 ?_;refine aG rfl rfl rfl ?_;refine aI rfl rfl (by rcases L with _|L <;> rfl) rfl ?_;refine lP rfl rfl rfl rfl rfl rfl rfl rfl rfl (by decide) (Nat.le_of_ble_eq_true rfl) rfl (by simp) (by rw [List.length_map, hL]) (by simp) (by simp <;> omega) (by rcases L with _|L <;> rfl) rfl rfl ?_;refine Z7 ?_;refine eQ Z9 ?_;clear Z9;show AWP _ _ _ _ _ _;refine gR fun _ Z9=>?_;refine Z8 ?_;refine am rfl (aJ (c := ((b + 1 : Nat) : Int)) (by omega) (by omega)) rfl ?_;refine Z7 ?_;refine eQ Z9 ?_;clear Z9;refine ⟨b + 1, by omega, ⟨by omega, hf⟩, Wk.rn [3, 10, 14, 15, 16] [89] 89 200 rfl rfl rfl ⟨rfl, rfl, ?_, rfl, rfl, trivial⟩ ⟨?_, trivial⟩⟩
      ·rw [hs', qm hL]; rfl
      ·rw [hs', qW hL]; rfl
     ·rw [if_neg (by rw [hx]; decide), List.append_nil] at hs';refine aj ?_;show AWP _ _ _ _ _ _;refine gR fun _ Z9=>?_;refine Z8 ?_;refine am rfl (aJ (c := ((b + 1 : Nat) : Int)) (by omega) (by omega)) rfl ?_;refine Z7 ?_;refine eQ Z9 ?_;clear Z9;refine ⟨b + 1, by omega, ⟨by omega, hf⟩, ?_⟩;rw [hs', hL];exact Wk.mk' ⟨rfl, rfl, rfl, rfl, rfl, trivial⟩ ⟨rfl, trivial⟩
    have hf : b = m := by simp at hf; omega
    subst hf
    refine az ?_;show AWP _ _ _ _ _ _;refine gR fun _ Z9=>?_;refine Z8 ?_;refine am rfl (aJ (c := ((a + 1 : Nat) : Int)) (by omega) (by omega)) rfl ?_;refine Z7 ?_;refine eQ Z9 ?_;clear Z9;refine ⟨a + 1, by omega, hg, ?_⟩
    have ee : prP q b (a + 1) = l := by rw [hl]; rfl
    rw [ee, hL];exact Wk.mk' ⟨rfl, rfl, rfl, rfl, trivial⟩ ⟨rfl, trivial⟩
   have hf : a = m := by simp at hg; omega
   subst hf
   refine az ?_;show AWP _ _ _ _ _ _
   obtain ⟨l, hl⟩ : ∃ l, l = prP q a a := ⟨_, rfl⟩
   rw [<- hl]
   rcases l with _ | ⟨p, l⟩
   ·refine gQ fun _ Z9=>?_;refine Z8 ?_;refine Z7 ?_;refine Z7 ?_;refine eQ Z9 ?_;clear Z9;exact ai aE
   ·refine eL [14] [200] 200 [(14, V1 (.sl ((p :: l).map prD)))] [] rfl ?_ trivial ?_
    ·exact ⟨cD rfl (by simp), trivial⟩
    refine gQ fun _ Z9=>?_;refine Z8 ?_;refine Z7 ?_;refine Z7 ?_;refine eQ Z9 ?_;clear Z9;exact ai aE
  ·rw [nK ht h16 (by unfold da; rw [decide_eq_false hsl, Bool.and_false])];refine gQ fun _ Z9=>?_;refine Z6 ?_;refine ab rfl rfl (cV) rfl rfl rfl rfl ?_;refine bd rfl rfl rfl ?_;refine Z8 ?_;refine Z8 ?_;refine ay rfl (aL SP.dc rfl rfl) rfl ?_;refine Z4 ?_;refine Z6 ?_;refine ay rfl (aL RW.dc rfl rfl) rfl ?_;refine am rfl (ja (c := true) (by simp; omega)) rfl ?_;refine Z3 ?_;refine eQ Z9 ?_;clear Z9;refine ap rfl (fun _ => ?_) (fun h => by cases h);refine gQ fun _ Z9=>?_;refine Z7 ?_;refine Z7 ?_;refine eQ Z9 ?_;clear Z9;exact ai aE
theorem ug {g : GR} {s : List SP} {ls : List LK} {t : Int} (h : (d5 g s ls t).2 = 0) : ∃ q, (d5 g s ls t).1 = prP q ls.length ls.length /\ ls.length <= 16 := by
 unfold d5 at h ⊢
 split at h
 ·cases h
 ·rename_i h1
  rw [if_neg h1]
  split at h
  ·cases h
  ·rename_i h2
   rw [if_neg h2]
   split at h
   ·cases h
   ·rename_i h3
    rw [if_neg h3]
    split at h
    ·rename_i h4
     rw [if_pos h4];exact ⟨_, rfl, by omega⟩
    ·cases h
theorem A1 (g : GR) (s : List SP) (ls : List LK) (t : Int) (ok : ∀ r ∈ g.nodes, r.OK 4096) (os : ∀ p ∈ s, p.OK 4096) : Con Tryz.prog 26 [AG g.cs, V1 (dSs s), V1 (dLs ls), dI t] { v := .tup [.one (.d (dNs (nH g s ls t).1)), .one (.d (lI (nH g s ls t).2))] } := by
 have cP := A2 g s ls t ok os
 refine Z2 Tryz.func26 ?_
 intro w0 X
 rw [aq _ _ [(0, AG g.cs), (1, V1 (dSs s)), (2, V1 (dLs ls)), (3, dI t)] rfl rfl];refine gQ fun _ Z9=>?_;refine aB rfl rfl rfl rfl rfl rfl ?_;refine Z7 ?_;refine Z7 ?_;refine eQ Z9 ?_;clear Z9
 unfold nH
 by_cases h : (d5 g s ls t).2 = 0
 ·rw [if_pos h]
  obtain ⟨q, hq, hl⟩ := ug h
  have ok' : OKp ls.length (prP q ls.length ls.length) := zV q (by omega) _
  have hpl := kI q ls.length ls.length
  have hmm : ls.length * ls.length <= 16 * 16 := Nat.mul_le_mul hl hl
  have cM := Ef ls.length (prP q ls.length ls.length) ok' (by omega) (by omega)
  rw [hq] at cP ⊢;rw [h] at cP;generalize mxC (iB (prP q ls.length ls.length)) ls.length = y at cM ⊢;generalize prP q ls.length ls.length = ps at cP cM;refine gQ fun _ Z9=>?_;refine Z6 ?_;refine Z8 ?_;refine Z8 ?_;refine Z8 ?_;refine ab rfl rfl (cP) rfl rfl rfl rfl ?_;refine Z8 ?_;refine au rfl rfl rfl ?_;refine au rfl rfl rfl ?_;refine Z7 ?_;refine Z7 ?_;refine eQ Z9 ?_;clear Z9;refine ah ?_;refine gQ fun _ Z9=>?_;refine Z8 ?_;refine am rfl (ja (c := false) rfl) rfl ?_;refine eQ Z9 ?_;clear Z9;refine ap rfl (fun h => by cases h) (fun _ => ?_);refine aj ?_;show AWP _ _ _ _ _ _;refine gQ fun _ Z9=>?_;refine Z8 ?_;refine ay rfl (aL LK.dc rfl rfl) rfl ?_;refine Z8 ?_;refine ab rfl rfl (cM) rfl rfl rfl rfl ?_;refine au rfl rfl rfl ?_;refine au rfl rfl rfl ?_;refine Z7 ?_;refine Z7 ?_;refine eQ Z9 ?_;clear Z9;exact ai aE
 ·rw [if_neg h];generalize (d5 g s ls t).1 = ps at cP;generalize (d5 g s ls t).2 = e at cP h ⊢;refine gQ fun _ Z9=>?_;refine Z6 ?_;refine Z8 ?_;refine Z8 ?_;refine Z8 ?_;refine ab rfl rfl (cP) rfl rfl rfl rfl ?_;refine Z8 ?_;refine au rfl rfl rfl ?_;refine au rfl rfl rfl ?_;refine Z7 ?_;refine Z7 ?_;refine eQ Z9 ?_;clear Z9;refine ah ?_;refine gQ fun _ Z9=>?_;refine Z8 ?_;refine am rfl (ja (c := true) (by simpa using h)) rfl ?_;refine eQ Z9 ?_;clear Z9;refine ap rfl (fun _ => ?_) (fun h => by cases h);refine gQ fun _ Z9=>?_;refine Z8 ?_;refine Z7 ?_;refine Z7 ?_;refine eQ Z9 ?_;clear Z9;exact ai aE
theorem Dt (g : GR) (s : List SP) (ls : List LK) (t : Int) (ok : ∀ r ∈ g.nodes, r.OK 4096) (os : ∀ p ∈ s, p.OK 4096) (hgl : g.links.length <= 9223372036854775806) : Con Tryz.prog 27 [AG g.cs, V1 (dSs s), V1 (dLs ls), dI t] { v := .tup [.one (.d (dNs (nH g s ls t).1)), .one (.d (lI (nH g s ls t).2))] } := by
 have cP := zB g s ls t ok os hgl
 refine Z2 Tryz.func27 ?_
 intro w0 X
 rw [aq _ _ [(0, AG g.cs), (1, V1 (dSs s)), (2, V1 (dLs ls)), (3, dI t)] rfl rfl];refine gQ fun _ Z9=>?_;refine aB rfl rfl rfl rfl rfl rfl ?_;refine Z7 ?_;refine Z7 ?_;refine eQ Z9 ?_;clear Z9
 unfold nH
 by_cases h : (d5 g s ls t).2 = 0
 ·rw [if_pos h]
  obtain ⟨q, hq, hl⟩ := ug h
  have ok' : OKp ls.length (prP q ls.length ls.length) := zV q (by omega) _
  have hpl := kI q ls.length ls.length
  have hmm : ls.length * ls.length <= 16 * 16 := Nat.mul_le_mul hl hl
  have cM := zL ls.length (prP q ls.length ls.length) ok' (by omega) (by omega)
  rw [hq] at cP ⊢;rw [h] at cP;generalize mxC (iB (prP q ls.length ls.length)) ls.length = y at cM ⊢;generalize prP q ls.length ls.length = ps at cP cM;refine gQ fun _ Z9=>?_;refine Z6 ?_;refine Z8 ?_;refine Z8 ?_;refine Z8 ?_;refine ab rfl rfl (cP) rfl rfl rfl rfl ?_;refine Z8 ?_;refine au rfl rfl rfl ?_;refine au rfl rfl rfl ?_;refine Z7 ?_;refine Z7 ?_;refine eQ Z9 ?_;clear Z9;refine ah ?_;refine gQ fun _ Z9=>?_;refine Z8 ?_;refine am rfl (ja (c := false) rfl) rfl ?_;refine eQ Z9 ?_;clear Z9;refine ap rfl (fun h => by cases h) (fun _ => ?_);refine aj ?_;show AWP _ _ _ _ _ _;refine gQ fun _ Z9=>?_;refine Z8 ?_;refine ay rfl (aL LK.dc rfl rfl) rfl ?_;refine Z8 ?_;refine ab rfl rfl (cM) rfl rfl rfl rfl ?_;refine au rfl rfl rfl ?_;refine au rfl rfl rfl ?_;refine Z7 ?_;refine Z7 ?_;refine eQ Z9 ?_;clear Z9;exact ai aE
 ·rw [if_neg h];generalize (d5 g s ls t).1 = ps at cP;generalize (d5 g s ls t).2 = e at cP h ⊢;refine gQ fun _ Z9=>?_;refine Z6 ?_;refine Z8 ?_;refine Z8 ?_;refine Z8 ?_;refine ab rfl rfl (cP) rfl rfl rfl rfl ?_;refine Z8 ?_;refine au rfl rfl rfl ?_;refine au rfl rfl rfl ?_;refine Z7 ?_;refine Z7 ?_;refine eQ Z9 ?_;clear Z9;refine ah ?_;refine gQ fun _ Z9=>?_;refine Z8 ?_;refine am rfl (ja (c := true) (by simpa using h)) rfl ?_;refine eQ Z9 ?_;clear Z9;refine ap rfl (fun _ => ?_) (fun h => by cases h);refine gQ fun _ Z9=>?_;refine Z8 ?_;refine Z7 ?_;refine Z7 ?_;refine eQ Z9 ?_;clear Z9;exact ai aE
end Go.Proofs.YtnoildlijhapaaaGreatDoor

/- The reference's Reckon. No condition. -/
namespace Go.Proofs.YtnoildlijhapaaaGreatDoor
attribute [local irreducible] aC
open Go.RowKit

theorem AN (a b : Bool) : aH tab .eql 4 (dB a) (dB b) = .set (dB (a == b)) := by cases a <;> cases b <;> rfl
def rkI (k : Nat) (f : Bool) : Nat := if f = true then k + 1 else k
set_option maxHeartbeats 8000000 in
theorem BP (g : GR) (ok : ∀ r ∈ g.nodes, r.OK 4096) (hgl : g.links.length <= 9223372036854775806) : Con Tryz.prog 18 [AG g.cs] { v := .tup [.one (.d (dSs (iz g).1)), .one (.d (lI (iz g).2))] } := by
 have cV := ia g hgl
 have cz := mH 0 ⟨by decide, by decide⟩
 refine Z2 Tryz.func18 ?_
 intro w0 X
 rw [aq _ _ [(0, AG g.cs)] rfl rfl];refine gQ fun _ Z9=>?_;refine aB rfl rfl rfl rfl rfl rfl ?_;refine Z7 ?_;refine Z7 ?_;refine eQ Z9 ?_;clear Z9;refine ah ?_
 by_cases hv : bR g = true
 ·have gv := b8.1 hv
  rw [hv] at cV;rw [iz, if_pos hv]
  have n1 := gv.n1
  have n16 := gv.n2
  have l48 := gv.l
  have lvs := gLV gv
  have qd := AU gv ok rfl
  obtain ⟨n, hn⟩ : ∃ n, n = g.nodes.length := ⟨_, rfl⟩
  refine gQ fun _ Z9=>?_;refine Z6 ?_;refine ab rfl rfl (cV) rfl rfl rfl rfl ?_;refine bd rfl rfl rfl ?_;refine eQ Z9 ?_;clear Z9;refine ap rfl (fun h => by cases h) (fun _ => ?_);refine aj ?_;show AWP _ _ _ _ _ _;refine gQ fun _ Z9=>?_;refine ab rfl rfl (cz) rfl rfl rfl rfl ?_;refine av rfl rfl rfl rfl rfl rfl ?_;refine ak rfl rfl rfl rfl rfl ?_;refine eQ Z9 ?_;clear Z9;refine gQ fun _ Z9=>?_;refine Z4 ?_;refine Z6 ?_;refine ay rfl (aL (l := g.nodes) RW.dc rfl rfl) rfl ?_;refine bn (sz := _) (es := _) (f := _) (v := _) rfl (yd (l := n) rfl rfl rfl rfl rfl (Nat.le_of_ble_eq_true rfl) (by decide) (by rw [hn]) (by rw [hn]) (by omega)) rfl rfl ?_;refine Z7 ?_;refine eQ Z9 ?_;clear Z9;refine gQ fun _ Z9=>?_;refine Z4 ?_;refine Z6 ?_;refine ay rfl (aL (l := g.nodes) RW.dc rfl rfl) rfl ?_;refine bn (sz := _) (es := _) (f := _) (v := _) rfl (yd (l := n) rfl rfl rfl rfl rfl (Nat.le_of_ble_eq_true rfl) (by decide) (by rw [hn]) (by rw [hn]) (by omega)) rfl rfl ?_;refine Z7 ?_;refine eQ Z9 ?_;clear Z9;refine gQ fun _ Z9=>?_;refine Z8 ?_;refine Z6 ?_;refine Z6 ?_;refine aG rfl rfl rfl ?_;refine ac rfl (x_o (i := 0) (j := 0) rfl rfl rfl rfl rfl (by omega) rfl) rfl ?_;refine ak rfl (xN (p := szW 0 0) rfl rfl rfl (by simp; omega) (fun el h => by rw [List.eq_of_mem_replicate h]; rfl)) rfl rfl rfl ?_;refine eQ Z9 ?_;clear Z9;refine gQ fun _ Z9=>?_;refine Z8 ?_;refine ac rfl (x_o (i := 0) (j := 0) rfl rfl rfl rfl rfl (by omega) rfl) rfl ?_;refine ak rfl (q7 (ds := bC true) rfl rfl (by simp; omega) (fun _ h => by rw [List.eq_of_mem_replicate (List.mem_of_getElem? h)]; rfl) rfl rfl rfl) rfl rfl rfl ?_;refine eQ Z9 ?_;clear Z9
  have e5 : (List.replicate n sp0.dc).set 0 (szW 0 0).dc = rkD n (rk g 0) := by
   rw [C3, kG]
   show _ = rkD n rk0
   rw [sA]
  have e6 : (List.replicate n (bC false)).set 0 (bC true) = plD n (rk g 0).pl := by
   have : List.replicate n (bC false) = plD n fun _ => false := by simp [plD, List.map_const']
   rw [this, kJ (by omega)]
   show _ = plD n rk0.pl
   rw [sA]
  refine ah ?_;refine gQ fun _ Z9=>?_;refine Z7 ?_;refine eQ Z9 ?_;clear Z9;refine ar (aN (α := Nat) (fun k => mk 130 [(1, .ptr 1 0), (4, .ptr 4 0), (5, .val (.one (.own 19 8 0 n))), (6, .val (.one (.own 23 1 0 n))), (7, dI (k + 1 : Nat))] [(1, some (.box g.cs)), (4, some (.box (qzW 0).cs)), (19, some (.arr 8 (rkD n (rk g k)))), (23, some (.arr 1 (plD n (rk g k).pl)))] []) (fun k => k + 1 <= n /\ ∀ j, j < k -> nxK g (rk g j) ≠ none) (fun k => n - k) 0 ?_ ⟨by omega, fun j hj => by omega⟩ ?_)
  ·exact Wk.mk' ⟨rfl, rfl, rfl, rfl, rfl, trivial⟩ ⟨rfl, rfl, congrArg (fun x => some (OO.arr 8 x)) e5, congrArg (fun x => some (OO.arr 1 x)) e6, trivial⟩
  rintro k ⟨hk, hj⟩
  clear e5 e6
  have hx := wR gv qd k
  have kb : k * (4 * 4096 + 7 + 1) <= 16 * 16392 := Nat.mul_le_mul (by omega) (by decide)
  refine ah ?_
  by_cases hkn : k + 1 < n
  ·refine gQ fun _ Z9=>?_;refine Z8 ?_;refine Z4 ?_;refine Z6 ?_;refine ay rfl (aL (l := g.nodes) RW.dc rfl rfl) rfl ?_;refine am rfl (cy (c := true) (decide_eq_true (by omega))) rfl ?_;refine eQ Z9 ?_;clear Z9;refine ap rfl (fun _ => ?_) (fun h => by cases h);refine aj ?_;show AWP _ _ _ _ _ _;refine ah ?_;refine ar ?_;refine gQ fun _ Z9=>?_;refine Z7 ?_;refine eQ Z9 ?_;clear Z9;refine aO (α := Bool) (fun f => mk 130 [(1, .ptr 1 0), (4, .ptr 4 0), (5, .val (.one (.own 19 8 0 n))), (6, .val (.one (.own 23 1 0 n))), (7, dI (k + 1 : Nat)), (8, dB f)] [(1, some (.box g.cs)), (4, some (.box (qzW 0).cs)), (19, some (.arr 8 (rkD n (rk g (rkI k f))))), (23, some (.arr 1 (plD n (rk g (rkI k f)).pl)))] []) (fun f => (f = false -> nxK g (rk g k) = none) /\ (f = true -> nxK g (rk g k) ≠ none)) ?_ ?_
   ·refine gQ fun _ Z9=>?_;refine Z7 ?_;refine eQ Z9 ?_;clear Z9;refine ar (aN (α := Nat × Bool) (fun p => mk 130 [(1, .ptr 1 0), (4, .ptr 4 0), (5, .val (.one (.own 19 8 0 n))), (6, .val (.one (.own 23 1 0 n))), (7, dI (k + 1 : Nat)), (8, dB p.2), (9, dI p.1)] [(1, some (.box g.cs)), (4, some (.box (qzW 0).cs)), (19, some (.arr 8 (rkD n (rk g (rkI k p.2))))), (23, some (.arr 1 (plD n (rk g (rkI k p.2)).pl)))] []) (fun p => p.1 <= g.links.length /\ (p.2 = false -> ∀ j (hj : j < g.links.length), j < p.1 -> hfB (rk g k).pl g.links[j] = false) /\ (p.2 = true -> nxK g (rk g k) ≠ none)) (fun p => g.links.length - p.1) (0, false) ?_ ⟨Nat.zero_le _, (fun _ j hj h => by omega), (fun h => by cases h)⟩ ?_)
    ·exact Wk.mk' ⟨rfl, rfl, rfl, rfl, rfl, rfl, rfl, trivial⟩ ⟨rfl, rfl, rfl, rfl, trivial⟩
    rintro ⟨i, f⟩ ⟨hi, hff, hft⟩
    simp only at hi hff hft ⊢
    refine ah ?_
    by_cases hil : i < g.links.length
    ·cases f with
     | true =>
      refine gQ fun _ Z9=>?_;refine Z8 ?_;refine Z4 ?_;refine Z6 ?_;refine ay rfl (aL (l := g.links) LK.dc rfl rfl) rfl ?_;refine am rfl (cy (c := true) (decide_eq_true (by omega))) rfl ?_;refine Z8 ?_;refine Z8 ?_;refine bd rfl rfl rfl ?_;refine Z3 ?_;refine eQ Z9 ?_;clear Z9;refine ap rfl (fun h => by cases h) (fun _ => ?_);refine az ?_;exact ⟨true, ⟨(fun h => by cases h), hft⟩, Wk.mk' ⟨rfl, rfl, rfl, rfl, rfl, rfl, trivial⟩ ⟨rfl, rfl, rfl, rfl, trivial⟩⟩
     | false =>
      obtain ⟨l, hl⟩ : ∃ l, l = g.links[i] := ⟨_, rfl⟩
      have hm : l ∈ g.links := hl ▸ List.getElem_mem hil
      have lv := lvs l hm
      have hfit : iC g l = true := (kk gv).trans (gv.lk l hm)
      have cA := wX g l ok hfit
      obtain ⟨qx, qy⟩ := qd l hm
      have oX := bj qx
      have oY := bj qy
      rw [<- hn] at lv
      obtain ⟨a, b, hla, hlb, e1, e2, hne⟩ := lv.lt
      have ehf : hfB (rk g k).pl l = ((rk g k).pl a != (rk g k).pl b) := by unfold hfB; rw [e1, e2, Int.toNat_natCast, Int.toNat_natCast]
      have ez : szW (dX g l) (dY g l) = ⟨qzW (dX g l), qzW (dY g l)⟩ := rfl
      rw [ez] at cA
      have hs0 := hff rfl
      have gpa := gW (p := (rk g k).pl) hla
      have gpb := gW (p := (rk g k).pl) hlb
      refine gQ fun _ Z9=>?_;refine Z8 ?_;refine Z4 ?_;refine Z6 ?_;refine ay rfl (aL (l := g.links) LK.dc rfl rfl) rfl ?_;refine am rfl (cy (c := true) (decide_eq_true (by omega))) rfl ?_;refine Z8 ?_;refine Z8 ?_;refine bd rfl rfl rfl ?_;refine Z3 ?_;refine eQ Z9 ?_;clear Z9;refine ap rfl (fun _ => ?_) (fun h => by cases h);refine aj ?_;show AWP _ _ _ _ _ _;refine ah ?_;refine ar ?_;refine gQ fun _ Z9=>?_;refine Z4 ?_;refine Z6 ?_;refine Z8 ?_;refine ac rfl (x_m LK.dc rfl rfl rfl rfl hil rfl) rfl ?_;refine Z6 ?_;refine av rfl rfl rfl rfl rfl rfl ?_;refine ak rfl rfl rfl rfl rfl ?_;refine eQ Z9 ?_;clear Z9;rw [<- hl];refine ah ?_
      have ek : rkI k false = k := rfl
      rw [ek]
      cases hb : hfB (rk g k).pl l with
      | false =>
       rw [ehf] at hb;refine aA tok mixed (A := [[], [], [], [1], [0, 1, 2], [], [], [], [6], [5, 6, 7], [0, 1, 2, 3, 5, 6, 7, 8]]) (an := [{}, {}, {}, {}, {}, {}, {}, {}, {}, {}, {}]) rfl (by kernel_rfl) rfl fun _ Z9=>?_;refine Z8 ?_;refine Z4 ?_;refine Z6 ?_;refine ac rfl (x_o (i := a) (j := a) rfl rfl rfl rfl e1 hla (Nat.zero_add _)) rfl ?_;refine bq rfl (l_o rfl rfl gpa rfl rfl) rfl ?_;refine Z8 ?_;refine Z4 ?_;refine Z6 ?_;refine ac rfl (x_o (i := b) (j := b) rfl rfl rfl rfl e2 hlb (Nat.zero_add _)) rfl ?_;refine bq rfl (l_o rfl rfl gpb rfl rfl) rfl ?_;refine am rfl (AN _ _) rfl ?_;refine eQ Z9 ?_;clear Z9;refine ap rfl (fun _ => ?_) (fun h => by rw [bne_eq_false_iff_eq] at hb; rw [hb] at h; simp at h);refine az ?_;show AWP _ _ _ _ _ _;refine gR fun _ Z9=>?_;refine Z8 ?_;refine am rfl (aJ (c := ((i + 1 : Nat) : Int)) (by omega) (by omega)) rfl ?_;refine Z7 ?_;refine eQ Z9 ?_;clear Z9;refine ⟨(i + 1, false), by show g.links.length - (i + 1) < g.links.length - i; omega, ⟨hil, (fun _ j hj h => ?_), (fun h => by cases h)⟩, Wk.mk' ⟨rfl, rfl, rfl, rfl, rfl, rfl, rfl, trivial⟩ ⟨rfl, rfl, rfl, rfl, trivial⟩⟩
       by_cases e : j = i
       ·subst e; rw [<- hl, ehf]; exact hb
       ·exact hs0 j hj (by simp only at h; omega)
      | true =>
       have hnx : nxK g (rk g k) = some i := List.findIdx?_eq_some_iff_getElem.2 ⟨hil, hl ▸ hb, fun j hj => by simp [hs0 j (by omega) hj]⟩
       have es : rk g (k + 1) = rkS g g.links[i] (rk g k) := j9 hnx hil
       have ek2 : rkI k true = k + 1 := rfl
       rw [ehf] at hb;rw [<- hl] at es
       unfold rkS at es
       rw [e1, e2, Int.toNat_natCast, Int.toNat_natCast] at es
       have qa := hx a
       have qb := hx b
       have oxa := bj qa.1
       have oya := bj qa.2
       have oxb := bj qb.1
       have oyb := bj qb.2
       generalize dX g l = dx at cA oX es;generalize dY g l = dy at cA oY es
       have hnn : nxK g (rk g k) ≠ none := by rw [hnx]; simp
       have fin : ∀ j : Nat, j = k + 1 -> rk g (rkI k true) = rk g j := fun j h => by rw [h]; rfl
       generalize hs : rk g k = s at hb es oxa oya oxb oyb gpa gpb;refine aA tok mixed (A := [[], [], [], [1], [0, 1, 2], [], [], [], [6], [5, 6, 7], [0, 1, 2, 3, 5, 6, 7, 8]]) (an := [{}, {}, {}, {}, {}, {}, {}, {}, {}, {}, {}]) rfl (by kernel_rfl) rfl fun _ Z9=>?_;refine Z8 ?_;refine Z4 ?_;refine Z6 ?_;refine ac rfl (x_o (i := a) (j := a) rfl rfl rfl rfl e1 hla (Nat.zero_add _)) rfl ?_;refine bq rfl (l_o rfl rfl gpa rfl rfl) rfl ?_;refine Z8 ?_;refine Z4 ?_;refine Z6 ?_;refine ac rfl (x_o (i := b) (j := b) rfl rfl rfl rfl e2 hlb (Nat.zero_add _)) rfl ?_;refine bq rfl (l_o rfl rfl gpb rfl rfl) rfl ?_;refine am rfl (AN _ _) rfl ?_;refine eQ Z9 ?_;clear Z9;refine ap rfl (fun h => by rw [bne_iff_ne] at hb; exact absurd (by simpa using h) hb) (fun _ => ?_);refine aj ?_;show AWP _ _ _ _ _ _;refine gQ fun _ Z9=>?_;refine Z7 ?_;refine eQ Z9 ?_;clear Z9;refine gQ fun _ Z9=>?_;refine Z6 ?_;refine Z6 ?_;refine ab rfl rfl (cA) rfl rfl rfl rfl ?_;refine av rfl rfl rfl rfl rfl rfl ?_;refine ak rfl rfl rfl rfl rfl ?_;refine eQ Z9 ?_;clear Z9
       cases hp : s.pl a with
       | true =>
        rw [if_pos hp] at es;rw [hp] at gpa
        have ga := pn (s := s) hla hp
        have c1 := po (qzW (s.x a)) (qzW dx) (s.x a + dx) (oxa.mono (Nat.ble_eq_true_of_le (by omega))) (oX.mono rfl) (by rw [bB, bB])
        have c2 := po (qzW (s.y a)) (qzW dy) (s.y a + dy) (oya.mono (Nat.ble_eq_true_of_le (by omega))) (oY.mono rfl) (by rw [bB, bB])
        refine gQ fun _ Z9=>?_;refine Z8 ?_;refine Z4 ?_;refine Z6 ?_;refine ac rfl (x_o (i := a) (j := a) rfl rfl rfl rfl e1 hla (Nat.zero_add _)) rfl ?_;refine bq rfl (l_o rfl rfl gpa rfl rfl) rfl ?_;refine eQ Z9 ?_;clear Z9;refine ap rfl (fun _ => ?_) (fun h => by cases h);refine aA tok mixed (A := [[], [], [], [], [], [], [4], [3, 4, 5], [3, 4, 5, 6], [], [], [3, 4, 5, 6, 7, 9], [], [], [], [13], [12, 13, 14], [12, 13, 14, 15], [], [], [3, 4, 5, 6, 7, 8, 9, 10, 12, 13, 14, 15, 16, 18], [3, 4, 5, 6, 7, 8, 9, 10, 12, 13, 14, 15, 16, 17, 18, 19], [], []]) (an := [{}, {}, {}, {}, {}, {}, {}, {}, {}, {}, {}, {}, { c := [84] }, { c := [84] }, { c := [84] }, { c := [84] }, { c := [84] }, { c := [84] }, { c := [84] }, { c := [84] }, {}, {}, {}, {}]) rfl (by kernel_rfl) rfl fun _ Z9=>?_;refine Z8 ?_;refine Z4 ?_;refine Z6 ?_;refine Z8 ?_;refine Z4 ?_;refine Z6 ?_;refine ac rfl (x_o (i := a) (j := a) rfl rfl rfl rfl e1 hla (Nat.zero_add _)) rfl ?_;refine Z4 ?_;refine bq rfl (Cf rfl rfl ga rfl rfl) rfl ?_;refine Z4 ?_;refine Z6 ?_;refine ab rfl rfl (c1) rfl rfl rfl rfl ?_;refine Z8 ?_;refine Z4 ?_;refine Z6 ?_;refine ac rfl (x_o (i := a) (j := a) rfl rfl rfl rfl e1 hla (Nat.zero_add _)) rfl ?_;refine Z4 ?_;refine bq rfl (Cf rfl rfl ga rfl rfl) rfl ?_;refine Z4 ?_;refine Z6 ?_;refine ab rfl rfl (c2) rfl rfl rfl rfl ?_;refine aG rfl rfl rfl ?_;refine ac rfl (x_o (i := b) (j := b) rfl rfl rfl rfl e2 hlb (Nat.zero_add _)) rfl ?_;refine ak rfl (xN (p := szW (s.x a + dx) (s.y a + dy)) rfl rfl rfl (by rw [jp]; exact hlb) sw) rfl rfl rfl ?_;refine eQ Z9 ?_;clear Z9;refine gR fun _ Z9=>?_;refine Z8 ?_;refine Z4 ?_;refine Z6 ?_;refine ac rfl (x_o (i := b) (j := b) rfl rfl rfl rfl e2 hlb (Nat.zero_add _)) rfl ?_;refine ak rfl (q7 (ds := bC true) rfl rfl (by rw [gy]; exact hlb) (fun _ h => sT h) rfl rfl rfl) rfl rfl rfl ?_;refine eQ Z9 ?_;clear Z9;rw [kG, kJ hlb];show AWP _ _ _ _ _ _;refine gR fun _ Z9=>?_;refine Z8 ?_;refine am rfl (aJ (c := ((i + 1 : Nat) : Int)) (by omega) (by omega)) rfl ?_;refine Z7 ?_;refine eQ Z9 ?_;clear Z9;refine ⟨(i + 1, true), by show g.links.length - (i + 1) < g.links.length - i; omega, ⟨hil, (fun h => by cases h), fun _ => hs ▸ hnn⟩, ?_⟩;simp only [ek2];rw [es];exact Wk.mk' ⟨rfl, rfl, rfl, rfl, rfl, rfl, rfl, trivial⟩ ⟨rfl, rfl, rfl, rfl, trivial⟩
       | false =>
        rw [if_neg (by rw [hp]; decide)] at es;rw [hp] at hb gpa
        have hpb : s.pl b = true := by simpa using hb
        have ga := pn (s := s) hlb hpb
        have c1 := jr (qzW (s.x b)) (qzW dx) (s.x b - dx) (oxb.mono (Nat.ble_eq_true_of_le (by omega))) (oX.mono rfl) (by rw [bB, bB])
        have c2 := jr (qzW (s.y b)) (qzW dy) (s.y b - dy) (oyb.mono (Nat.ble_eq_true_of_le (by omega))) (oY.mono rfl) (by rw [bB, bB])
        refine gQ fun _ Z9=>?_;refine Z8 ?_;refine Z4 ?_;refine Z6 ?_;refine ac rfl (x_o (i := a) (j := a) rfl rfl rfl rfl e1 hla (Nat.zero_add _)) rfl ?_;refine bq rfl (l_o rfl rfl gpa rfl rfl) rfl ?_;refine eQ Z9 ?_;clear Z9;refine ap rfl (fun h => by cases h) (fun _ => ?_);refine aA tok mixed (A := [[], [], [], [], [], [], [4], [3, 4, 5], [3, 4, 5, 6], [], [], [3, 4, 5, 6, 7, 9], [], [], [], [13], [12, 13, 14], [12, 13, 14, 15], [], [], [3, 4, 5, 6, 7, 8, 9, 10, 12, 13, 14, 15, 16, 18], [3, 4, 5, 6, 7, 8, 9, 10, 12, 13, 14, 15, 16, 17, 18, 19], [], []]) (an := [{}, {}, {}, {}, {}, {}, {}, {}, {}, {}, {}, {}, { c := [111] }, { c := [111] }, { c := [111] }, { c := [111] }, { c := [111] }, { c := [111] }, { c := [111] }, { c := [111] }, {}, {}, {}, {}]) rfl (by kernel_rfl) rfl fun _ Z9=>?_;refine Z8 ?_;refine Z4 ?_;refine Z6 ?_;refine Z8 ?_;refine Z4 ?_;refine Z6 ?_;refine ac rfl (x_o (i := b) (j := b) rfl rfl rfl rfl e2 hlb (Nat.zero_add _)) rfl ?_;refine Z4 ?_;refine bq rfl (Cf rfl rfl ga rfl rfl) rfl ?_;refine Z4 ?_;refine Z6 ?_;refine ab rfl rfl (c1) rfl rfl rfl rfl ?_;refine Z8 ?_;refine Z4 ?_;refine Z6 ?_;refine ac rfl (x_o (i := b) (j := b) rfl rfl rfl rfl e2 hlb (Nat.zero_add _)) rfl ?_;refine Z4 ?_;refine bq rfl (Cf rfl rfl ga rfl rfl) rfl ?_;refine Z4 ?_;refine Z6 ?_;refine ab rfl rfl (c2) rfl rfl rfl rfl ?_;refine aG rfl rfl rfl ?_;refine ac rfl (x_o (i := a) (j := a) rfl rfl rfl rfl e1 hla (Nat.zero_add _)) rfl ?_;refine ak rfl (xN (p := szW (s.x b - dx) (s.y b - dy)) rfl rfl rfl (by rw [jp]; exact hla) sw) rfl rfl rfl ?_;refine eQ Z9 ?_;clear Z9;refine gR fun _ Z9=>?_;refine Z8 ?_;refine Z4 ?_;refine Z6 ?_;refine ac rfl (x_o (i := a) (j := a) rfl rfl rfl rfl e1 hla (Nat.zero_add _)) rfl ?_;refine ak rfl (q7 (ds := bC true) rfl rfl (by rw [gy]; exact hla) (fun _ h => sT h) rfl rfl rfl) rfl rfl rfl ?_;refine eQ Z9 ?_;clear Z9;rw [kG, kJ hla];show AWP _ _ _ _ _ _;refine gR fun _ Z9=>?_;refine Z8 ?_;refine am rfl (aJ (c := ((i + 1 : Nat) : Int)) (by omega) (by omega)) rfl ?_;refine Z7 ?_;refine eQ Z9 ?_;clear Z9;refine ⟨(i + 1, true), by show g.links.length - (i + 1) < g.links.length - i; omega, ⟨hil, (fun h => by cases h), fun _ => hs ▸ hnn⟩, ?_⟩;simp only [ek2];rw [es];exact Wk.mk' ⟨rfl, rfl, rfl, rfl, rfl, rfl, rfl, trivial⟩ ⟨rfl, rfl, rfl, rfl, trivial⟩
    ·refine gQ fun _ Z9=>?_;refine Z8 ?_;refine Z4 ?_;refine Z6 ?_;refine ay rfl (aL (l := g.links) LK.dc rfl rfl) rfl ?_;refine am rfl (cy (c := false) (decide_eq_false (by omega))) rfl ?_;refine Z8 ?_;refine ag rfl ?_;refine ag rfl ?_;refine Z3 ?_;refine eQ Z9 ?_;clear Z9;refine ap rfl (fun h => by cases h) (fun _ => ?_);refine az ?_
     exact ⟨f, ⟨fun h => zZ.2 fun x hx' => by
      obtain ⟨j, hjl, rfl⟩ := List.mem_iff_getElem.1 hx'
      exact hff h j hjl (by omega), hft⟩, Wk.mk' ⟨rfl, rfl, rfl, rfl, rfl, rfl, trivial⟩ ⟨rfl, rfl, rfl, rfl, trivial⟩⟩
   rintro f ⟨h1, h2⟩
   cases f with
   | false =>
    have ha := Eh gv (h1 rfl) hj (by omega)
    rw [if_neg (by rw [ha]; decide)];refine gQ fun _ Z9=>?_;refine Z8 ?_;refine bd rfl rfl rfl ?_;refine eQ Z9 ?_;clear Z9;refine ap rfl (fun _ => ?_) (fun h => by cases h);refine gQ fun _ Z9=>?_;refine Z7 ?_;refine Z7 ?_;refine eQ Z9 ?_;clear Z9;exact ai aE
   | true =>
    have hj' : ∀ j, j < k + 1 -> nxK g (rk g j) ≠ none := fun j hjk => by
     by_cases e : j = k
     ·rw [e]; exact h2 rfl
     ·exact hj j (by omega)
    refine gQ fun _ Z9=>?_;refine Z8 ?_;refine bd rfl rfl rfl ?_;refine eQ Z9 ?_;clear Z9;refine ap rfl (fun h => by cases h) (fun _ => ?_);refine aj ?_;show AWP _ _ _ _ _ _;refine gR fun _ Z9=>?_;refine Z8 ?_;refine am rfl (aJ (c := ((k + 1 + 1 : Nat) : Int)) (by omega) (by omega)) rfl ?_;refine Z7 ?_;refine eQ Z9 ?_;clear Z9;exact ⟨k + 1, by omega, ⟨hkn, hj'⟩, Wk.mk' ⟨rfl, rfl, rfl, rfl, rfl, trivial⟩ ⟨rfl, rfl, rfl, rfl, trivial⟩⟩
  ·have hkn' : k = g.nodes.length - 1 := by omega
   subst hkn'
   have ha := CQ gv hj
   rw [if_pos ha]
   have er : rkD n (rk g (g.nodes.length - 1)) = (rkL g).map SP.dc := by rw [hn, wS ha]
   rw [er];refine gQ fun _ Z9=>?_;refine Z8 ?_;refine Z4 ?_;refine Z6 ?_;refine ay rfl (aL (l := g.nodes) RW.dc rfl rfl) rfl ?_;refine am rfl (cy (c := false) (decide_eq_false (by omega))) rfl ?_;refine eQ Z9 ?_;clear Z9;refine ap rfl (fun h => by cases h) (fun _ => ?_);refine az ?_;show AWP _ _ _ _ _ _;refine eL [5] [19] 19 [(5, V1 (dSs (rkL g)))] [] rfl ?_ trivial ?_
   ·exact ⟨cD rfl (by rw [List.length_map, jo, hn]), trivial⟩
   refine gQ fun _ Z9=>?_;refine Z8 ?_;refine Z7 ?_;refine Z7 ?_;refine eQ Z9 ?_;clear Z9;exact ai aE
 ·rw [iz, if_neg hv];rw [Bool.eq_false_iff.2 hv] at cV;refine gQ fun _ Z9=>?_;refine Z6 ?_;refine ab rfl rfl (cV) rfl rfl rfl rfl ?_;refine bd rfl rfl rfl ?_;refine eQ Z9 ?_;clear Z9;refine ap rfl (fun _ => ?_) (fun h => by cases h);refine gQ fun _ Z9=>?_;refine Z7 ?_;refine Z7 ?_;refine eQ Z9 ?_;clear Z9;exact ai aE
end Go.Proofs.YtnoildlijhapaaaGreatDoor

/- The reference's Common. No condition. -/
namespace Go.Proofs.YtnoildlijhapaaaGreatDoor
attribute [local irreducible] aC
open Go.RowKit

theorem CY {a b : Rat} : decide ((a - b).num.sign < 0) = decide (a < b) := by
 rw [Bool.eq_iff_iff, decide_eq_true_eq, decide_eq_true_eq, Int.sign_neg_iff, <- Int.not_le, Rat.num_nonneg]
 constructor <;> intro h <;> grind
theorem CZ {a b : Rat} : decide ((a - b).num.sign > 0) = decide (b < a) := by
 have := ua (q := a - b)
 rw [Bool.eq_iff_iff, decide_eq_true_eq, decide_eq_true_eq]
 constructor
 ·intro h
  have : ¬ ((a - b).num.sign <= 0) := by omega
  grind
 ·intro h
  have : ¬ ((a - b).num.sign <= 0) := by grind
  omega
structure LH where
 a : RW
 b : RW
 c : RW
 d : RW
def lhS (s : LH) (p : SP) : LH := ⟨if p.x.v < s.a.v then p.x else s.a, if s.b.v < p.x.v then p.x else s.b, if p.y.v < s.c.v then p.y else s.c, if s.d.v < p.y.v then p.y else s.d⟩
def lhL (s : LH) (l : List SP) : LH := ⟨loR s.a (l.map SP.x), hiR s.b (l.map SP.x), loR s.c (l.map SP.y), hiR s.d (l.map SP.y)⟩
theorem Ab (s : LH) (l : List SP) (p : SP) : lhL s (l ++ [p]) = lhS (lhL s l) p := by
 unfold lhL lhS
 rw [List.map_append, List.map_append];simp only [List.map_cons, List.map_nil];rw [mU, mW, mU, mW]
structure LH.OK (s : LH) : Prop where
 a : s.a.OK 262144
 b : s.b.OK 262144
 c : s.c.OK 262144
 d : s.d.OK 262144

set_option maxHeartbeats 8000000 in
theorem Du (l : List SP) (t : Int) (ol : ∀ p ∈ l, p.OK 262144) (hl : l.length <= 1048576) : Con Tryz.prog 31 [V1 (dSs l), dI t] { v := .tup [.agg (eu l t).1.cs, .one (.d (.lit (.bool (eu l t).2)))] } := by
 refine Z2 Tryz.func31 ?_
 intro w0 X
 rw [aq _ _ [(0, V1 (dSs l)), (1, dI t)] rfl rfl];refine gQ fun _ Z9=>?_;refine av rfl rfl rfl rfl rfl rfl ?_;refine Z7 ?_;refine eQ Z9 ?_;clear Z9;refine ah ?_
 rcases l with _ | ⟨p, r⟩
 ·refine gQ fun _ Z9=>?_;refine Z8 ?_;refine ay rfl (aL SP.dc rfl rfl) rfl ?_;refine am rfl (dS (c := true) rfl) rfl ?_;refine Z8 ?_;refine ag rfl ?_;refine ag rfl ?_;refine Z3 ?_;refine Z8 ?_;refine ag rfl ?_;refine ag rfl ?_;refine Z3 ?_;refine eQ Z9 ?_;clear Z9;refine ap rfl (fun _ => ?_) (fun h => by cases h)
  have e : eu [] t = (sp0, false) := rfl
  rw [e];refine gQ fun _ Z9=>?_;refine aG rfl rfl rfl ?_;refine ak rfl rfl rfl rfl rfl ?_;refine Z7 ?_;refine eQ Z9 ?_;clear Z9;exact ai aE
 have h0 : ((((p :: r).length : Nat) : Int) == 0) = false := by simp; omega
 by_cases ht0 : t < 0
 ·have e : eu (p :: r) t = (sp0, false) := by
   show (if tolB t && _ then _ else _) = _
   rw [show tolB t = false from decide_eq_false (fun h => by omega)]; rfl
  rw [e];refine gQ fun _ Z9=>?_;refine Z8 ?_;refine ay rfl (aL SP.dc rfl rfl) rfl ?_;refine am rfl (dS (c := false) h0) rfl ?_;refine Z8 ?_;refine Z8 ?_;refine am rfl (cy (c := true) (decide_eq_true ht0)) rfl ?_;refine Z3 ?_;refine Z8 ?_;refine ag rfl ?_;refine ag rfl ?_;refine Z3 ?_;refine eQ Z9 ?_;clear Z9;refine ap rfl (fun _ => ?_) (fun h => by cases h);refine gQ fun _ Z9=>?_;refine aG rfl rfl rfl ?_;refine ak rfl rfl rfl rfl rfl ?_;refine Z7 ?_;refine eQ Z9 ?_;clear Z9;exact ai aE
 by_cases ht1 : t > 1048576
 ·have e : eu (p :: r) t = (sp0, false) := by
   show (if tolB t && _ then _ else _) = _
   rw [show tolB t = false from decide_eq_false (fun h => by omega)]; rfl
  rw [e];refine gQ fun _ Z9=>?_;refine Z8 ?_;refine ay rfl (aL SP.dc rfl rfl) rfl ?_;refine am rfl (dS (c := false) h0) rfl ?_;refine Z8 ?_;refine Z8 ?_;refine am rfl (cy (c := false) (decide_eq_false ht0)) rfl ?_;refine Z3 ?_;refine Z8 ?_;refine Z8 ?_;refine am rfl (dz (c := true) (decide_eq_true ht1)) rfl ?_;refine Z3 ?_;refine eQ Z9 ?_;clear Z9;refine ap rfl (fun _ => ?_) (fun h => by cases h);refine gQ fun _ Z9=>?_;refine aG rfl rfl rfl ?_;refine ak rfl rfl rfl rfl rfl ?_;refine Z7 ?_;refine eQ Z9 ?_;clear Z9;exact ai aE
 have ht : tolB t = true := decide_eq_true ⟨by omega, by omega⟩
 have op := ol p List.mem_cons_self
 have ho : ∀ k, (lhL ⟨p.x, p.x, p.y, p.y⟩ ((p :: r).take k)).OK := fun k => by
  have hm : ∀ q ∈ (p :: r).take k, q.OK 262144 := fun q hq => ol q (List.mem_of_mem_take hq)
  have mx : ∀ x ∈ ((p :: r).take k).map SP.x, x.OK 262144 := fun x hx => by obtain ⟨q, hq, rfl⟩ := List.mem_map.1 hx; exact (hm q hq).x
  have my : ∀ x ∈ ((p :: r).take k).map SP.y, x.OK 262144 := fun x hx => by obtain ⟨q, hq, rfl⟩ := List.mem_map.1 hx; exact (hm q hq).y
  exact ⟨s4 op.x mx, s9 op.x mx, s4 op.y my, s9 op.y my⟩
 refine gQ fun _ Z9=>?_;refine Z8 ?_;refine ay rfl (aL SP.dc rfl rfl) rfl ?_;refine am rfl (dS (c := false) h0) rfl ?_;refine Z8 ?_;refine Z8 ?_;refine am rfl (cy (c := false) (decide_eq_false ht0)) rfl ?_;refine Z3 ?_;refine Z8 ?_;refine Z8 ?_;refine am rfl (dz (c := false) (decide_eq_false ht1)) rfl ?_;refine Z3 ?_;refine eQ Z9 ?_;clear Z9;refine ap rfl (fun h => by cases h) (fun _ => ?_);refine aj ?_;show AWP _ _ _ _ _ _;refine aA tok mixed (A := [[], [], [0], [], [], [3], [], [], [], []]) (an := [{}, {}, {}, {}, {}, {}, {}, { c := [6] }, { d := [28] }, {}]) rfl (by kernel_rfl) rfl fun _ Z9=>?_;refine Z8 ?_;refine ac rfl (x_m (i := 0) SP.dc rfl rfl rfl rfl (by simp) rfl) rfl ?_;refine Z6 ?_;refine Z8 ?_;refine ac rfl (x_m (i := 0) SP.dc rfl rfl rfl rfl (by simp) rfl) rfl ?_;refine Z6 ?_;refine av rfl rfl rfl rfl rfl rfl ?_;refine av rfl rfl rfl rfl rfl rfl ?_;refine ak rfl rfl rfl rfl rfl ?_;refine ak rfl rfl rfl rfl rfl ?_;refine eQ Z9 ?_;clear Z9;refine ah ?_;refine gQ fun _ Z9=>?_;refine Z7 ?_;refine eQ Z9 ?_;clear Z9;refine ar (aN (α := Nat) (fun i => mk 120 [(0, V1 (dSs (p :: r))), (1, dI t), (4, .ptr 4 0), (6, .ptr 6 0), (7, .ptr 7 0), (8, dI i)] [(4, some (.box [.d (.lit (.bool false)), .nil, .d (.lit (.bool false)), .nil, .d (.lit (.bool false)), .nil, .d (.lit (.bool false)), .nil])), (6, some (.box (SP.mk (lhL ⟨p.x, p.x, p.y, p.y⟩ ((p :: r).take i)).a (lhL ⟨p.x, p.x, p.y, p.y⟩ ((p :: r).take i)).c).cs)), (7, some (.box (SP.mk (lhL ⟨p.x, p.x, p.y, p.y⟩ ((p :: r).take i)).b (lhL ⟨p.x, p.x, p.y, p.y⟩ ((p :: r).take i)).d).cs))] []) (fun i => i <= (p :: r).length) (fun i => (p :: r).length - i) 0 ?_ (Nat.zero_le _) ?_)
 ·exact Wk.mk' ⟨rfl, rfl, rfl, rfl, rfl, rfl, trivial⟩ ⟨rfl, rfl, rfl, trivial⟩
 intro i hi
 refine ah ?_;refine gQ fun _ Z9=>?_;refine Z8 ?_;refine Z8 ?_;refine ay rfl (aL SP.dc rfl rfl) rfl ?_;refine Z5 ?_;refine eQ Z9 ?_;clear Z9;refine ap rfl (fun hg => ?_) (fun hg => ?_)
 ·have hg : i < (p :: r).length := by simp at hg ⊢; omega
  have hq := ol _ (List.getElem_mem hg)
  have hk := ho i
  have et : lhL ⟨p.x, p.x, p.y, p.y⟩ ((p :: r).take (i + 1)) = lhS (lhL ⟨p.x, p.x, p.y, p.y⟩ ((p :: r).take i)) (p :: r)[i] := by
   rw [List.take_succ_eq_append_getElem hg, Ab]
  generalize lhL ⟨p.x, p.x, p.y, p.y⟩ ((p :: r).take i) = s at hk et ⊢
  have c1 := iQ (p :: r)[i].x s.a (hq.x.mono rfl) (hk.a.mono rfl)
  have c2 := iQ (p :: r)[i].x s.b (hq.x.mono rfl) (hk.b.mono rfl)
  have c3 := iQ (p :: r)[i].y s.c (hq.y.mono rfl) (hk.c.mono rfl)
  have c4 := iQ (p :: r)[i].y s.d (hq.y.mono rfl) (hk.d.mono rfl)
  have x0 : ∀ {T : Tab} {t e : TypeId} {ti ei : TI} (h1 : T t = some ti) (h2 : ti.und = .slice e) (h3 : T e = some ei) (h4 : ∀ x, (SP.dc x).length = ei.size), a8 T t (V1 (dSs (p :: r))) (dI i) = .set (.pd (SP.dc (p :: r)[i])) := fun h1 h2 h3 h4 => x_m SP.dc h1 h2 h3 rfl hg (h4 _)
  obtain ⟨q, hqq⟩ : ∃ q, q = (p :: r)[i] := ⟨_, rfl⟩
  rw [<- hqq] at c1 c2 c3 c4 et x0;refine aj ?_;show AWP _ _ _ _ _ _;refine ah ?_;refine ar ?_;refine aO (α := Unit) (fun _ => mk 120 [(0, V1 (dSs (p :: r))), (1, dI t), (4, .ptr 4 0), (6, .ptr 6 0), (7, .ptr 7 0), (8, dI i)] [(4, some (.box [.d (.lit (.bool false)), .nil, .d (.lit (.bool false)), .nil, .d (.lit (.bool false)), .nil, .d (.lit (.bool false)), .nil])), (6, some (.box (SP.mk (lhS s q).a s.c).cs)), (7, some (.box (SP.mk s.b s.d).cs))] []) (fun _ => True) ?_ ?_
  ·refine aA tok mixed (A := [[], [], [], [0, 1], [0, 1, 2], [], [], [0, 1, 2, 3, 5], [0, 1, 2, 3, 4, 5, 6]]) (an := [{}, {}, {}, {}, {}, {}, {}, {}, {}]) rfl (by kernel_rfl) rfl fun _ Z9=>?_;refine Z8 ?_;refine Z8 ?_;refine ac rfl (x0 rfl rfl rfl (fun _ => rfl)) rfl ?_;refine Z4 ?_;refine Z6 ?_;refine Z4 ?_;refine Z6 ?_;refine ab rfl rfl (c1) rfl rfl rfl rfl ?_;refine am rfl (cy CY) rfl ?_;refine eQ Z9 ?_;clear Z9;refine ap rfl (fun hx => ?_) (fun hx => ?_)
   ·have e : (lhS s q).a = q.x := if_pos (of_decide_eq_true hx)
    rw [e];refine gR fun _ Z9=>?_;refine Z8 ?_;refine Z8 ?_;refine ac rfl (x0 rfl rfl rfl (fun _ => rfl)) rfl ?_;refine Z4 ?_;refine Z6 ?_;refine Z4 ?_;refine ak rfl rfl rfl rfl rfl ?_;refine eQ Z9 ?_;clear Z9;exact ⟨(), trivial, Wk.mk' ⟨rfl, rfl, rfl, rfl, rfl, rfl, trivial⟩ ⟨rfl, rfl, rfl, trivial⟩⟩
   ·have e : (lhS s q).a = s.a := if_neg (of_decide_eq_false hx)
    rw [e];refine aj ?_;exact ⟨(), trivial, Wk.mk' ⟨rfl, rfl, rfl, rfl, rfl, rfl, trivial⟩ ⟨rfl, rfl, rfl, trivial⟩⟩
  intro _ _
  refine aO (α := Unit) (fun _ => mk 120 [(0, V1 (dSs (p :: r))), (1, dI t), (4, .ptr 4 0), (6, .ptr 6 0), (7, .ptr 7 0), (8, dI i)] [(4, some (.box [.d (.lit (.bool false)), .nil, .d (.lit (.bool false)), .nil, .d (.lit (.bool false)), .nil, .d (.lit (.bool false)), .nil])), (6, some (.box (SP.mk (lhS s q).a s.c).cs)), (7, some (.box (SP.mk (lhS s q).b s.d).cs))] []) (fun _ => True) ?_ ?_
  ·refine aA tok mixed (A := [[], [], [], [0, 1], [0, 1, 2], [], [], [0, 1, 2, 3, 5], [0, 1, 2, 3, 4, 5, 6]]) (an := [{}, {}, {}, {}, {}, {}, {}, {}, {}]) rfl (by kernel_rfl) rfl fun _ Z9=>?_;refine Z8 ?_;refine Z8 ?_;refine ac rfl (x0 rfl rfl rfl (fun _ => rfl)) rfl ?_;refine Z4 ?_;refine Z6 ?_;refine Z4 ?_;refine Z6 ?_;refine ab rfl rfl (c2) rfl rfl rfl rfl ?_;refine am rfl (dz CZ) rfl ?_;refine eQ Z9 ?_;clear Z9;refine ap rfl (fun hx => ?_) (fun hx => ?_)
   ·have e : (lhS s q).b = q.x := if_pos (of_decide_eq_true hx)
    rw [e];refine gR fun _ Z9=>?_;refine Z8 ?_;refine Z8 ?_;refine ac rfl (x0 rfl rfl rfl (fun _ => rfl)) rfl ?_;refine Z4 ?_;refine Z6 ?_;refine Z4 ?_;refine ak rfl rfl rfl rfl rfl ?_;refine eQ Z9 ?_;clear Z9;exact ⟨(), trivial, Wk.mk' ⟨rfl, rfl, rfl, rfl, rfl, rfl, trivial⟩ ⟨rfl, rfl, rfl, trivial⟩⟩
   ·have e : (lhS s q).b = s.b := if_neg (of_decide_eq_false hx)
    rw [e];refine aj ?_;exact ⟨(), trivial, Wk.mk' ⟨rfl, rfl, rfl, rfl, rfl, rfl, trivial⟩ ⟨rfl, rfl, rfl, trivial⟩⟩
  intro _ _
  refine aO (α := Unit) (fun _ => mk 120 [(0, V1 (dSs (p :: r))), (1, dI t), (4, .ptr 4 0), (6, .ptr 6 0), (7, .ptr 7 0), (8, dI i)] [(4, some (.box [.d (.lit (.bool false)), .nil, .d (.lit (.bool false)), .nil, .d (.lit (.bool false)), .nil, .d (.lit (.bool false)), .nil])), (6, some (.box (SP.mk (lhS s q).a (lhS s q).c).cs)), (7, some (.box (SP.mk (lhS s q).b s.d).cs))] []) (fun _ => True) ?_ ?_
  ·refine aA tok mixed (A := [[], [], [], [0, 1], [0, 1, 2], [], [], [0, 1, 2, 3, 5], [0, 1, 2, 3, 4, 5, 6]]) (an := [{}, {}, {}, {}, {}, {}, {}, {}, {}]) rfl (by kernel_rfl) rfl fun _ Z9=>?_;refine Z8 ?_;refine Z8 ?_;refine ac rfl (x0 rfl rfl rfl (fun _ => rfl)) rfl ?_;refine Z4 ?_;refine Z6 ?_;refine Z4 ?_;refine Z6 ?_;refine ab rfl rfl (c3) rfl rfl rfl rfl ?_;refine am rfl (cy CY) rfl ?_;refine eQ Z9 ?_;clear Z9;refine ap rfl (fun hx => ?_) (fun hx => ?_)
   ·have e : (lhS s q).c = q.y := if_pos (of_decide_eq_true hx)
    rw [e];refine gR fun _ Z9=>?_;refine Z8 ?_;refine Z8 ?_;refine ac rfl (x0 rfl rfl rfl (fun _ => rfl)) rfl ?_;refine Z4 ?_;refine Z6 ?_;refine Z4 ?_;refine ak rfl rfl rfl rfl rfl ?_;refine eQ Z9 ?_;clear Z9;exact ⟨(), trivial, Wk.mk' ⟨rfl, rfl, rfl, rfl, rfl, rfl, trivial⟩ ⟨rfl, rfl, rfl, trivial⟩⟩
   ·have e : (lhS s q).c = s.c := if_neg (of_decide_eq_false hx)
    rw [e];refine aj ?_;exact ⟨(), trivial, Wk.mk' ⟨rfl, rfl, rfl, rfl, rfl, rfl, trivial⟩ ⟨rfl, rfl, rfl, trivial⟩⟩
  intro _ _
  refine aA tok mixed (A := [[], [], [], [0, 1], [0, 1, 2], [], [], [0, 1, 2, 3, 5], [0, 1, 2, 3, 4, 5, 6]]) (an := [{}, {}, {}, {}, {}, {}, {}, {}, {}]) rfl (by kernel_rfl) rfl fun _ Z9=>?_;refine Z8 ?_;refine Z8 ?_;refine ac rfl (x0 rfl rfl rfl (fun _ => rfl)) rfl ?_;refine Z4 ?_;refine Z6 ?_;refine Z4 ?_;refine Z6 ?_;refine ab rfl rfl (c4) rfl rfl rfl rfl ?_;refine am rfl (dz CZ) rfl ?_;refine eQ Z9 ?_;clear Z9;refine ap rfl (fun hx => ?_) (fun hx => ?_)
  ·have e : (lhS s q).d = q.y := if_pos (of_decide_eq_true hx)
   refine gR fun _ Z9=>?_;refine Z8 ?_;refine Z8 ?_;refine ac rfl (x0 rfl rfl rfl (fun _ => rfl)) rfl ?_;refine Z4 ?_;refine Z6 ?_;refine Z4 ?_;refine ak rfl rfl rfl rfl rfl ?_;refine eQ Z9 ?_;clear Z9;show AWP _ _ _ _ _ _;refine gR fun _ Z9=>?_;refine Z8 ?_;refine am rfl (aJ (c := ((i + 1 : Nat) : Int)) (by simp at hl hg; omega) (by simp at hl hg; omega)) rfl ?_;refine Z7 ?_;refine eQ Z9 ?_;clear Z9;refine ⟨i + 1, by omega, hg, ?_⟩;rw [et, e];exact Wk.mk' ⟨rfl, rfl, rfl, rfl, rfl, rfl, trivial⟩ ⟨rfl, rfl, rfl, trivial⟩
  ·have e : (lhS s q).d = s.d := if_neg (of_decide_eq_false hx)
   refine aj ?_;show AWP _ _ _ _ _ _;refine gR fun _ Z9=>?_;refine Z8 ?_;refine am rfl (aJ (c := ((i + 1 : Nat) : Int)) (by simp at hl hg; omega) (by simp at hl hg; omega)) rfl ?_;refine Z7 ?_;refine eQ Z9 ?_;clear Z9;refine ⟨i + 1, by omega, hg, ?_⟩;rw [et, e];exact Wk.mk' ⟨rfl, rfl, rfl, rfl, rfl, rfl, trivial⟩ ⟨rfl, rfl, rfl, trivial⟩
 have hg : i = (p :: r).length := by simp at hg hi ⊢; omega
 subst hg
 have hs := ho (p :: r).length
 rw [List.take_length] at hs ⊢
 have es : lhL ⟨p.x, p.x, p.y, p.y⟩ (p :: r) = ⟨loR p.x (r.map SP.x), hiR p.x (r.map SP.x), loR p.y (r.map SP.y), hiR p.y (r.map SP.y)⟩ := by
  show LH.mk (loR (if p.x.v < p.x.v then p.x else p.x) _) (hiR (if p.x.v < p.x.v then p.x else p.x) _) (loR (if p.y.v < p.y.v then p.y else p.y) _) (hiR (if p.y.v < p.y.v then p.y else p.y) _) = _
  simp
 have e : eu (p :: r) t = if jI (loR p.x (r.map SP.x)) (hiR p.x (r.map SP.x)) t && jI (loR p.y (r.map SP.y)) (hiR p.y (r.map SP.y)) t then (szW (dM (loR p.x (r.map SP.x)) (hiR p.x (r.map SP.x))) (dM (loR p.y (r.map SP.y)) (hiR p.y (r.map SP.y))), true) else (sp0, false) := by
  show (if tolB t && _ then _ else _) = _
  rw [ht, Bool.true_and]
 rw [es] at hs ⊢;rw [e]
 have o1 := hs.a
 have o2 := hs.b
 have o3 := hs.c
 have o4 := hs.d
 simp only at o1 o2 o3 o4 ⊢
 clear hs es e ho;generalize loR p.x (r.map SP.x) = a at o1 ⊢;generalize hiR p.x (r.map SP.x) = b at o2 ⊢;generalize loR p.y (r.map SP.y) = c at o3 ⊢;generalize hiR p.y (r.map SP.y) = d at o4 ⊢
 have cN := sH ⟨a, c⟩ ⟨b, d⟩ t ⟨o1, o3⟩ ⟨o2, o4⟩
 have eN : dh ⟨a, c⟩ ⟨b, d⟩ t = (jI a b t && jI c d t) := by
  show (tolB t && (wiB (a.v - b.v) (2 * t) && wiB (c.v - d.v) (2 * t))) = _
  rw [ht, Bool.true_and]; rfl
 rw [eN] at cN;refine az ?_;show AWP _ _ _ _ _ _;refine ah ?_
 cases hB : (jI a b t && jI c d t) with
 | false =>
  rw [hB] at cN;rw [if_neg (by decide)];refine gQ fun _ Z9=>?_;refine Z6 ?_;refine Z6 ?_;refine Z8 ?_;refine ab rfl rfl (cN) rfl rfl rfl rfl ?_;refine bd rfl rfl rfl ?_;refine eQ Z9 ?_;clear Z9;refine ap rfl (fun _ => ?_) (fun h => by cases h);refine gQ fun _ Z9=>?_;refine aG rfl rfl rfl ?_;refine ak rfl rfl rfl rfl rfl ?_;refine Z7 ?_;refine eQ Z9 ?_;clear Z9;exact ai aE
 | true =>
  rw [hB] at cN;rw [if_pos rfl]
  have q1 := b7 (o1.ql rfl) (o2.ql rfl)
  have q2 := b7 (o3.ql rfl) (o4.ql rfl)
  have cH : Con Tryz.prog 63 [dI 1, dI 2] { v := AG (qzW (Rat.divInt 1 2)).cs } := zJ 1 2 ⟨by decide, by decide⟩ ⟨by decide, by decide⟩
  have c1 := po a b (a.v + b.v) (o1.mono rfl) (o2.mono rfl) rfl
  have c2 := wY (qzW (Rat.divInt 1 2)) (qzW (a.v + b.v)) (dM a b) ((bj pG).mono rfl) ((bj q1).mono rfl) (by rw [bB, bB]; unfold dM; grind)
  have c3 := po c d (c.v + d.v) (o3.mono rfl) (o4.mono rfl) rfl
  have c4 := wY (qzW (Rat.divInt 1 2)) (qzW (c.v + d.v)) (dM c d) ((bj pG).mono rfl) ((bj q2).mono rfl) (by rw [bB, bB]; unfold dM; grind)
  have ez : szW (dM a b) (dM c d) = ⟨qzW (dM a b), qzW (dM c d)⟩ := rfl
  rw [ez];generalize qzW (dM a b) = m1 at c2 ⊢;generalize qzW (dM c d) = m2 at c4 ⊢;generalize qzW (a.v + b.v) = w1 at c1 c2;generalize qzW (c.v + d.v) = w2 at c3 c4;generalize qzW (Rat.divInt 1 2) = w at cH c2 c4;refine gQ fun _ Z9=>?_;refine Z6 ?_;refine Z6 ?_;refine Z8 ?_;refine ab rfl rfl (cN) rfl rfl rfl rfl ?_;refine bd rfl rfl rfl ?_;refine eQ Z9 ?_;clear Z9;refine ap rfl (fun h => by cases h) (fun _ => ?_);refine aj ?_;show AWP _ _ _ _ _ _;refine gQ fun _ Z9=>?_;refine ab rfl rfl (cH) rfl rfl rfl rfl ?_;refine av rfl rfl rfl rfl rfl rfl ?_;refine ak rfl rfl rfl rfl rfl ?_;refine eQ Z9 ?_;clear Z9;refine aA tok mixed (A := [[], [], [], [], [], [1, 3], [1, 2, 3, 4], [], []]) (an := [{}, {}, {}, {}, {}, {}, {}, { c := [108, 109] }, {}]) rfl (by kernel_rfl) rfl fun _ Z9=>?_;refine Z6 ?_;refine Z4 ?_;refine Z6 ?_;refine Z4 ?_;refine Z6 ?_;refine ab rfl rfl (c1) rfl rfl rfl rfl ?_;refine ab rfl rfl (c2) rfl rfl rfl rfl ?_;refine av rfl rfl rfl rfl rfl rfl ?_;refine ak rfl rfl rfl rfl rfl ?_;refine eQ Z9 ?_;clear Z9;refine aA tok mixed (A := [[], [], [], [], [], [1, 3], [1, 2, 3, 4], [], []]) (an := [{}, {}, {}, {}, {}, {}, {}, { c := [115, 116] }, {}]) rfl (by kernel_rfl) rfl fun _ Z9=>?_;refine Z6 ?_;refine Z4 ?_;refine Z6 ?_;refine Z4 ?_;refine Z6 ?_;refine ab rfl rfl (c3) rfl rfl rfl rfl ?_;refine ab rfl rfl (c4) rfl rfl rfl rfl ?_;refine av rfl rfl rfl rfl rfl rfl ?_;refine ak rfl rfl rfl rfl rfl ?_;refine eQ Z9 ?_;clear Z9;refine gQ fun _ Z9=>?_;refine Z6 ?_;refine Z6 ?_;refine aG rfl rfl rfl ?_;refine ak rfl rfl rfl rfl rfl ?_;refine Z7 ?_;refine eQ Z9 ?_;clear Z9;exact ai aE
end Go.Proofs.YtnoildlijhapaaaGreatDoor

/- strconv.FormatUint at a hundred and above. Lines turned from the kit's Itoa3. No condition. -/
namespace Go.Proofs.YtnoildlijhapaaaGreatDoor
open Go.Shelf Go.RowKit Go.Sort Go.Lib

theorem uw (w : World) (T : TypeId) (nd : Nat) (hs : nd <= 24) : Holds (fun (b : UInt8) => Value.int .u8 (b.toNat : Int)) (w.alloc (.cells zeros24 T)) w.heap.size 0 (Array.replicate nd (0 : UInt8)) := fun j hj => by
 have hj' : j < nd := by simpa using hj
 refine ⟨?_, World.frozen?_alloc_new _ _ _ _⟩;rw [World.cell?_alloc_new, zeros24_at _ (by omega), getElem!_pos _ j hj]
 simp
theorem Ay (w : World) (o : Obj) (dk : Array UInt8) (k : Nat) : ∃ os, (putRow (fun (b : UInt8) => Value.int .u8 (b.toNat : Int)) (w.alloc o) w.heap.size 0 dk).drewN k = grow (w.drewN k) os := by
 rw [alloc_eq_grow]
 obtain ⟨os', _, e⟩ := putRow_grow_new (fun (b : UInt8) => Value.int .u8 (b.toNat : Int)) w #[o] w.heap.size 0 dk (Nat.le_refl _)
 exact ⟨os', by rw [e]; rfl⟩
set_option maxHeartbeats 6400000 in
set_option maxRecDepth 100000 in
theorem Aw (u : Nat) (hu1 : 100 <= u) (hu64 : u < 18446744073709551616) (w : World) (htab : Lib.TabIs Tryz.prog w "internal/strconv.uint64pow10" .u64 Lib.pow10Tab) :
  Calls Tryz.prog 163 #[.int .u64 u, .int .i64 10] w fun e w' => e = .returned (.string ⟨(Lib.decDigits u).toArray⟩) /\ ∃ k os, w' = grow (w.drewN k) os := by
 have hnd20 : Lib.nDigits u <= 20 := by have := Lib.numDigits_eq u (by omega) hu64; split at this <;> omega
 have hal : Tryz.prog.arrayLen 202 = 24 := by kernel_rfl
 have hH0 := uw w 202 (Lib.nDigits u) (by omega)
 have hfmt := sh_internal_strconv_formatBase10 w.heap.size 0 24 u (Array.replicate (Lib.nDigits u) 0) (w.alloc (.cells Lib.zeros24 202)) hH0 (by rw [Array.size_replicate]; exact Lib.lt_pow_nDigits u) hu64 (by rw [Array.size_replicate]; omega)
 rw [Array.size_replicate] at hfmt
 have hsl1 : ∀ W, (Instr.sliceAt 202 (.pointer (some ⟨w.heap.size, 0, none⟩)) none (some (.int .i64 (Lib.nDigits u : Int))) none).run Tryz.prog W = .ok (.slice (some ⟨w.heap.size, 0, none⟩) (Lib.nDigits u) 24) W := fun W => by
  rw [run_sliceAt_array_h (P := Tryz.prog) W 202 ⟨w.heap.size, 0, none⟩ (by kernel_rfl) .i64 (Lib.nDigits u : Int) (by omega) (by rw [hal]; omega)]
  go_simp
 have HH0 := Lib.hid hH0
 clear hH0 hal
 have hge : ¬ ((u : Int) < 100) := by omega
 go_enter Tryz.func163, Tryz.ntmps163
 go_wp2_with (go_at_fn 182)
 refine (sh_internal_strconv_numDigits u (by omega) hu64 _ (Lib.tabIs_alloc htab _)).mono ?_
 rintro e w' ⟨rfl, rfl⟩
 go_wp2_with (go_at_fn 183)
 refine hfmt.mono ?_
 rintro e w' ⟨rfl, k, v', dk, rfl, hF⟩
 have hcv : (convert 74 9 (.slice (some ⟨w.heap.size, 0, none⟩) (Lib.nDigits u) 24)).run Tryz.prog ((putRow (fun (b : UInt8) => Value.int .u8 (b.toNat : Int)) (w.alloc (.cells Lib.zeros24 202)) w.heap.size 0 dk).drewN k) = .ok (.string ⟨(Lib.decDigits u).toArray⟩) ((putRow (fun (b : UInt8) => Value.int .u8 (b.toNat : Int)) (w.alloc (.cells Lib.zeros24 202)) w.heap.size 0 dk).drewN k) := by
  have h := run_convert_bytes_back (P := Tryz.prog) ((putRow (fun (b : UInt8) => Value.int .u8 (b.toNat : Int)) (w.alloc (.cells Lib.zeros24 202)) w.heap.size 0 dk).drewN k) 74 9 5 ⟨w.heap.size, 0, none⟩ 24 (Lib.decDigits u) (by kernel_rfl) (by kernel_rfl) (by kernel_rfl) (fun j hj => by
   rw [Lib.row_is_numeral hF j hj, Lib.add_plain, World.cell?_drewN]
   exact cell?_putRow (fun (b : UInt8) => Value.int .u8 (b.toNat : Int)) _ w.heap.size 0 _ dk HH0.out (by rw [hF.size, Array.size_replicate]) j (by rw [hF.size]; rw [Lib.decDigits_length] at hj; exact hj))
  rw [Lib.decDigits_length] at h;exact h
 go_wp2
 go_ret
 obtain ⟨os, eo⟩ := Ay w (.cells Lib.zeros24 202) dk k
 exact ⟨rfl, k, os, eo⟩
end Go.Proofs.YtnoildlijhapaaaGreatDoor

/- law30: awake. No condition. -/
namespace Go.Proofs.YtnoildlijhapaaaGreatDoor
attribute [local irreducible] aC
open Go.RowKit

theorem Ao (d : Nat) (s : List UInt8) (h0 : 0 < d) (hd : d < 1000000000) (cf : Con Tryz.prog 137 [dL d, dI 10] { v := V1 (sB s) }) : Con Tryz.prog 99 [AG (ZC d)] { v := V1 (sB s) } := by
 refine eJ (fn := Tryz.f99) bF Tryz.func99 (by kernel_rfl) rfl ?_
 intro w0 X
 rw [aq _ _ [(0, AG (ZC d))] rfl rfl]
 have hw : wof d = [d] := by
  have e : wv [d] = d := by simp [wv]
  rw [<- e, <- gC (wOK.one (by omega))];exact nF (by omega)
 have hz : ZC (d : Int) = IC false [d] := by unfold ZC; rw [Int.natAbs_natCast, hw, decide_eq_false (by omega)]
 have hok : wOK [d] := wOK.one (by omega)
 have hv : wv [d] = d := by simp [wv]
 have cs := pj [d] 1000000000 hok (by decide) (by decide) (by simp)
 rw [hv, Nat.div_eq_of_lt hd, Nat.mod_eq_of_lt hd] at cs
 have ct := ck (aW [d].length 0) (bI _ _) (by simp [aW])
 rw [bU, Nat.zero_mod] at ct
 have c0 := ck [d] hok (by simp)
 rw [hv, hw] at c0;rw [hz];refine ax bF fun _ Z9=>?_;refine aB rfl rfl rfl rfl rfl rfl ?_;refine Z7 ?_;refine eQ Z9 ?_;clear Z9;refine ax bF fun _ Z9=>?_;refine Z4 ?_;refine Z6 ?_;refine ab rfl rfl (c0) rfl rfl rfl rfl ?_;refine ab rfl rfl (jH [d] (by simp)) rfl rfl rfl rfl ?_;refine Z7 ?_;refine eQ Z9 ?_;clear Z9;refine ah ?_;refine ax bF fun _ Z9=>?_;refine Z8 ?_;refine ay rfl (aP rfl rfl rfl) rfl ?_;refine Z5 ?_;refine eQ Z9 ?_;clear Z9;refine ap rfl (fun hc => by cases hc) (fun _ => ?_);refine aj ?_;show AWP _ _ _ _ _ _;refine ax bF fun _ Z9=>?_;refine Z7 ?_;refine eQ Z9 ?_;clear Z9;refine ah ?_;refine ar (aN (α := Nat) (fun i => mk 49 [(1, .ptr 1 0), (3, V1 (dW ([d].drop i))), (4, dK 4 1 i)] [(1, some (.box (IC false [d]))), (4, gf 1 [[sB s]] i)] []) (fun i => i <= 1) (fun i => 1 - i) 0 ?_ (Nat.zero_le _) ?_)
 ·exact Wk.mk' ⟨rfl, rfl, rfl, trivial⟩ ⟨rfl, rfl, trivial⟩
 intro i hi
 refine ah ?_
 rcases i with _ | i
 ·refine ax bF fun _ Z9=>?_;refine Z8 ?_;refine ay rfl (aP rfl rfl rfl) rfl ?_;refine Z5 ?_;refine eQ Z9 ?_;clear Z9;refine ap rfl (fun _ => ?_) (fun hc => by cases hc);refine aj ?_;show AWP _ _ _ _ _ _;refine ar ?_;refine ax bF fun _ Z9=>?_;refine Z7 ?_;refine eQ Z9 ?_;clear Z9;refine ax bF fun _ Z9=>?_;refine Z8 ?_;refine ab rfl rfl (cs) rfl rfl rfl rfl ?_;refine Z8 ?_;refine au rfl rfl rfl ?_;refine au rfl rfl rfl ?_;refine Z7 ?_;refine Z7 ?_;refine eQ Z9 ?_;clear Z9;refine ax bF fun _ Z9=>?_;refine Z8 ?_;refine ab rfl rfl (ct) rfl rfl rfl rfl ?_;refine Z7 ?_;refine eQ Z9 ?_;clear Z9;refine ax bF fun _ Z9=>?_;refine Z8 ?_;refine aQ rfl (aR rfl rfl rfl (by show IntKind.u64.wrap (d : Int) = (d : Int); rw [oh]; omega)) rfl ?_;refine ab rfl rfl (cf) rfl rfl rfl rfl ?_;refine Z7 ?_;refine eQ Z9 ?_;clear Z9;refine ah ?_;refine ax bF fun _ Z9=>?_;refine Z8 ?_;refine ay rfl (aP rfl rfl rfl) rfl ?_;refine Z5 ?_;refine eQ Z9 ?_;clear Z9;refine ap rfl (fun hc => by cases hc) (fun _ => ?_);refine aj ?_;show AWP _ _ _ _ _ _;refine jL bF fun _ Z9=>?_;refine Z8 ?_;refine Z8 ?_;refine dp rfl rfl rfl rfl ?_;refine bK rfl (oc rfl rfl rfl rfl rfl (by decide) (Nat.le_of_ble_eq_true rfl) rfl (by simp) rfl (by simp) (by simp)) rfl rfl rfl ?_;refine Z7 ?_;refine eQ Z9 ?_;clear Z9;refine ⟨1, by omega, by omega, Wk.rn [1, 3, 4] [1, 39] 39 4 rfl rfl rfl ⟨rfl, rfl, rfl, trivial⟩ ⟨rfl, rfl, trivial⟩⟩
 ·obtain rfl : i = 0 := by omega
  refine ax bF fun _ Z9=>?_;refine Z8 ?_;refine ay rfl (aP rfl rfl rfl) rfl ?_;refine Z5 ?_;refine eQ Z9 ?_;clear Z9;refine ap rfl (fun hc => by cases hc) (fun _ => ?_);refine az ?_;show AWP _ _ _ _ _ _;refine ah ?_;refine ax bF fun _ Z9=>?_;refine Z4 ?_;refine Z6 ?_;refine eQ Z9 ?_;clear Z9;refine ap rfl (fun hc => by cases hc) (fun _ => ?_);refine aj ?_;show AWP _ _ _ _ _ _;refine eL [4] [4] 4 [(4, V1 (.sl [[sB s]]))] [] rfl ?_ trivial ?_
  ·exact ⟨cD rfl rfl, trivial⟩
  refine ax bF fun _ Z9=>?_;refine Z8 ?_;refine ab rfl rfl (zp (sB s)) rfl rfl rfl rfl ?_;refine eQ Z9 ?_;clear Z9;refine ax bF fun _ Z9=>?_;refine Z8 ?_;refine ab rfl rfl (xm _ _) rfl rfl rfl rfl ?_;refine Z7 ?_;refine eQ Z9 ?_;clear Z9;exact ai aE
theorem zQ (a : RW) (d : Nat) (s : List UInt8) (ok : a.OK 16777216) (hv : a.v = (d : Rat)) (h0 : 0 < d) (hd : d < 1000000000) (cf : Con Tryz.prog 137 [dL d, dI 10] { v := V1 (sB s) }) : Con Tryz.prog 55 [AG a.cs] { v := V1 (sB s) } := by
 have c1 := pu a ok
 have h1 := ok.ql rfl
 have hn : a.v.num = (d : Int) := by rw [hv]; rfl
 have hD : a.v.den = 1 := by rw [hv]; rfl
 generalize a.v = x at *
 have c2 := zS (x.den : Int) (aM (bw h1) rfl)
 have c3 := Ao d s h0 hd cf
 rw [<- hn] at c3;refine Z2 Tryz.func55 ?_
 intro w0 X
 rw [aq _ _ [(0, AG a.cs)] rfl rfl];refine gQ fun _ Z9=>?_;refine aB rfl rfl rfl rfl rfl rfl ?_;refine Z7 ?_;refine eQ Z9 ?_;clear Z9;refine gQ fun _ Z9=>?_;refine Z6 ?_;refine ab rfl rfl (c1) rfl rfl rfl rfl ?_;refine ak rfl rfl rfl rfl rfl ?_;refine eQ Z9 ?_;clear Z9;refine ah ?_;refine gQ fun _ Z9=>?_;refine Z4 ?_;refine Z6 ?_;refine ab rfl rfl (c2) rfl rfl rfl rfl ?_;refine eQ Z9 ?_;clear Z9;refine ap rfl (fun hc => ?_) (fun hc => ?_)
 ·refine gQ fun _ Z9=>?_;refine Z4 ?_;refine Z6 ?_;refine ab rfl rfl (c3) rfl rfl rfl rfl ?_;refine Z7 ?_;refine eQ Z9 ?_;clear Z9;exact ai aE
 ·exact absurd (of_decide_eq_false hc) (by omega)
theorem yk : Con Tryz.prog 163 [dL 100, dI 10] { v := V1 (sB [49, 48, 48]) } := by
 refine ⟨⟨_, Tryz.func163, by kernel_rfl, rfl⟩, fun w X μ vs hL hX hl ha => ?_⟩
 obtain ⟨v0, e0, r0⟩ := ha 0 _ rfl
 obtain ⟨v1, e1, r1⟩ := ha 1 _ rfl
 obtain ⟨u0, u1, rfl⟩ : ∃ u0 u1, vs = [u0, u1] := by
  match vs, hl with
  | [u0, u1], _ => exact ⟨u0, u1, rfl⟩
 have r0 : RdC w X u0 (.lit (.int .u64 (100 : Nat))) := by cases e0; exact r0
 have r1 : RdC w X u1 (.lit (.int .i64 10)) := by cases e1; exact r1
 obtain rfl : u0 = .int .u64 (100 : Nat) := by cases r0; rfl
 obtain rfl : u1 = .int .i64 10 := by cases r1; rfl
 refine (Aw 100 (by decide) (by decide) w (B7 hL (by unfold ig; first | exact .head _ | exact .tail _ (.head _) | exact .tail _ (.tail _ (.head _))) (by kernel_rfl))).mono ?_
 rintro e w' ⟨he, k, os, rfl⟩
 rw [show Lib.decDigits 100 = [49, 48, 48] by decide +kernel] at he;exact ⟨_, he, Lib.below_grow _ w (Nat.le_refl _) k os, 0, fun _ _ h => (by cases h), RdC.lit rfl⟩
theorem Ax : Con Tryz.prog 137 [dL 100, dI 10] { v := V1 (sB [49, 48, 48]) } := by
 show Con _ _ _ _
 refine Z2 Tryz.func137 ?_
 intro w0 X
 rw [aq _ _ [(0, dL 100), (1, dI 10)] rfl rfl];refine gQ fun _ Z9=>?_;refine Z7 ?_;refine eQ Z9 ?_;clear Z9;refine gQ fun _ Z9=>?_;refine Z8 ?_;refine Z8 ?_;refine ab rfl rfl (yk) rfl rfl rfl rfl ?_;refine Z7 ?_;refine eQ Z9 ?_;clear Z9;exact ai aE

def gA3 : GR := ⟨[q8, q8], [⟨0, 1, 100, 0, 1⟩]⟩
def sA3 : List SP := [szW 0 0, szW 100 0]
def lA3 : List LK := [⟨0, 1, 97, 0, 1⟩, ⟨0, 1, 99, 1, 1⟩, ⟨0, 1, 110, 0, 1⟩]
theorem D4 {T : Tab} {t : TypeId} (a : ByteArray) : aH T .neq t (V1 (.lit (.string a))) (V1 (.lit (.string a))) = .set (dB false) := by
 show Eff.set (dB (!(a.toList == a.toList))) = _
 rw [beq_self_eq_true]; rfl
theorem aW1 : iz gA3 = (sA3, 0) := by decide +kernel
theorem aW2 : eW gA3 sA3 ⟨0, 1, 97, 0, 1⟩ = (szW 3 0, 0) := by decide +kernel
theorem aW3 : nH gA3 sA3 lA3 1 = ([0, 1], 0) := by decide +kernel
theorem aW4 : eu [szW 3 0] 0 = (szW 3 0, true) := by decide +kernel
theorem jn {k : Nat} : q8.OK k := ⟨fun x hx => (List.not_mem_nil hx).elim, fun x hx => (List.not_mem_nil hx).elim, Nat.zero_le _, Nat.zero_le _⟩
theorem vX : ∀ r ∈ gA3.nodes, r.OK 4096 := by
 intro r hr
 have : r = q8 := by
  simp only [gA3, List.mem_cons, List.not_mem_nil, or_false, or_self] at hr; exact hr
 rw [this]; exact jn
theorem zd : ∀ p ∈ sA3, p.OK 4096 := by
 intro p hp
 simp only [sA3, List.mem_cons, List.not_mem_nil, or_false] at hp
 rcases hp with rfl | rfl
 ·exact eM (by decide +kernel) (by decide +kernel)
 ·exact eM (by decide +kernel) (by decide +kernel)
set_option maxHeartbeats 1000000 in
theorem cu : Con Tryz.prog 15 [] { v := dB true } := by
 have cR := tv gA3 vX
 have cO := wo gA3 sA3 ⟨0, 1, 97, 0, 1⟩ vX zd
 have cS := A1 gA3 sA3 lA3 1 vX zd
 have cC := wt [szW 3 0] 0 (fun p hp => by rw [List.mem_singleton.1 hp]; exact eM (by decide +kernel) (by decide +kernel)) (by decide)
 have cI := xE [0, 1] [0, 1] (by decide)
 rw [aW1] at cR;rw [aW2] at cO;rw [aW3] at cS;rw [aW4] at cC
 have t1 := zQ (qzW 100) 100 [49, 48, 48] (bj (by decide +kernel)) (by rw [bB]; rfl) (by decide) (by decide) Ax
 have t2 := B4 (qzW 3) (bj (by decide +kernel)) (by rw [bB]; decide +kernel) (by rw [bB]; decide +kernel)
 rw [bB, show qtx (3 : Rat) = [51] by decide +kernel] at t2
 have eS : sA3 = [⟨qzW 0, qzW 0⟩, ⟨qzW 100, qzW 0⟩] := rfl
 have eP : szW 3 0 = ⟨qzW 3, qzW 0⟩ := rfl
 rw [eS] at cR cO cS;rw [eP] at cO cC;generalize qzW (100 : Rat) = A at *;generalize qzW (3 : Rat) = B at *;generalize qzW (0 : Rat) = Z at *;refine Z2 Tryz.func15 ?_
 intro w0 X
 rw [aq _ _ [] rfl rfl];refine gQ fun _ Z9=>?_;refine Z7 ?_;refine eQ Z9 ?_;clear Z9;refine gQ fun _ Z9=>?_;refine bn (sz := _) (es := _) (f := _) (v := _) rfl (yd (l := 2) rfl rfl rfl rfl rfl (Nat.le_of_ble_eq_true rfl) (by decide) rfl rfl (by omega)) rfl rfl ?_;refine aG rfl rfl rfl ?_;refine aI rfl rfl rfl rfl ?_;refine aG rfl rfl rfl ?_;refine av rfl rfl rfl rfl rfl rfl ?_;refine tT rfl rfl rfl rfl rfl ?_;refine eQ Z9 ?_;clear Z9;refine eL [1] [1, 11, 13] 11 [(1, .ptr 1 0)] [(1, some (.box [.d (dRs [q8, q8]), .own 13 5 0 1])), (13, some (.arr 5 [(LK.mk 0 1 100 0 1).dc]))] rfl ⟨rfl, trivial⟩ ⟨rfl, rfl, trivial⟩ ?_;refine eL [1] [1, 13] 13 [(1, .ptr 1 0)] [(1, some (.box gA3.cs))] rfl ⟨rfl, trivial⟩ ⟨rfl, trivial⟩ ?_;refine gQ fun _ Z9=>?_;refine Z6 ?_;refine ab rfl rfl (cR) rfl rfl rfl rfl ?_;refine Z8 ?_;refine au rfl rfl rfl ?_;refine au rfl rfl rfl ?_;refine Z7 ?_;refine Z7 ?_;refine eQ Z9 ?_;clear Z9;refine ah ?_;refine gQ fun _ Z9=>?_;refine Z8 ?_;refine Z5 ?_;refine Z8 ?_;refine Z8 ?_;refine ay rfl (aL SP.dc rfl rfl) rfl ?_;refine am rfl (lF (c := false) rfl) rfl ?_;refine Z3 ?_;refine Z8 ?_;refine Z8 ?_;refine ac rfl (x_m SP.dc (i := 1) rfl rfl rfl rfl (by simp) rfl) rfl ?_;refine Z4 ?_;refine Z6 ?_;refine ab rfl rfl (t1) rfl rfl rfl rfl ?_;refine am rfl (D4 _) rfl ?_;refine Z3 ?_;refine eQ Z9 ?_;clear Z9;refine ap rfl (fun h => by cases h) (fun _ => ?_);refine aj ?_;show AWP _ _ _ _ _ _;refine gQ fun _ Z9=>?_;refine aG rfl rfl rfl ?_;refine aG rfl rfl rfl ?_;refine aG rfl rfl rfl ?_;refine aI rfl rfl rfl rfl ?_;refine Z7 ?_;refine eQ Z9 ?_;clear Z9;refine eL [1, 2, 4] [1, 38] 38 [(1, .ptr 1 0), (2, V1 (dSs [⟨Z, Z⟩, ⟨A, Z⟩])), (4, V1 (dLs lA3))] [(1, some (.box gA3.cs))] rfl ?_ ⟨rfl, trivial⟩ ?_
 ·exact ⟨rfl, rfl, cD rfl rfl, trivial⟩
 refine aA tok mixed (A := [[], [], [], [], [2], [2, 3], [0, 1, 2, 3, 4], [0, 1, 2, 3, 4, 5], [0, 1, 2, 3, 4, 5], [], [], []]) (an := [{}, {}, {}, {}, {}, {}, {}, {}, {}, { c := [45] }, {}, {}]) rfl (by kernel_rfl) rfl fun _ Z9=>?_;refine Z6 ?_;refine Z8 ?_;refine Z8 ?_;refine ac rfl (x_m LK.dc (i := 0) (l := lA3) rfl rfl rfl rfl (by decide) rfl) rfl ?_;refine Z6 ?_;refine ab rfl rfl (cO) rfl rfl rfl rfl ?_;refine Z8 ?_;refine au rfl rfl rfl ?_;refine au rfl rfl rfl ?_;refine av rfl rfl rfl rfl rfl rfl ?_;refine ak rfl rfl rfl rfl rfl ?_;refine Z7 ?_;refine eQ Z9 ?_;clear Z9;refine gQ fun _ Z9=>?_;refine Z6 ?_;refine Z8 ?_;refine Z8 ?_;refine ab rfl rfl (cS) rfl rfl rfl rfl ?_;refine Z8 ?_;refine au rfl rfl rfl ?_;refine au rfl rfl rfl ?_;refine Z7 ?_;refine Z7 ?_;refine eQ Z9 ?_;clear Z9;refine ax bF fun _ Z9=>?_;refine Z6 ?_;refine dp rfl rfl rfl rfl ?_;refine ab rfl rfl (cC) rfl rfl rfl rfl ?_;refine Z8 ?_;refine au rfl rfl rfl ?_;refine au rfl rfl rfl ?_;refine av rfl rfl rfl rfl rfl rfl ?_;refine ak rfl rfl rfl rfl rfl ?_;refine Z7 ?_;refine eQ Z9 ?_;clear Z9;refine ax bF fun _ Z9=>?_;refine Z8 ?_;refine Z5 ?_;refine Z8 ?_;refine Z4 ?_;refine Z6 ?_;refine ab rfl rfl (t2) rfl rfl rfl rfl ?_;refine am rfl (AM _) rfl ?_;refine Z3 ?_;refine Z8 ?_;refine Z8 ?_;refine Z5 ?_;refine Z3 ?_;refine Z8 ?_;refine Z8 ?_;refine dp rfl rfl rfl rfl ?_;refine ab rfl rfl (cI) rfl rfl rfl rfl ?_;refine Z3 ?_;refine Z8 ?_;refine Z8 ?_;refine Z3 ?_;refine Z8 ?_;refine Z4 ?_;refine Z6 ?_;refine ab rfl rfl (t2) rfl rfl rfl rfl ?_;refine am rfl (AM _) rfl ?_;refine Z3 ?_;refine Z7 ?_;refine eQ Z9 ?_;clear Z9;exact ai aE
end Go.Proofs.YtnoildlijhapaaaGreatDoor

/- law30: Reckons, Offsets, Selects, Common. No condition. -/
namespace Go.Proofs.YtnoildlijhapaaaGreatDoor
attribute [local irreducible] aC
open Go.RowKit

theorem xT {g : GR} (ok : ∀ r ∈ g.nodes, r.OK 2) : (∀ p ∈ (iz g).1, p.small) /\ (iz g).1.length <= g.nodes.length := by
 unfold iz
 split
 ·rename_i hv
  split
  ·exact ⟨fun p hp => (zk (b8.1 hv) ok rfl p hp).sm rfl, by rw [jo]; exact Nat.le_refl _⟩
  ·exact ⟨fun p hp => (List.not_mem_nil hp).elim, Nat.zero_le _⟩
 ·exact ⟨fun p hp => (List.not_mem_nil hp).elim, Nat.zero_le _⟩
set_option maxHeartbeats 1000000 in
theorem vP (g : GR) (hg : ∀ r ∈ g.nodes, r.W) : Con Tryz.prog 3 [AG g.cs] { v := dB true } := by
 refine Z2 Tryz.func3 ?_
 intro w0 X
 rw [aq _ _ [(0, AG g.cs)] rfl rfl];refine gQ fun _ Z9=>?_;refine aB rfl rfl rfl rfl rfl rfl ?_;refine Z7 ?_;refine eQ Z9 ?_;clear Z9;refine ah ?_;refine aO (α := Bool) (fun c => mk 33 [(1, .ptr 1 0), (13, dB c)] [(1, some (.box g.cs))] []) (fun c => c = !(m9 g)) ?_ ?_
 ·refine bL fun _ Z9=>?_;refine aa tok rfl ?_;refine ab rfl rfl (cu) rfl rfl rfl rfl ?_;refine ae ?_;refine aa tok rfl ?_;refine bd rfl rfl rfl ?_;refine ae ?_;refine aa tok rfl ?_;refine Z8 ?_;refine ae ?_;refine aU (fun h0 => ?_) (fun h0 => ?_)
  ·refine al rfl rfl ?_;refine al rfl rfl ?_;refine al rfl rfl ?_;refine aa tok rfl ?_;refine Z3 ?_;refine ae ?_;refine aS rfl (Z9 _ ?_); clear Z9
   first|(exact absurd h0 (by decide))|exact ⟨_, (by simp only [Bool.not_eq_true', Bool.not_eq_false'] at h0; simp only [h0, Bool.false_and, Bool.true_and, Bool.not_false, Bool.not_true]), Wk.mk' ⟨rfl, rfl, trivial⟩ ⟨rfl, trivial⟩⟩
  ·refine aa tok rfl ?_;refine Z6 ?_;refine ae ?_;refine aa tok rfl ?_;refine ab rfl rfl (pI g) rfl rfl rfl rfl ?_;refine ae ?_;refine aa tok rfl ?_;refine bd rfl rfl rfl ?_;refine ae ?_;refine aa tok rfl ?_;refine Z3 ?_;refine ae ?_;refine aS rfl (Z9 _ ?_); clear Z9
   first|(exact absurd h0 (by decide))|exact ⟨_, (by simp only [Bool.not_eq_true', Bool.not_eq_false'] at h0; simp only [h0, Bool.false_and, Bool.true_and, Bool.not_false, Bool.not_true]), Wk.mk' ⟨rfl, rfl, trivial⟩ ⟨rfl, trivial⟩⟩
 rintro c rfl
 refine ap rfl (fun hc => ?_) (fun hc => ?_)
 ·refine gQ fun _ Z9=>?_;refine ab rfl rfl (cu) rfl rfl rfl rfl ?_;refine Z7 ?_;refine eQ Z9 ?_;clear Z9;exact ai aE
 rw [Bool.not_eq_false'] at hc
 obtain ⟨ok2, hgl, hgn, _⟩ := m8 hg hc
 have ok : ∀ r ∈ g.nodes, r.OK 4096 := fun r hr => (ok2 r hr).mono rfl
 have cR := tv g ok
 have cF := BP g ok (by omega)
 obtain ⟨s1, s2⟩ := xT ok2
 have cB := uY (iz g).1 (by omega) s1
 refine aj ?_;show AWP _ _ _ _ _ _;generalize (iz g).1 = s at *;generalize (iz g).2 = e at *;refine gQ fun _ Z9=>?_;refine Z6 ?_;refine ab rfl rfl (cR) rfl rfl rfl rfl ?_;refine Z8 ?_;refine au rfl rfl rfl ?_;refine au rfl rfl rfl ?_;refine Z7 ?_;refine Z7 ?_;refine eQ Z9 ?_;clear Z9;refine gQ fun _ Z9=>?_;refine Z6 ?_;refine ab rfl rfl (cF) rfl rfl rfl rfl ?_;refine Z8 ?_;refine au rfl rfl rfl ?_;refine au rfl rfl rfl ?_;refine Z7 ?_;refine Z7 ?_;refine eQ Z9 ?_;clear Z9;refine gQ fun _ Z9=>?_;refine Z8 ?_;refine Z8 ?_;refine am rfl (rW rfl) rfl ?_;refine Z8 ?_;refine Z8 ?_;refine Z8 ?_;refine ab rfl rfl (cB) rfl rfl rfl rfl ?_;refine Z3 ?_;refine Z7 ?_;refine eQ Z9 ?_;clear Z9;exact ai aE
theorem Ca (g : GR) (s : List SP) (l : LK) (ok : ∀ r ∈ g.nodes, r.OK 4096) (os : ∀ p ∈ s, p.OK 4096) : (eW g s l).1.OK 262144 := by
 unfold eW
 split
 ·rename_i h
  rw [Bool.and_eq_true] at h
  have gs := eI.1 h.1
  have lv : gN g.nodes.length l = true := by rw [<- kk gs.gv]; exact h.2
  exact xb gs (cK.1 lv) ok os rfl (by decide)
 ·exact ⟨jn, jn⟩
set_option maxHeartbeats 1000000 in
theorem vQ (g : GR) (s : List SP) (l : LK) (hg : ∀ r ∈ g.nodes, r.W) (hs : ∀ p ∈ s, p.W) (hl : s.length <= 9223372036854775807) : Con Tryz.prog 4 [AG g.cs, V1 (dSs s), AG l.cs] { v := dB true } := by
 refine Z2 Tryz.func4 ?_
 intro w0 X
 rw [aq _ _ [(0, AG g.cs), (1, V1 (dSs s)), (2, AG l.cs)] rfl rfl];refine gQ fun _ Z9=>?_;refine aB rfl rfl rfl rfl rfl rfl ?_;refine aB rfl rfl rfl rfl rfl rfl ?_;refine Z7 ?_;refine eQ Z9 ?_;clear Z9;refine ah ?_;refine aO (α := Bool) (fun c => mk 55 [(1, V1 (dSs s)), (3, .ptr 3 0), (5, .ptr 5 0), (22, dB c)] [(3, some (.box g.cs)), (5, some (.box l.cs))] []) (fun c => c = !(m9 g && su s)) ?_ ?_
 ·refine bL fun _ Z9=>?_;refine aa tok rfl ?_;refine ab rfl rfl (cu) rfl rfl rfl rfl ?_;refine ae ?_;refine aa tok rfl ?_;refine bd rfl rfl rfl ?_;refine ae ?_;refine aa tok rfl ?_;refine Z8 ?_;refine ae ?_;refine aU (fun h0 => ?_) (fun h0 => ?_)
  ·refine al rfl rfl ?_;refine al rfl rfl ?_;refine al rfl rfl ?_;refine aa tok rfl ?_;refine Z3 ?_;refine ae ?_;refine aa tok rfl ?_;refine Z8 ?_;refine ae ?_;refine al rfl rfl ?_;refine al rfl rfl ?_;refine al rfl rfl ?_;refine aa tok rfl ?_;refine Z3 ?_;refine ae ?_;refine aS rfl (Z9 _ ?_); clear Z9
   first|(exact absurd h0 (by decide))|exact ⟨_, (by simp only [Bool.not_eq_true', Bool.not_eq_false'] at h0; simp only [h0, Bool.false_and, Bool.true_and, Bool.not_false, Bool.not_true]), Wk.mk' ⟨rfl, rfl, rfl, rfl, trivial⟩ ⟨rfl, rfl, trivial⟩⟩
  ·refine aa tok rfl ?_;refine Z6 ?_;refine ae ?_;refine aa tok rfl ?_;refine ab rfl rfl (pI g) rfl rfl rfl rfl ?_;refine ae ?_;refine aa tok rfl ?_;refine bd rfl rfl rfl ?_;refine ae ?_;refine aa tok rfl ?_;refine Z3 ?_;refine ae ?_;refine aa tok rfl ?_;refine Z8 ?_;refine ae ?_;refine aU (fun h1 => ?_) (fun h1 => ?_)
   ·refine al rfl rfl ?_;refine al rfl rfl ?_;refine al rfl rfl ?_;refine aa tok rfl ?_;refine Z3 ?_;refine ae ?_;refine aS rfl (Z9 _ ?_); clear Z9
    first|(exact absurd h0 (by decide))|exact ⟨_, (by simp only [Bool.not_eq_true', Bool.not_eq_false'] at h0 h1; simp only [h0, h1, Bool.false_and, Bool.true_and, Bool.not_false, Bool.not_true]), Wk.mk' ⟨rfl, rfl, rfl, rfl, trivial⟩ ⟨rfl, rfl, trivial⟩⟩
   ·refine aa tok rfl ?_;refine Z8 ?_;refine ae ?_;refine aa tok rfl ?_;refine ab rfl rfl (ss s hl) rfl rfl rfl rfl ?_;refine ae ?_;refine aa tok rfl ?_;refine bd rfl rfl rfl ?_;refine ae ?_;refine aa tok rfl ?_;refine Z3 ?_;refine ae ?_;refine aS rfl (Z9 _ ?_); clear Z9
    first|(exact absurd h0 (by decide))|exact ⟨_, (by simp only [Bool.not_eq_true', Bool.not_eq_false'] at h0 h1; simp only [h0, h1, Bool.false_and, Bool.true_and, Bool.not_false, Bool.not_true]), Wk.mk' ⟨rfl, rfl, rfl, rfl, trivial⟩ ⟨rfl, rfl, trivial⟩⟩
 rintro c rfl
 refine ap rfl (fun hc => ?_) (fun hc => ?_)
 ·refine gQ fun _ Z9=>?_;refine ab rfl rfl (cu) rfl rfl rfl rfl ?_;refine Z7 ?_;refine eQ Z9 ?_;clear Z9;exact ai aE
 rw [Bool.not_eq_false', Bool.and_eq_true] at hc
 obtain ⟨hf, hsh⟩ := hc
 obtain ⟨ok2, hgl, hgn, _⟩ := m8 hg hf
 obtain ⟨os2, _⟩ := pk hs hsh
 have ok : ∀ r ∈ g.nodes, r.OK 4096 := fun r hr => (ok2 r hr).mono rfl
 have os : ∀ p ∈ s, p.OK 4096 := fun p hp => (os2 p hp).mono rfl
 have cO := wo g s l ok os
 have cF := zD g s l ok os (by omega)
 have oo := Ca g s l ok os
 have cX := jq (eW g s l).1.x oo.x rfl
 have cY := jq (eW g s l).1.y oo.y rfl
 refine aj ?_;show AWP _ _ _ _ _ _;generalize (eW g s l).1 = p at *;generalize (eW g s l).2 = e at *;refine gQ fun _ Z9=>?_;refine Z6 ?_;refine Z8 ?_;refine Z6 ?_;refine ab rfl rfl (cO) rfl rfl rfl rfl ?_;refine Z8 ?_;refine au rfl rfl rfl ?_;refine au rfl rfl rfl ?_;refine av rfl rfl rfl rfl rfl rfl ?_;refine ak rfl rfl rfl rfl rfl ?_;refine Z7 ?_;refine eQ Z9 ?_;clear Z9;refine gQ fun _ Z9=>?_;refine Z6 ?_;refine Z8 ?_;refine Z6 ?_;refine ab rfl rfl (cF) rfl rfl rfl rfl ?_;refine Z8 ?_;refine au rfl rfl rfl ?_;refine au rfl rfl rfl ?_;refine av rfl rfl rfl rfl rfl rfl ?_;refine ak rfl rfl rfl rfl rfl ?_;refine Z7 ?_;refine eQ Z9 ?_;clear Z9;refine gQ fun _ Z9=>?_;refine Z8 ?_;refine Z8 ?_;refine am rfl (rW rfl) rfl ?_;refine Z8 ?_;refine Z4 ?_;refine Z6 ?_;refine Z4 ?_;refine Z6 ?_;refine ab rfl rfl (cX) rfl rfl rfl rfl ?_;refine Z3 ?_;refine Z8 ?_;refine Z4 ?_;refine Z6 ?_;refine Z4 ?_;refine Z6 ?_;refine ab rfl rfl (cY) rfl rfl rfl rfl ?_;refine Z3 ?_;refine Z7 ?_;refine eQ Z9 ?_;clear Z9;exact ai aE
theorem B8 {g : GR} {s : List SP} {ls : List LK} {t : Int} : (d5 g s ls t).1.length <= 1048576 := by
 unfold d5
 split
 ·exact Nat.zero_le _
 ·split
  ·exact Nat.zero_le _
  ·split
   ·exact Nat.zero_le _
   ·split
    ·exact Nat.le_trans (kI _ _ _) (Nat.le_trans (Nat.mul_le_mul (show ls.length <= 16 by omega) (show ls.length <= 16 by omega)) (by decide))
    ·exact Nat.zero_le _
theorem BI {g : GR} {s : List SP} {ls : List LK} {t : Int} : (nH g s ls t).1.length <= ls.length := by
 unfold nH
 split
 ·have := (DM (A := iB (d5 g s ls t).1) ls.length).1.length_le
  rw [List.length_range] at this; exact this
 ·exact Nat.zero_le _
theorem z8 {p : RW} {r : List RW} (hp : p.OK 262144) (hr : ∀ x ∈ r, x.OK 262144) : ql (dM (loR p r) (hiR p r)) <= 1048576 := by
 have q := b7 ((s4 hp hr).ql rfl) ((s9 hp hr).ql rfl)
 have := bT q pG
 exact Nat.le_trans this (by decide)
theorem AV {l : List SP} (os : ∀ p ∈ l, p.OK 262144) (t : Int) : (eu l t).1.OK 1048576 := by
 cases l with
 | nil => exact ⟨jn, jn⟩
 | cons p r =>
  have hp := os p List.mem_cons_self
  have hr : ∀ x ∈ r.map SP.x, x.OK 262144 := fun x hx => by obtain ⟨y, hy, rfl⟩ := List.mem_map.1 hx; exact (os y (List.mem_cons_of_mem _ hy)).x
  have hr' : ∀ x ∈ r.map SP.y, x.OK 262144 := fun x hx => by obtain ⟨y, hy, rfl⟩ := List.mem_map.1 hx; exact (os y (List.mem_cons_of_mem _ hy)).y
  unfold eu
  simp only
  split
  ·exact eM (z8 hp.x hr) (z8 hp.y hr')
  ·exact ⟨jn, jn⟩
theorem D0 : Ek Tryz.prog 71 2 := by
 have hf : (Tryz.prog.fieldsOf 71).toList.map (fun f => (f.name == "_", f.type, f.offset)) = [(false, 3, 0), (false, 3, 1)] := by kernel_rfl
 refine Cu (t := 3) (by kernel_rfl) (by kernel_rfl) (by kernel_rfl) (by kernel_rfl) ?_ (by kernel_rfl);rw [hf];exact ⟨rfl, rfl, trivial⟩
theorem D5 {T : Tab} {t : TypeId} {a : Nat × Nat} (h : T.eqs t = some 2) : aH T .neq t (AG [.d (lI a.1), .d (lI a.2)]) (AG [.d (lI a.1), .d (lI a.2)]) = .set (dB false) := by
 simp only [aH, b6, uJ, h, qq, a7]
 simp
def CU : Tab := { tab with eqs := fun t => if Nat.beq t 71 then some 2 else none }
theorem aT : TOK Tryz.prog CU := by
 refine ⟨tok.ty, tok.clo, fun t n h => ?_⟩;simp only [CU] at h
 split at h
 ·rename_i ht
  cases h
  rw [Nat.eq_of_beq_eq_true ht]; exact D0
 ·cases h
theorem vz (a : List (Nat × Nat)) (la : a.length <= 1048576) : Con Tryz.prog 28 [V1 (.sl (a.map prD)), V1 (.sl (a.map prD))] { v := dB true } := by
 refine eJ (fn := Tryz.f28) aT Tryz.func28 (by kernel_rfl) rfl ?_
 intro w0 X
 rw [aq _ _ [(0, V1 (.sl (a.map prD))), (1, V1 (.sl (a.map prD)))] rfl rfl];refine ax aT fun _ Z9=>?_;refine Z7 ?_;refine eQ Z9 ?_;clear Z9;refine ah ?_;refine ax aT fun _ Z9=>?_;refine Z8 ?_;refine ay rfl (aL prD rfl rfl) rfl ?_;refine Z8 ?_;refine ay rfl (aL prD rfl rfl) rfl ?_;refine am rfl (lF (c := false) (by simp)) rfl ?_;refine eQ Z9 ?_;clear Z9;refine ap rfl (fun h => by cases h) (fun _ => ?_);refine aj ?_;show AWP _ _ _ _ _ _;refine ah ?_;refine ax aT fun _ Z9=>?_;refine Z7 ?_;refine eQ Z9 ?_;clear Z9;refine ar (aN (α := Nat) (fun i => mk 26 [(0, V1 (.sl (a.map prD))), (1, V1 (.sl (a.map prD))), (5, dI i)] [] []) (fun i => i <= a.length) (fun i => a.length - i) 0 ?_ (Nat.zero_le _) ?_)
 ·exact Wk.mk' ⟨rfl, rfl, rfl, trivial⟩ trivial
 intro i hi
 refine ah ?_;refine ax aT fun _ Z9=>?_;refine Z8 ?_;refine Z8 ?_;refine ay rfl (aL prD rfl rfl) rfl ?_;refine Z5 ?_;refine eQ Z9 ?_;clear Z9;refine ap rfl (fun hg => ?_) (fun hg => ?_)
 ·have hg : i < a.length := by simp at hg; omega
  refine aj ?_;show AWP _ _ _ _ _ _;refine ah ?_;refine ar ?_;refine aA aT mixed (A := [[], [], [], [0, 1], [], [], [], [4, 5], [0, 1, 2, 4, 5, 6]]) (an := [{}, {}, {}, {}, {}, {}, {}, {}, {}]) rfl (by kernel_rfl) rfl fun _ Z9=>?_;refine Z8 ?_;refine Z8 ?_;refine ac rfl (x_m prD rfl rfl rfl rfl hg rfl) rfl ?_;refine Z6 ?_;refine Z8 ?_;refine Z8 ?_;refine ac rfl (x_m prD rfl rfl rfl rfl hg rfl) rfl ?_;refine Z6 ?_;refine am rfl (D5 rfl) rfl ?_;refine eQ Z9 ?_;clear Z9;refine ap rfl (fun h => by cases h) (fun _ => ?_);refine aj ?_;show AWP _ _ _ _ _ _;refine jL aT fun _ Z9=>?_;refine Z8 ?_;refine am rfl (aJ (c := ((i + 1 : Nat) : Int)) (by omega) (by omega)) rfl ?_;refine Z7 ?_;refine eQ Z9 ?_;clear Z9;exact ⟨i + 1, by omega, hg, Wk.mk' ⟨rfl, rfl, rfl, trivial⟩ trivial⟩
 ·refine az ?_;show AWP _ _ _ _ _ _;refine ax aT fun _ Z9=>?_;refine Z7 ?_;refine eQ Z9 ?_;clear Z9;exact ai aE
set_option maxHeartbeats 1000000 in
theorem vO (g : GR) (s : List SP) (ls : List LK) (t : Int) (hg : ∀ r ∈ g.nodes, r.W) (hs : ∀ p ∈ s, p.W) (hl : s.length <= 9223372036854775807) (hll : ls.length <= 9223372036854775807) : Con Tryz.prog 5 [AG g.cs, AG [.d (dSs s), .d (dLs ls)], dI t] { v := dB true } := by
 refine eJ (fn := Tryz.f5) aT Tryz.func5 (by kernel_rfl) rfl ?_
 intro w0 X
 rw [aq _ _ [(0, AG g.cs), (1, AG [.d (dSs s), .d (dLs ls)]), (2, dI t)] rfl rfl];refine ax aT fun _ Z9=>?_;refine aB rfl rfl rfl rfl rfl rfl ?_;refine aB rfl rfl rfl rfl rfl rfl ?_;refine Z7 ?_;refine eQ Z9 ?_;clear Z9;refine ah ?_;refine aO (α := Bool) (fun c => mk 99 [(2, dI t), (3, .ptr 3 0), (4, .ptr 4 0), (39, dB c)] [(3, some (.box g.cs)), (4, some (.box [.d (dSs s), .d (dLs ls)]))] []) (fun c => c = !(m9 g && (su s && decide (ls.length <= 9 \/ ls.length = 17)))) ?_ ?_
 ·refine bL fun _ Z9=>?_;refine aa aT rfl ?_;refine ab rfl rfl (cu) rfl rfl rfl rfl ?_;refine ae ?_;refine aa aT rfl ?_;refine bd rfl rfl rfl ?_;refine ae ?_;refine aa aT rfl ?_;refine Z8 ?_;refine ae ?_;refine aU (fun h0 => ?_) (fun h0 => ?_)
  ·refine al rfl rfl ?_;refine al rfl rfl ?_;refine al rfl rfl ?_;refine aa aT rfl ?_;refine Z3 ?_;refine ae ?_;refine aa aT rfl ?_;refine Z8 ?_;refine ae ?_;refine al rfl rfl ?_;refine al rfl rfl ?_;refine al rfl rfl ?_;refine al rfl rfl ?_;refine aa aT rfl ?_;refine Z3 ?_;refine ae ?_;refine aa aT rfl ?_;refine Z8 ?_;refine ae ?_;refine al rfl rfl ?_;refine al rfl rfl ?_;refine al rfl rfl ?_;refine al rfl rfl ?_;refine al rfl rfl ?_;refine bJ rfl rfl rfl ?_;refine bJ rfl rfl rfl ?_;refine bJ rfl rfl rfl ?_;refine bJ rfl rfl rfl ?_;refine al rfl rfl ?_;refine aa aT rfl ?_;refine Z3 ?_;refine ae ?_;refine aS rfl (Z9 _ ?_); clear Z9
   first|(exact absurd h0 (by decide))|exact ⟨_, (by simp only [decide_eq_true_eq, decide_eq_false_iff_not, Bool.not_eq_true', Bool.not_eq_false'] at h0; rw [Bool.eq_iff_iff]; simp only [h0, decide_eq_true_eq, Bool.not_eq_true', Bool.and_eq_false_iff, decide_eq_false_iff_not, reduceCtorEq, false_or, true_or, or_true, false_iff, true_iff, iff_true] <;> omega), Wk.mk' ⟨rfl, rfl, rfl, rfl, trivial⟩ ⟨rfl, rfl, trivial⟩⟩
  ·refine aa aT rfl ?_;refine Z6 ?_;refine ae ?_;refine aa aT rfl ?_;refine ab rfl rfl (pI g) rfl rfl rfl rfl ?_;refine ae ?_;refine aa aT rfl ?_;refine bd rfl rfl rfl ?_;refine ae ?_;refine aa aT rfl ?_;refine Z3 ?_;refine ae ?_;refine aa aT rfl ?_;refine Z8 ?_;refine ae ?_;refine aU (fun h1 => ?_) (fun h1 => ?_)
   ·refine al rfl rfl ?_;refine al rfl rfl ?_;refine al rfl rfl ?_;refine al rfl rfl ?_;refine aa aT rfl ?_;refine Z3 ?_;refine ae ?_;refine aa aT rfl ?_;refine Z8 ?_;refine ae ?_;refine al rfl rfl ?_;refine al rfl rfl ?_;refine al rfl rfl ?_;refine al rfl rfl ?_;refine al rfl rfl ?_;refine bJ rfl rfl rfl ?_;refine bJ rfl rfl rfl ?_;refine bJ rfl rfl rfl ?_;refine bJ rfl rfl rfl ?_;refine al rfl rfl ?_;refine aa aT rfl ?_;refine Z3 ?_;refine ae ?_;refine aS rfl (Z9 _ ?_); clear Z9
    first|(exact absurd h0 (by decide))|exact ⟨_, (by simp only [decide_eq_true_eq, decide_eq_false_iff_not, Bool.not_eq_true', Bool.not_eq_false'] at h0 h1; rw [Bool.eq_iff_iff]; simp only [h0, h1, decide_eq_true_eq, Bool.not_eq_true', Bool.and_eq_false_iff, decide_eq_false_iff_not, reduceCtorEq, false_or, true_or, or_true, false_iff, true_iff, iff_true] <;> omega), Wk.mk' ⟨rfl, rfl, rfl, rfl, trivial⟩ ⟨rfl, rfl, trivial⟩⟩
   ·refine aa aT rfl ?_;refine Z4 ?_;refine ae ?_;refine aa aT rfl ?_;refine Z6 ?_;refine ae ?_;refine aa aT rfl ?_;refine ab rfl rfl (ss s hl) rfl rfl rfl rfl ?_;refine ae ?_;refine aa aT rfl ?_;refine bd rfl rfl rfl ?_;refine ae ?_;refine aa aT rfl ?_;refine Z3 ?_;refine ae ?_;refine aa aT rfl ?_;refine Z8 ?_;refine ae ?_;refine aU (fun h2 => ?_) (fun h2 => ?_)
    ·refine al rfl rfl ?_;refine al rfl rfl ?_;refine al rfl rfl ?_;refine al rfl rfl ?_;refine al rfl rfl ?_;refine bJ rfl rfl rfl ?_;refine bJ rfl rfl rfl ?_;refine bJ rfl rfl rfl ?_;refine bJ rfl rfl rfl ?_;refine al rfl rfl ?_;refine aa aT rfl ?_;refine Z3 ?_;refine ae ?_;refine aS rfl (Z9 _ ?_); clear Z9
     first|(exact absurd h0 (by decide))|exact ⟨_, (by simp only [decide_eq_true_eq, decide_eq_false_iff_not, Bool.not_eq_true', Bool.not_eq_false'] at h0 h1 h2; rw [Bool.eq_iff_iff]; simp only [h0, h1, h2, decide_eq_true_eq, Bool.not_eq_true', Bool.and_eq_false_iff, decide_eq_false_iff_not, reduceCtorEq, false_or, true_or, or_true, false_iff, true_iff, iff_true] <;> omega), Wk.mk' ⟨rfl, rfl, rfl, rfl, trivial⟩ ⟨rfl, rfl, trivial⟩⟩
    ·refine aa aT rfl ?_;refine Z4 ?_;refine ae ?_;refine aa aT rfl ?_;refine Z6 ?_;refine ae ?_;refine aa aT rfl ?_;refine ay rfl (aL LK.dc rfl rfl) rfl ?_;refine ae ?_;refine aa aT rfl ?_;refine am rfl (ko _ 9) rfl ?_;refine ae ?_;refine aa aT rfl ?_;refine Z8 ?_;refine ae ?_;refine aU (fun h3 => ?_) (fun h3 => ?_)
     ·refine aa aT rfl ?_;refine Z4 ?_;refine ae ?_;refine aa aT rfl ?_;refine Z6 ?_;refine ae ?_;refine aa aT rfl ?_;refine ay rfl (aL LK.dc rfl rfl) rfl ?_;refine ae ?_;refine aa aT rfl ?_;refine am rfl (xx _ 17) rfl ?_;refine ae ?_;refine aa aT rfl ?_;refine Z3 ?_;refine ae ?_;refine aa aT rfl ?_;refine Z3 ?_;refine ae ?_;refine aS rfl (Z9 _ ?_); clear Z9
      first|(exact absurd h0 (by decide))|exact ⟨_, (by simp only [decide_eq_true_eq, decide_eq_false_iff_not, Bool.not_eq_true', Bool.not_eq_false'] at h0 h1 h2 h3; rw [Bool.eq_iff_iff]; simp only [h0, h1, h2, h3, decide_eq_true_eq, Bool.not_eq_true', Bool.and_eq_false_iff, decide_eq_false_iff_not, reduceCtorEq, false_or, true_or, or_true, false_iff, true_iff, iff_true] <;> omega), Wk.mk' ⟨rfl, rfl, rfl, rfl, trivial⟩ ⟨rfl, rfl, trivial⟩⟩
     ·refine al rfl rfl ?_;refine al rfl rfl ?_;refine al rfl rfl ?_;refine al rfl rfl ?_;refine aa aT rfl ?_;refine Z3 ?_;refine ae ?_;refine aa aT rfl ?_;refine Z3 ?_;refine ae ?_;refine aS rfl (Z9 _ ?_); clear Z9
      first|(exact absurd h0 (by decide))|exact ⟨_, (by simp only [decide_eq_true_eq, decide_eq_false_iff_not, Bool.not_eq_true', Bool.not_eq_false'] at h0 h1 h2 h3; rw [Bool.eq_iff_iff]; simp only [h0, h1, h2, h3, decide_eq_true_eq, Bool.not_eq_true', Bool.and_eq_false_iff, decide_eq_false_iff_not, reduceCtorEq, false_or, true_or, or_true, false_iff, true_iff, iff_true] <;> omega), Wk.mk' ⟨rfl, rfl, rfl, rfl, trivial⟩ ⟨rfl, rfl, trivial⟩⟩
 rintro c rfl
 refine ap rfl (fun hc => ?_) (fun hc => ?_)
 ·refine ax aT fun _ Z9=>?_;refine ab rfl rfl (cu) rfl rfl rfl rfl ?_;refine Z7 ?_;refine eQ Z9 ?_;clear Z9;exact ai aE
 rw [Bool.not_eq_false', Bool.and_eq_true, Bool.and_eq_true] at hc
 obtain ⟨hf, hsh, hn⟩ := hc
 have hn := of_decide_eq_true hn
 obtain ⟨ok2, hgl, hgn, _⟩ := m8 hg hf
 obtain ⟨os2, _⟩ := pk hs hsh
 have ok : ∀ r ∈ g.nodes, r.OK 4096 := fun r hr => (ok2 r hr).mono rfl
 have os : ∀ p ∈ s, p.OK 4096 := fun p hp => (os2 p hp).mono rfl
 have cP := A2 g s ls t ok os
 have cQ := zB g s ls t ok os (by omega)
 have cS := A1 g s ls t ok os
 have cT := Dt g s ls t ok os (by omega)
 have cB := vz (d5 g s ls t).1 B8
 have cI := xE ((nH g s ls t).1.map fun x : Nat => (x : Int)) ((nH g s ls t).1.map fun x : Nat => (x : Int)) (by rw [List.length_map]; exact Nat.le_trans BI (by omega))
 rw [<- CB, decide_eq_true rfl] at cI;refine aj ?_;show AWP _ _ _ _ _ _;generalize (d5 g s ls t).1 = p at *;generalize (d5 g s ls t).2 = e at *;generalize (nH g s ls t).1 = k at *;generalize (nH g s ls t).2 = f at *;refine ax aT fun _ Z9=>?_;refine Z6 ?_;refine Z4 ?_;refine Z6 ?_;refine Z4 ?_;refine Z6 ?_;refine Z8 ?_;refine ab rfl rfl (cP) rfl rfl rfl rfl ?_;refine Z8 ?_;refine au rfl rfl rfl ?_;refine au rfl rfl rfl ?_;refine Z7 ?_;refine Z7 ?_;refine eQ Z9 ?_;clear Z9;refine ax aT fun _ Z9=>?_;refine Z6 ?_;refine Z4 ?_;refine Z6 ?_;refine Z4 ?_;refine Z6 ?_;refine Z8 ?_;refine ab rfl rfl (cQ) rfl rfl rfl rfl ?_;refine Z8 ?_;refine au rfl rfl rfl ?_;refine au rfl rfl rfl ?_;refine Z7 ?_;refine Z7 ?_;refine eQ Z9 ?_;clear Z9;refine ax aT fun _ Z9=>?_;refine Z6 ?_;refine Z4 ?_;refine Z6 ?_;refine Z4 ?_;refine Z6 ?_;refine Z8 ?_;refine ab rfl rfl (cS) rfl rfl rfl rfl ?_;refine Z8 ?_;refine au rfl rfl rfl ?_;refine au rfl rfl rfl ?_;refine Z7 ?_;refine Z7 ?_;refine eQ Z9 ?_;clear Z9;refine ax aT fun _ Z9=>?_;refine Z6 ?_;refine Z4 ?_;refine Z6 ?_;refine Z4 ?_;refine Z6 ?_;refine Z8 ?_;refine ab rfl rfl (cT) rfl rfl rfl rfl ?_;refine Z8 ?_;refine au rfl rfl rfl ?_;refine au rfl rfl rfl ?_;refine Z7 ?_;refine Z7 ?_;refine eQ Z9 ?_;clear Z9;refine ax aT fun _ Z9=>?_;refine Z8 ?_;refine Z8 ?_;refine am rfl (rW rfl) rfl ?_;refine Z8 ?_;refine Z8 ?_;refine Z8 ?_;refine ab rfl rfl (cB) rfl rfl rfl rfl ?_;refine Z3 ?_;refine Z8 ?_;refine Z8 ?_;refine Z8 ?_;refine am rfl (rW rfl) rfl ?_;refine Z3 ?_;refine Z8 ?_;refine Z8 ?_;refine Z8 ?_;refine ab rfl rfl (cI) rfl rfl rfl rfl ?_;refine Z3 ?_;refine Z7 ?_;refine eQ Z9 ?_;clear Z9;exact ai aE
theorem AJ (a : Bool) : aH tab .neq 4 (dB a) (dB a) = .set (dB false) := by cases a <;> rfl
set_option maxHeartbeats 1000000 in
theorem yf (l : List SP) (t : Int) (hs : ∀ p ∈ l, p.W) (hl : l.length <= 9223372036854775807) : Con Tryz.prog 6 [V1 (dSs l), dI t] { v := dB true } := by
 refine eJ (fn := Tryz.f6) aT Tryz.func6 (by kernel_rfl) rfl ?_
 intro w0 X
 rw [aq _ _ [(0, V1 (dSs l)), (1, dI t)] rfl rfl];refine ax aT fun _ Z9=>?_;refine Z7 ?_;refine eQ Z9 ?_;clear Z9;refine ah ?_;refine aO (α := Bool) (fun c => mk 74 [(0, V1 (dSs l)), (1, dI t), (16, dB c)] [] []) (fun c => c = !(su l)) ?_ ?_
 ·refine bL fun _ Z9=>?_;refine aa aT rfl ?_;refine ab rfl rfl (cu) rfl rfl rfl rfl ?_;refine ae ?_;refine aa aT rfl ?_;refine bd rfl rfl rfl ?_;refine ae ?_;refine aa aT rfl ?_;refine Z8 ?_;refine ae ?_;refine aU (fun h0 => ?_) (fun h0 => ?_)
  ·refine al rfl rfl ?_;refine al rfl rfl ?_;refine al rfl rfl ?_;refine aa aT rfl ?_;refine Z3 ?_;refine ae ?_;refine aS rfl (Z9 _ ?_); clear Z9
   first|(exact absurd h0 (by decide))|exact ⟨_, (by simp only [Bool.not_eq_true', Bool.not_eq_false'] at h0; simp only [h0, Bool.false_and, Bool.true_and, Bool.not_false, Bool.not_true]), Wk.mk' ⟨rfl, rfl, rfl, trivial⟩ trivial⟩
  ·refine aa aT rfl ?_;refine Z8 ?_;refine ae ?_;refine aa aT rfl ?_;refine ab rfl rfl (ss l hl) rfl rfl rfl rfl ?_;refine ae ?_;refine aa aT rfl ?_;refine bd rfl rfl rfl ?_;refine ae ?_;refine aa aT rfl ?_;refine Z3 ?_;refine ae ?_;refine aS rfl (Z9 _ ?_); clear Z9
   first|(exact absurd h0 (by decide))|exact ⟨_, (by simp only [Bool.not_eq_true', Bool.not_eq_false'] at h0; simp only [h0, Bool.false_and, Bool.true_and, Bool.not_false, Bool.not_true]), Wk.mk' ⟨rfl, rfl, rfl, trivial⟩ trivial⟩
 rintro c rfl
 refine ap rfl (fun hc => ?_) (fun hc => ?_)
 ·refine ax aT fun _ Z9=>?_;refine ab rfl rfl (cu) rfl rfl rfl rfl ?_;refine Z7 ?_;refine eQ Z9 ?_;clear Z9;exact ai aE
 rw [Bool.not_eq_false'] at hc
 obtain ⟨os2, hl12⟩ := pk hs hc
 have os : ∀ p ∈ l, p.OK 262144 := fun p hp => (os2 p hp).mono rfl
 have cC := wt l t os (by omega)
 have cF := Du l t os (by omega)
 have oo := AV os t
 have cX := jq (eu l t).1.x oo.x rfl
 have cY := jq (eu l t).1.y oo.y rfl
 refine aj ?_;show AWP _ _ _ _ _ _;generalize (eu l t).1 = p at *;generalize (eu l t).2 = e at *;refine ax aT fun _ Z9=>?_;refine Z8 ?_;refine Z8 ?_;refine ab rfl rfl (cC) rfl rfl rfl rfl ?_;refine Z8 ?_;refine au rfl rfl rfl ?_;refine au rfl rfl rfl ?_;refine av rfl rfl rfl rfl rfl rfl ?_;refine ak rfl rfl rfl rfl rfl ?_;refine Z7 ?_;refine eQ Z9 ?_;clear Z9;refine ax aT fun _ Z9=>?_;refine Z8 ?_;refine Z8 ?_;refine ab rfl rfl (cF) rfl rfl rfl rfl ?_;refine Z8 ?_;refine au rfl rfl rfl ?_;refine au rfl rfl rfl ?_;refine av rfl rfl rfl rfl rfl rfl ?_;refine ak rfl rfl rfl rfl rfl ?_;refine Z7 ?_;refine eQ Z9 ?_;clear Z9;refine ah ?_;refine ax aT fun _ Z9=>?_;refine Z8 ?_;refine Z8 ?_;refine am rfl (AJ _) rfl ?_;refine Z8 ?_;refine Z4 ?_;refine Z6 ?_;refine Z4 ?_;refine Z6 ?_;refine ab rfl rfl (cX) rfl rfl rfl rfl ?_;refine bd rfl rfl rfl ?_;refine Z3 ?_;refine Z8 ?_;refine Z4 ?_;refine Z6 ?_;refine Z4 ?_;refine Z6 ?_;refine ab rfl rfl (cY) rfl rfl rfl rfl ?_;refine bd rfl rfl rfl ?_;refine Z3 ?_;refine eQ Z9 ?_;clear Z9;refine ap rfl (fun h => by cases h) (fun _ => ?_);refine aj ?_;show AWP _ _ _ _ _ _;refine ah ?_;refine ax aT fun _ Z9=>?_;refine Z7 ?_;refine eQ Z9 ?_;clear Z9;refine ar (aN (α := Nat) (fun i => mk 74 [(0, V1 (dSs l)), (1, dI t), (9, dI i)] [] []) (fun i => 1 <= i) (fun i => l.length - i) 1 ?_ (Nat.le_refl _) ?_)
 ·exact Wk.mk' ⟨rfl, rfl, rfl, trivial⟩ trivial
 intro i hi
 refine ah ?_;refine ax aT fun _ Z9=>?_;refine Z8 ?_;refine Z8 ?_;refine ay rfl (aL SP.dc rfl rfl) rfl ?_;refine Z5 ?_;refine eQ Z9 ?_;clear Z9;refine ap rfl (fun hg => ?_) (fun hg => ?_)
 ·have hg : i < l.length := by simp at hg; omega
  have h0 : 0 < l.length := by omega
  have c1 := tw l[0] l[i] t (os _ (List.getElem_mem h0)) (os _ (List.getElem_mem hg))
  have c2 := sH l[0] l[i] t (os _ (List.getElem_mem h0)) (os _ (List.getElem_mem hg))
  generalize dh l[0] l[i] t = b at c1 c2;refine aj ?_;show AWP _ _ _ _ _ _;refine ah ?_;refine ar ?_;refine aA aT mixed (A := [[], [], [0], [], [], [], [3, 4], [], [0, 1, 3, 4, 5], [], [], [9], [], [], [], [12, 13], [], [0, 1, 2, 3, 4, 5, 6, 7, 9, 10, 12, 13, 14], [0, 1, 2, 3, 4, 5, 6, 7, 9, 10, 11, 12, 13, 14, 15, 16]]) (an := [{}, {}, {}, {}, {}, {}, {}, {}, {}, { c := [63] }, { c := [63] }, { c := [63] }, { c := [63] }, { c := [63] }, { c := [63] }, { c := [63] }, { c := [63] }, {}, {}]) rfl (by kernel_rfl) rfl fun _ Z9=>?_;refine Z8 ?_;refine ac rfl (x_m SP.dc (i := 0) rfl rfl rfl rfl h0 rfl) rfl ?_;refine Z6 ?_;refine Z8 ?_;refine Z8 ?_;refine ac rfl (x_m SP.dc rfl rfl rfl rfl hg rfl) rfl ?_;refine Z6 ?_;refine Z8 ?_;refine ab rfl rfl (c1) rfl rfl rfl rfl ?_;refine Z8 ?_;refine ac rfl (x_m SP.dc (i := 0) rfl rfl rfl rfl h0 rfl) rfl ?_;refine Z6 ?_;refine Z8 ?_;refine Z8 ?_;refine ac rfl (x_m SP.dc rfl rfl rfl rfl hg rfl) rfl ?_;refine Z6 ?_;refine Z8 ?_;refine ab rfl rfl (c2) rfl rfl rfl rfl ?_;refine am rfl (AJ _) rfl ?_;refine eQ Z9 ?_;clear Z9;refine ap rfl (fun h => by cases h) (fun _ => ?_);refine aj ?_;show AWP _ _ _ _ _ _;refine jL aT fun _ Z9=>?_;refine Z8 ?_;refine am rfl (aJ (c := ((i + 1 : Nat) : Int)) (by omega) (by omega)) rfl ?_;refine Z7 ?_;refine eQ Z9 ?_;clear Z9;exact ⟨i + 1, by omega, by omega, Wk.mk' ⟨rfl, rfl, rfl, trivial⟩ trivial⟩
 ·refine az ?_;show AWP _ _ _ _ _ _;refine ax aT fun _ Z9=>?_;refine Z7 ?_;refine eQ Z9 ?_;clear Z9;exact ai aE
end Go.Proofs.YtnoildlijhapaaaGreatDoor

/- law30: Helly. No condition. -/
namespace Go.Proofs.YtnoildlijhapaaaGreatDoor
attribute [local irreducible] aC
open Go.RowKit

theorem Ea {l : List SP} {t : Int} (h : (eu l t).2 = true) {a : SP} (ha : a ∈ l) : (a.x.v - (eu l t).1.x.v <= (t : Rat) /\ -(t : Rat) <= a.x.v - (eu l t).1.x.v) /\ (a.y.v - (eu l t).1.y.v <= (t : Rat) /\ -(t : Rat) <= a.y.v - (eu l t).1.y.v) := by
 cases l with
 | nil => exact absurd ha (List.not_mem_nil)
 | cons p r =>
  unfold eu at h ⊢
  simp only at h ⊢
  split at h
  ·rename_i hc
   rw [Bool.and_eq_true, Bool.and_eq_true] at hc;rw [if_pos (by rw [hc.1, hc.2.1, hc.2.2]; rfl)]
   have hx : a.x ∈ p.x :: r.map SP.x := by
    rcases List.mem_cons.1 ha with rfl | ha
    ·exact List.mem_cons_self
    ·exact List.mem_cons_of_mem _ (List.mem_map_of_mem ha)
   have hy : a.y ∈ p.y :: r.map SP.y := by
    rcases List.mem_cons.1 ha with rfl | ha
    ·exact List.mem_cons_self
    ·exact List.mem_cons_of_mem _ (List.mem_map_of_mem ha)
   have e1 : (szW (dM (loR p.x (r.map SP.x)) (hiR p.x (r.map SP.x))) (dM (loR p.y (r.map SP.y)) (hiR p.y (r.map SP.y)))).x.v = dM (loR p.x (r.map SP.x)) (hiR p.x (r.map SP.x)) := bB _
   have e2 : (szW (dM (loR p.x (r.map SP.x)) (hiR p.x (r.map SP.x))) (dM (loR p.y (r.map SP.y)) (hiR p.y (r.map SP.y)))).y.v = dM (loR p.y (r.map SP.y)) (hiR p.y (r.map SP.y)) := bB _
   rw [e1, e2];exact ⟨un hc.2.1 hx, un hc.2.2 hy⟩
  ·cases h
def hlF (l : List SP) (t : Int) (c : Bool) (i : Nat) : Nat -> Bool
 | 0 => c
 | j + 1 => hlF l t c i j && nrP l t i j
def hlA (l : List SP) (t : Int) : Nat -> Bool
 | 0 => true
 | i + 1 => hlF l t (hlA l t i) i i
theorem xo {l : List SP} {t : Int} {c : Bool} {i : Nat} : ∀ j, hlF l t c i j = true ↔ c = true /\ ∀ k, k < j -> nrP l t i k = true
 | 0 => by simp [hlF]
 | j + 1 => by
  rw [hlF, Bool.and_eq_true, xo j]
  constructor
  ·rintro ⟨⟨h1, h2⟩, h3⟩
   refine ⟨h1, fun k hk => ?_⟩
   rcases Nat.lt_or_eq_of_le (Nat.le_of_lt_succ hk) with h | h
   ·exact h2 k h
   ·rw [h]; exact h3
  ·rintro ⟨h1, h2⟩
   exact ⟨⟨h1, fun k hk => h2 k (by omega)⟩, h2 j (by omega)⟩
theorem xp {l : List SP} {t : Int} : ∀ n, hlA l t n = true ↔ ∀ i, i < n -> ∀ j, j < i -> nrP l t i j = true
 | 0 => by simp [hlA]
 | n + 1 => by
  rw [hlA, xo, xp n]
  constructor
  ·rintro ⟨h1, h2⟩ i hi j hj
   rcases Nat.lt_or_eq_of_le (Nat.le_of_lt_succ hi) with h | h
   ·exact h1 i h j hj
   ·rw [h] at hj ⊢; exact h2 j hj
  ·intro h
   exact ⟨fun i hi j hj => h i (by omega) j hj, fun j hj => h n (by omega) j hj⟩
theorem vH {a : SP} {t : Int} (ht : tolB t = true) : dh a a t = true := by
 have h0 : (0 : Rat) <= (t : Rat) := by
  have := (of_decide_eq_true ht).1
  exact_mod_cast this
 rw [ya ht]
 grind
theorem Ck {l : List SP} {t : Int} (ht : tolB t = true) : (eu l t).2 = (hlA l t l.length && decide (0 < l.length)) := by
 rw [Bool.eq_iff_iff, CC ht, Bool.and_eq_true, xp, decide_eq_true_eq]
 have gd : ∀ i (h : i < l.length), l.getD i sp0 = l[i] := fun i h => by rw [List.getD_eq_getElem?_getD, List.getElem?_eq_getElem h]; rfl
 constructor
 ·rintro ⟨h1, h2⟩
  refine ⟨fun i hi j hj => ?_, List.length_pos_iff.2 h1⟩
  unfold nrP
  rw [gd i hi, gd j (by omega)];exact h2 _ (List.getElem_mem _) _ (List.getElem_mem _)
 ·rintro ⟨h1, h2⟩
  refine ⟨fun e => by rw [e] at h2; exact absurd h2 (by decide), fun a ha b hb => ?_⟩
  obtain ⟨i, hi, rfl⟩ := List.getElem_of_mem ha
  obtain ⟨j, hj, rfl⟩ := List.getElem_of_mem hb
  rcases Nat.lt_trichotomy i j with h | h | h
  ·have := h1 j hj i h
   unfold nrP at this
   rw [gd i hi, gd j hj] at this;rw [vG]; exact this
  ·subst h; exact vH ht
  ·have := h1 i hi j h
   unfold nrP at this
   rw [gd i hi, gd j hj] at this;exact this
set_option maxHeartbeats 2000000 in
theorem Ae (l : List SP) (t0 : Int) (hs : ∀ p ∈ l, p.W) (hl : l.length <= 9223372036854775807) (ht0 : I64 t0) : Con Tryz.prog 7 [V1 (dSs l), dI t0] { v := dB true } := by
 refine Z2 Tryz.func7 ?_
 intro w0 X
 rw [aq _ _ [(0, V1 (dSs l)), (1, dI t0)] rfl rfl];refine gQ fun _ Z9=>?_;refine Z7 ?_;refine eQ Z9 ?_;clear Z9;refine ah ?_;refine aO (α := Bool) (fun c => mk 114 [(0, V1 (dSs l)), (1, dI t0), (21, dB c)] [] []) (fun c => c = !(su l)) ?_ ?_
 ·refine bL fun _ Z9=>?_;refine aa tok rfl ?_;refine ab rfl rfl (cu) rfl rfl rfl rfl ?_;refine ae ?_;refine aa tok rfl ?_;refine bd rfl rfl rfl ?_;refine ae ?_;refine aa tok rfl ?_;refine Z8 ?_;refine ae ?_;refine aU (fun h0 => ?_) (fun h0 => ?_)
  ·refine al rfl rfl ?_;refine al rfl rfl ?_;refine al rfl rfl ?_;refine aa tok rfl ?_;refine Z3 ?_;refine ae ?_;refine aS rfl (Z9 _ ?_); clear Z9
   first|(exact absurd h0 (by decide))|exact ⟨_, (by simp only [Bool.not_eq_true', Bool.not_eq_false'] at h0; simp only [h0, Bool.false_and, Bool.true_and, Bool.not_false, Bool.not_true]), Wk.mk' ⟨rfl, rfl, rfl, trivial⟩ trivial⟩
  ·refine aa tok rfl ?_;refine Z8 ?_;refine ae ?_;refine aa tok rfl ?_;refine ab rfl rfl (ss l hl) rfl rfl rfl rfl ?_;refine ae ?_;refine aa tok rfl ?_;refine bd rfl rfl rfl ?_;refine ae ?_;refine aa tok rfl ?_;refine Z3 ?_;refine ae ?_;refine aS rfl (Z9 _ ?_); clear Z9
   first|(exact absurd h0 (by decide))|exact ⟨_, (by simp only [Bool.not_eq_true', Bool.not_eq_false'] at h0; simp only [h0, Bool.false_and, Bool.true_and, Bool.not_false, Bool.not_true]), Wk.mk' ⟨rfl, rfl, rfl, trivial⟩ trivial⟩
 rintro c rfl
 refine ap rfl (fun hc => ?_) (fun hc => ?_)
 ·refine gQ fun _ Z9=>?_;refine ab rfl rfl (cu) rfl rfl rfl rfl ?_;refine Z7 ?_;refine eQ Z9 ?_;clear Z9;exact ai aE
 rw [Bool.not_eq_false'] at hc
 obtain ⟨os2, hl12⟩ := pk hs hc
 have os : ∀ p ∈ l, p.OK 262144 := fun p hp => (os2 p hp).mono rfl
 have cm := Eg t0 1048577 ht0 (by decide) (by decide)
 have hta : 0 <= t0 % 1048577 := Int.emod_nonneg _ (by decide)
 have htb : t0 % 1048577 < 1048577 := Int.emod_lt_of_pos _ (by decide)
 generalize t0 % 1048577 = t at cm hta htb
 have ht : tolB t = true := decide_eq_true ⟨hta, by omega⟩
 have it : I64 t := ⟨by omega, by omega⟩
 have it' : I64 (-t) := ⟨by omega, by omega⟩
 have cC := wt l t os (by omega)
 have oo := AV os t
 have hk := Ck (l := l) ht
 have hin := fun h a ha => Ea (l := l) (t := t) h (a := a) ha
 refine aj ?_;show AWP _ _ _ _ _ _;refine gQ fun _ Z9=>?_;refine Z8 ?_;refine ab rfl rfl (cm) rfl rfl rfl rfl ?_;refine Z7 ?_;refine eQ Z9 ?_;clear Z9;refine gQ fun _ Z9=>?_;refine Z7 ?_;refine eQ Z9 ?_;clear Z9;refine ah ?_;refine gQ fun _ Z9=>?_;refine Z7 ?_;refine eQ Z9 ?_;clear Z9;refine ar (aN (α := Nat) (fun i => mk 114 [(0, V1 (dSs l)), (1, dI t), (5, dB (hlA l t i)), (6, dI i)] [] []) (fun i => i <= l.length) (fun i => l.length - i) 0 ?_ (Nat.zero_le _) ?_)
 ·exact Wk.mk' ⟨rfl, rfl, rfl, rfl, trivial⟩ trivial
 intro i hi
 refine ah ?_;refine gQ fun _ Z9=>?_;refine Z8 ?_;refine Z8 ?_;refine ay rfl (aL SP.dc rfl rfl) rfl ?_;refine Z5 ?_;refine eQ Z9 ?_;clear Z9;refine ap rfl (fun hg => ?_) (fun hg => ?_)
 ·have hg : i < l.length := by simp at hg; omega
  refine aj ?_;show AWP _ _ _ _ _ _;refine ah ?_;refine ar ?_;refine gQ fun _ Z9=>?_;refine Z7 ?_;refine eQ Z9 ?_;clear Z9;refine ar (aN (α := Nat) (fun j => mk 114 [(0, V1 (dSs l)), (1, dI t), (5, dB (hlF l t (hlA l t i) i j)), (6, dI i), (7, dI j)] [] []) (fun j => j <= i) (fun j => i - j) 0 ?_ (Nat.zero_le _) ?_)
  ·exact Wk.mk' ⟨rfl, rfl, rfl, rfl, rfl, trivial⟩ trivial
  intro j hj
  refine ah ?_;refine gQ fun _ Z9=>?_;refine Z8 ?_;refine Z8 ?_;refine Z5 ?_;refine eQ Z9 ?_;clear Z9;refine ap rfl (fun hq => ?_) (fun hq => ?_)
  ·have hq : j < i := by simp at hq; omega
   have hq' : j < l.length := by omega
   have c1 := tw l[i] l[j] t (os _ (List.getElem_mem hg)) (os _ (List.getElem_mem hq'))
   have en : dh l[i] l[j] t = nrP l t i j := by
    unfold nrP
    rw [List.getD_eq_getElem?_getD, List.getD_eq_getElem?_getD, List.getElem?_eq_getElem hg, List.getElem?_eq_getElem hq']; rfl
   rw [en] at c1
   have es : hlF l t (hlA l t i) i (j + 1) = (hlF l t (hlA l t i) i j && nrP l t i j) := rfl
   generalize hlF l t (hlA l t i) i j = b at es;refine aj ?_;show AWP _ _ _ _ _ _;refine ah ?_;refine ar ?_
   cases b with
   | true =>
    rw [Bool.true_and] at es;refine cE tok mixed (A := [[], [], [0], [0], [0], [0, 2, 3], [0], [0], [0], [0, 6, 7], [0], [0, 2, 3, 4, 6, 7, 8], [0, 2, 3, 4, 5, 6, 7, 8, 9, 10], []]) (an := [{}, {}, {}, {}, {}, {}, {}, {}, {}, {}, {}, {}, {}, {}]) rfl (by kernel_rfl) rfl fun _ Z9=>?_;refine Z8 ?_;refine Z8 ?_;refine Z8 ?_;refine Z8 ?_;refine ac rfl (x_m SP.dc rfl rfl rfl rfl hg rfl) rfl ?_;refine Z6 ?_;refine Z8 ?_;refine Z8 ?_;refine ac rfl (x_m SP.dc rfl rfl rfl rfl hq' rfl) rfl ?_;refine Z6 ?_;refine Z8 ?_;refine ab rfl rfl (c1) rfl rfl rfl rfl ?_;refine Z3 ?_;refine Z7 ?_;refine eQ Z9 ?_;clear Z9;show AWP _ _ _ _ _ _;refine gR fun _ Z9=>?_;refine Z8 ?_;refine am rfl (aJ (c := ((j + 1 : Nat) : Int)) (by omega) (by omega)) rfl ?_;refine Z7 ?_;refine eQ Z9 ?_;clear Z9;exact ⟨j + 1, by omega, hq, Wk.mk' ⟨rfl, rfl, (by rw [es]; rfl), rfl, rfl, trivial⟩ trivial⟩
   | false =>
    rw [Bool.false_and] at es;refine cE tok mixed (A := [[], [], [0], [0], [0], [0, 2, 3], [0], [0], [0], [0, 6, 7], [0], [0, 2, 3, 4, 6, 7, 8], [0, 2, 3, 4, 5, 6, 7, 8, 9, 10], []]) (an := [{}, {}, {}, {}, {}, {}, {}, {}, {}, {}, {}, {}, {}, {}]) rfl (by kernel_rfl) rfl fun _ Z9=>?_;refine Z8 ?_;refine Z8 ?_;refine ag rfl ?_;refine ag rfl ?_;refine ag rfl ?_;refine ag rfl ?_;refine ag rfl ?_;refine ag rfl ?_;refine ag rfl ?_;refine ag rfl ?_;refine ag rfl ?_;refine ag rfl ?_;refine Z3 ?_;refine Z7 ?_;refine eQ Z9 ?_;clear Z9;show AWP _ _ _ _ _ _;refine gR fun _ Z9=>?_;refine Z8 ?_;refine am rfl (aJ (c := ((j + 1 : Nat) : Int)) (by omega) (by omega)) rfl ?_;refine Z7 ?_;refine eQ Z9 ?_;clear Z9;exact ⟨j + 1, by omega, hq, Wk.mk' ⟨rfl, rfl, (by rw [es]; rfl), rfl, rfl, trivial⟩ trivial⟩
  ·have hq : j = i := by simp at hq; omega
   subst hq
   refine az ?_;show AWP _ _ _ _ _ _;refine gR fun _ Z9=>?_;refine Z8 ?_;refine am rfl (aJ (c := ((j + 1 : Nat) : Int)) (by omega) (by omega)) rfl ?_;refine Z7 ?_;refine eQ Z9 ?_;clear Z9;exact ⟨j + 1, by omega, hg, Wk.mk' ⟨rfl, rfl, rfl, rfl, trivial⟩ trivial⟩
 have hg : i = l.length := by simp at hg; omega
 subst hg
 refine az ?_;show AWP _ _ _ _ _ _;generalize (eu l t).1 = p at *;generalize (eu l t).2 = e at *;generalize hlA l t l.length = b at *;refine gQ fun _ Z9=>?_;refine Z8 ?_;refine Z8 ?_;refine ab rfl rfl (cC) rfl rfl rfl rfl ?_;refine Z8 ?_;refine au rfl rfl rfl ?_;refine au rfl rfl rfl ?_;refine av rfl rfl rfl rfl rfl rfl ?_;refine ak rfl rfl rfl rfl rfl ?_;refine Z7 ?_;refine eQ Z9 ?_;clear Z9;refine ah ?_;refine aO (α := Bool) (fun c => mk 114 [(0, V1 (dSs l)), (1, dI t), (8, .ptr 8 0), (9, dB e), (62, dB c)] [(8, some (.box p.cs))] []) (fun c => c = false) ?_ ?_
 ·cases b with
  | true =>
   refine gR fun _ Z9=>?_;refine Z8 ?_;refine Z8 ?_;refine Z8 ?_;refine Z8 ?_;refine ay rfl (aL SP.dc rfl rfl) rfl ?_;refine am rfl (ko _ 0) rfl ?_;refine Z3 ?_;refine am rfl (AK _ _) rfl ?_;refine eQ Z9 ?_;clear Z9;exact ⟨_, (by rw [hk]; simp), Wk.mk' ⟨rfl, rfl, rfl, rfl, rfl, trivial⟩ ⟨rfl, trivial⟩⟩
  | false =>
   refine gR fun _ Z9=>?_;refine Z8 ?_;refine Z8 ?_;refine Z8 ?_;refine ag rfl ?_;refine ag rfl ?_;refine ag rfl ?_;refine Z3 ?_;refine am rfl (AK _ _) rfl ?_;refine eQ Z9 ?_;clear Z9;exact ⟨_, (by rw [hk]; simp), Wk.mk' ⟨rfl, rfl, rfl, rfl, rfl, trivial⟩ ⟨rfl, trivial⟩⟩
 rintro c rfl
 refine ap rfl (fun h => by cases h) (fun _ => ?_);refine aj ?_;show AWP _ _ _ _ _ _;refine ah ?_;refine gQ fun _ Z9=>?_;refine Z8 ?_;refine bd rfl rfl rfl ?_;refine eQ Z9 ?_;clear Z9;refine ap rfl (fun h => ?_) (fun h => ?_)
 ·refine gQ fun _ Z9=>?_;refine Z7 ?_;refine eQ Z9 ?_;clear Z9;exact ai aE
 have he : e = true := by cases e; cases h; rfl
 have hin := hin he
 clear hk he
 have c1 := sP t it
 have c2 := sP (-t) it'
 have v1 : (qzW (t : Rat)).v = (t : Rat) := bB _
 have v2 : (qzW ((-t : Int) : Rat)).v = -(t : Rat) := by rw [bB]; exact Rat.intCast_neg t
 have o1 : (qzW (t : Rat)).OK 16777216 := (bj (gn it)).mono rfl
 have o2 : (qzW ((-t : Int) : Rat)).OK 16777216 := (bj (gn it')).mono rfl
 generalize qzW (t : Rat) = A at *;generalize qzW ((-t : Int) : Rat) = B at *;refine aj ?_;show AWP _ _ _ _ _ _;refine gQ fun _ Z9=>?_;refine Z8 ?_;refine ab rfl rfl (c1) rfl rfl rfl rfl ?_;refine Z8 ?_;refine bd rfl (D3 rfl it') rfl ?_;refine ab rfl rfl (c2) rfl rfl rfl rfl ?_;refine av rfl rfl rfl rfl rfl rfl ?_;refine av rfl rfl rfl rfl rfl rfl ?_;refine ak rfl rfl rfl rfl rfl ?_;refine ak rfl rfl rfl rfl rfl ?_;refine eQ Z9 ?_;clear Z9;refine ah ?_;refine gQ fun _ Z9=>?_;refine Z7 ?_;refine eQ Z9 ?_;clear Z9;refine ar (aN (α := Nat) (fun i => mk 114 [(0, V1 (dSs l)), (8, .ptr 8 0), (10, .ptr 10 0), (11, .ptr 11 0), (12, dI i)] [(8, some (.box p.cs)), (10, some (.box A.cs)), (11, some (.box B.cs))] []) (fun i => i <= l.length) (fun i => l.length - i) 0 ?_ (Nat.zero_le _) ?_)
 ·exact Wk.mk' ⟨rfl, rfl, rfl, rfl, rfl, trivial⟩ ⟨rfl, rfl, rfl, trivial⟩
 intro i hi
 refine ah ?_;refine gQ fun _ Z9=>?_;refine Z8 ?_;refine Z8 ?_;refine ay rfl (aL SP.dc rfl rfl) rfl ?_;refine Z5 ?_;refine eQ Z9 ?_;clear Z9;refine ap rfl (fun hg => ?_) (fun hg => ?_)
 ·have hg : i < l.length := by simp at hg; omega
  have oi := os _ (List.getElem_mem hg)
  obtain ⟨⟨x1, x2⟩, y1, y2⟩ := hin _ (List.getElem_mem hg)
  have qx := bv (oi.x.ql rfl) (oo.x.ql rfl)
  have qy := bv (oi.y.ql rfl) (oo.y.ql rfl)
  have d1 := qj l[i].x p.x _ (oi.x.mono rfl) (oo.x.mono rfl) rfl
  have d2 := qj l[i].y p.y _ (oi.y.mono rfl) (oo.y.mono rfl) rfl
  have k1 := kf (qzW (l[i].x.v - p.x.v)) A ((bj qx).mono rfl) o1
  have k2 := kf (qzW (l[i].x.v - p.x.v)) B ((bj qx).mono rfl) o2
  have k3 := kf (qzW (l[i].y.v - p.y.v)) A ((bj qy).mono rfl) o1
  have k4 := kf (qzW (l[i].y.v - p.y.v)) B ((bj qy).mono rfl) o2
  rw [bB, v1] at k1;rw [bB, v2] at k2;rw [bB, v1] at k3;rw [bB, v2] at k4
  have g1 : decide (iT (l[i].x.v - p.x.v) (t : Rat) > 0) = false := decide_eq_false (by have := (ib _ _).2 x1; omega)
  have g2 : decide (iT (l[i].x.v - p.x.v) (-(t : Rat)) < 0) = false := by rw [qi]; exact decide_eq_false (by grind)
  have g3 : decide (iT (l[i].y.v - p.y.v) (t : Rat) > 0) = false := decide_eq_false (by have := (ib _ _).2 y1; omega)
  have g4 : decide (iT (l[i].y.v - p.y.v) (-(t : Rat)) < 0) = false := by rw [qi]; exact decide_eq_false (by grind)
  generalize l[i].x.v - p.x.v = X0 at *;generalize l[i].y.v - p.y.v = Y0 at *;generalize qzW X0 = U at *;generalize qzW Y0 = V at *;generalize iT X0 (t : Rat) = n1 at *;generalize iT X0 (-(t : Rat)) = n2 at *;generalize iT Y0 (t : Rat) = n3 at *;generalize iT Y0 (-(t : Rat)) = n4 at *;refine aj ?_;show AWP _ _ _ _ _ _;refine ah ?_;refine ar ?_;refine aA tok mixed (A := [[], [], [], [0, 1], [0, 1, 2], [], [], [0, 1, 2, 3, 5], [], [], [], [8, 9], [8, 9, 10], [], [], [0, 1, 2, 3, 4, 5, 6, 8, 9, 10, 11, 13], [], [], [8, 9, 10, 11, 12, 13, 14], []]) (an := [{}, {}, {}, {}, {}, {}, {}, {}, { c := [83] }, { c := [83] }, { c := [83] }, { c := [83] }, { c := [83] }, { c := [83] }, { c := [83] }, {}, { c := [83, 91] }, { c := [83, 91, 13] }, {}, {}]) rfl (by kernel_rfl) rfl fun _ Z9=>?_;refine Z8 ?_;refine Z8 ?_;refine ac rfl (x_m SP.dc rfl rfl rfl rfl hg rfl) rfl ?_;refine Z4 ?_;refine Z6 ?_;refine Z4 ?_;refine Z6 ?_;refine ab rfl rfl (d1) rfl rfl rfl rfl ?_;refine Z8 ?_;refine Z8 ?_;refine ac rfl (x_m SP.dc rfl rfl rfl rfl hg rfl) rfl ?_;refine Z4 ?_;refine Z6 ?_;refine Z4 ?_;refine Z6 ?_;refine ab rfl rfl (d2) rfl rfl rfl rfl ?_;refine av rfl rfl rfl rfl rfl rfl ?_;refine av rfl rfl rfl rfl rfl rfl ?_;refine ak rfl rfl rfl rfl rfl ?_;refine ak rfl rfl rfl rfl rfl ?_;refine eQ Z9 ?_;clear Z9;refine gQ fun _ Z9=>?_;refine Z6 ?_;refine Z6 ?_;refine ab rfl rfl (k1) rfl rfl rfl rfl ?_;refine am rfl (dz g1) rfl ?_;refine Z8 ?_;refine Z6 ?_;refine Z6 ?_;refine ab rfl rfl (k2) rfl rfl rfl rfl ?_;refine am rfl (cy g2) rfl ?_;refine Z3 ?_;refine Z8 ?_;refine Z6 ?_;refine Z6 ?_;refine ab rfl rfl (k3) rfl rfl rfl rfl ?_;refine am rfl (dz g3) rfl ?_;refine Z3 ?_;refine Z8 ?_;refine Z6 ?_;refine Z6 ?_;refine ab rfl rfl (k4) rfl rfl rfl rfl ?_;refine am rfl (cy g4) rfl ?_;refine Z3 ?_;refine eQ Z9 ?_;clear Z9;refine ap rfl (fun h => by cases h) (fun _ => ?_);refine aj ?_;show AWP _ _ _ _ _ _;refine gR fun _ Z9=>?_;refine Z8 ?_;refine am rfl (aJ (c := ((i + 1 : Nat) : Int)) (by omega) (by omega)) rfl ?_;refine Z7 ?_;refine eQ Z9 ?_;clear Z9;exact ⟨i + 1, by omega, hg, Wk.mk' ⟨rfl, rfl, rfl, rfl, rfl, trivial⟩ ⟨rfl, rfl, rfl, trivial⟩⟩
 ·refine az ?_;show AWP _ _ _ _ _ _;refine gQ fun _ Z9=>?_;refine Z7 ?_;refine eQ Z9 ?_;clear Z9;exact ai aE
end Go.Proofs.YtnoildlijhapaaaGreatDoor

/- law30: Residuals. No condition. -/
namespace Go.Proofs.YtnoildlijhapaaaGreatDoor
attribute [local irreducible] aC
open Go.RowKit

def rB (g : GR) (i k : Nat) : Bool := decide ((g.links.getD k lkZ).f = (i : Int) \/ (g.links.getD k lkZ).t = (i : Int)) && (decide ((rsG g (rkL g) (g.links.getD k lkZ)).x.v = 0) && decide ((rsG g (rkL g) (g.links.getD k lkZ)).y.v = 0))
def smF (g : GR) (i : Nat) : Nat -> Bool
 | 0 => false
 | k + 1 => smF g i k || rB g i k
theorem y5 {g : GR} {i k : Nat} (h : rB g i k = true) : ∀ n, k < n -> smF g i n = true
 | 0, hk => absurd hk (Nat.not_lt_zero k)
 | n + 1, hk => by
  rw [smF]
  rcases Nat.lt_or_eq_of_le (Nat.le_of_lt_succ hk) with h' | h'
  ·rw [y5 h n h']; rfl
  ·rw [<- h', h, Bool.or_true]
theorem zf {g : GR} (gv : GV g) (ha : alP g = true) {i : Nat} (hi : i < g.nodes.length) (h0 : i ≠ 0) : smF g i g.links.length = true := by
 obtain ⟨k, hk, he, hx, hy⟩ := Dn ha hi h0
 refine y5 (k := k) ?_ _ hk
 have lv := cK.1 (gv.lk _ (List.getElem_mem hk))
 unfold rB
 rw [List.getD_eq_getElem?_getD, List.getElem?_eq_getElem hk]
 show (decide (g.links[k].f = (i : Int) \/ g.links[k].t = (i : Int)) && _) = true
 have hf := lv.f
 have ht := lv.t
 rw [Bool.and_eq_true, Bool.and_eq_true];refine ⟨decide_eq_true (by omega), decide_eq_true ?_, decide_eq_true ?_⟩
 ·show (qzW (rsX (frN g g.links[k]) g.links[k] (atS (rkL g) g.links[k].f) (atS (rkL g) g.links[k].t))).v = 0
  rw [bB, rsX, atS, atS, p9 (by omega), p9 (by omega), dV, dV]
  unfold dX at hx
  grind
 ·show (qzW (rsY (frN g g.links[k]) g.links[k] (atS (rkL g) g.links[k].f) (atS (rkL g) g.links[k].t))).v = 0
  rw [bB, rsY, atS, atS, p9 (by omega), p9 (by omega), dT, dT]
  unfold dY at hy
  grind
theorem Et (q : Rat) : decide (q.num.sign = 0) = decide (q = 0) := by
 rw [Bool.eq_iff_iff, decide_eq_true_eq, decide_eq_true_eq, Int.sign_eq_zero_iff_zero, Rat.num_eq_zero]
set_option maxHeartbeats 2000000 in
theorem Ad (g : GR) (hg : ∀ r ∈ g.nodes, r.W) : Con Tryz.prog 11 [AG g.cs] { v := dB true } := by
 refine Z2 Tryz.func11 ?_
 intro w0 X
 rw [aq _ _ [(0, AG g.cs)] rfl rfl];refine gQ fun _ Z9=>?_;refine aB rfl rfl rfl rfl rfl rfl ?_;refine Z7 ?_;refine eQ Z9 ?_;clear Z9;refine ah ?_;refine aO (α := Bool) (fun c => mk 117 [(1, .ptr 1 0), (16, dB c)] [(1, some (.box g.cs))] []) (fun c => c = !(m9 g)) ?_ ?_
 ·refine bL fun _ Z9=>?_;refine aa tok rfl ?_;refine ab rfl rfl (cu) rfl rfl rfl rfl ?_;refine ae ?_;refine aa tok rfl ?_;refine bd rfl rfl rfl ?_;refine ae ?_;refine aa tok rfl ?_;refine Z8 ?_;refine ae ?_;refine aU (fun h0 => ?_) (fun h0 => ?_)
  ·refine al rfl rfl ?_;refine al rfl rfl ?_;refine al rfl rfl ?_;refine aa tok rfl ?_;refine Z3 ?_;refine ae ?_;refine aS rfl (Z9 _ ?_); clear Z9
   first|(exact absurd h0 (by decide))|exact ⟨_, (by simp only [Bool.not_eq_true', Bool.not_eq_false'] at h0; simp only [h0, Bool.false_and, Bool.true_and, Bool.not_false, Bool.not_true]), Wk.mk' ⟨rfl, rfl, trivial⟩ ⟨rfl, trivial⟩⟩
  ·refine aa tok rfl ?_;refine Z6 ?_;refine ae ?_;refine aa tok rfl ?_;refine ab rfl rfl (pI g) rfl rfl rfl rfl ?_;refine ae ?_;refine aa tok rfl ?_;refine bd rfl rfl rfl ?_;refine ae ?_;refine aa tok rfl ?_;refine Z3 ?_;refine ae ?_;refine aS rfl (Z9 _ ?_); clear Z9
   first|(exact absurd h0 (by decide))|exact ⟨_, (by simp only [Bool.not_eq_true', Bool.not_eq_false'] at h0; simp only [h0, Bool.false_and, Bool.true_and, Bool.not_false, Bool.not_true]), Wk.mk' ⟨rfl, rfl, trivial⟩ ⟨rfl, trivial⟩⟩
 rintro c rfl
 refine ap rfl (fun hc => ?_) (fun hc => ?_)
 ·refine gQ fun _ Z9=>?_;refine ab rfl rfl (cu) rfl rfl rfl rfl ?_;refine Z7 ?_;refine eQ Z9 ?_;clear Z9;exact ai aE
 rw [Bool.not_eq_false'] at hc
 obtain ⟨ok2, hgl, hgn, _⟩ := m8 hg hc
 have ok : ∀ r ∈ g.nodes, r.OK 4096 := fun r hr => (ok2 r hr).mono rfl
 have ok6 : ∀ r ∈ g.nodes, r.OK 65536 := fun r hr => (ok2 r hr).mono rfl
 have cR := tv g ok
 refine aj ?_;show AWP _ _ _ _ _ _
 by_cases hb : bR g = true /\ alP g = true
 ·obtain ⟨hv, ha⟩ := hb
  have gv := b8.1 hv
  have eR : iz g = (rkL g, 0) := by rw [iz, if_pos hv, if_pos ha]
  rw [eR] at cR
  have os : ∀ p ∈ rkL g, p.OK 65536 := fun p hp => (zk gv ok2 rfl p hp).mono rfl
  have hsl := jo g
  have hn1 := gv.n1
  have cB : da g (rkL g) = true := eI.2 ⟨gv, hsl⟩
  have h00 : 0 < (rkL g).length := by omega
  have z0 : (rkL g)[0].x.v = 0 /\ (rkL g)[0].y.v = 0 := by
   have := p9 (g := g) (v := 0) (by omega)
   rw [List.getD_eq_getElem?_getD, List.getElem?_eq_getElem h00] at this
   have e : (rkL g)[0] = szW (rkX g 0) (rkY g 0) := this
   rw [e, (wP g).1, (wP g).2];exact ⟨bB _, bB _⟩
  have cV := iZ g
  rw [hv] at cV
  have s1 := mM (rkL g)[0].x ((os _ (List.getElem_mem h00)).x.mono rfl)
  have s2 := mM (rkL g)[0].y ((os _ (List.getElem_mem h00)).y.mono rfl)
  rw [z0.1] at s1;rw [z0.2] at s2
  have hz := fun i hi h0 => zf (i := i) gv ha hi h0
  have cX : ∀ k (hk : k < g.links.length), Con Tryz.prog 43 [AG g.cs, V1 (dSs (rkL g)), dI k] { v := .tup [.agg (rsG g (rkL g) g.links[k]).cs, .one (.d (lI 0))] } /\ (rsG g (rkL g) g.links[k]).OK 16777216 := fun k hk => by
   have c := uA g (rkL g) k ok6 os
   have lv := cK.1 (gv.lk _ (List.getElem_mem hk))
   rw [sC, if_pos cB, dif_pos ⟨by omega, by simpa using hk⟩] at c;refine ⟨c, ?_⟩;exact Dm (k := 65536) (ok6 _ (mY lv)) (os _ (gB lv.f hsl)) (os _ (gB lv.t hsl)) rfl lv.ix lv.iy rfl
  have eB : ∀ i k (hk : k < g.links.length), rB g i k = (decide (g.links[k].f = (i : Int) \/ g.links[k].t = (i : Int)) && (decide ((rsG g (rkL g) g.links[k]).x.v = 0) && decide ((rsG g (rkL g) g.links[k]).y.v = 0))) := fun i k hk => by
   unfold rB
   rw [List.getD_eq_getElem?_getD, List.getElem?_eq_getElem hk]; rfl
  have hne : decide (((rkL g).length : Int) = 0) = false := decide_eq_false (by omega)
  generalize rkL g = s at *;refine gQ fun _ Z9=>?_;refine Z6 ?_;refine ab rfl rfl (cR) rfl rfl rfl rfl ?_;refine Z8 ?_;refine au rfl rfl rfl ?_;refine au rfl rfl rfl ?_;refine Z7 ?_;refine Z7 ?_;refine eQ Z9 ?_;clear Z9;refine ah ?_;refine gQ fun _ Z9=>?_;refine Z8 ?_;refine am rfl (lF (c := false) rfl) rfl ?_;refine eQ Z9 ?_;clear Z9;refine ap rfl (fun h => by cases h) (fun _ => ?_);refine aj ?_;show AWP _ _ _ _ _ _;refine ah ?_;refine gQ fun _ Z9=>?_;refine Z6 ?_;refine ab rfl rfl (cV) rfl rfl rfl rfl ?_;refine bd rfl rfl rfl ?_;refine Z8 ?_;refine Z8 ?_;refine ay rfl (aL SP.dc rfl rfl) rfl ?_;refine Z4 ?_;refine Z6 ?_;refine ay rfl (aL RW.dc rfl rfl) rfl ?_;refine am rfl (lF (c := false) (by rw [hsl]; simp)) rfl ?_;refine Z3 ?_;refine Z8 ?_;refine Z8 ?_;refine ay rfl (aL SP.dc rfl rfl) rfl ?_;refine am rfl (dS hne) rfl ?_;refine Z3 ?_;refine Z8 ?_;refine Z8 ?_;refine ac rfl (x_m SP.dc (i := 0) rfl rfl rfl rfl h00 rfl) rfl ?_;refine Z4 ?_;refine Z6 ?_;refine ab rfl rfl (s1) rfl rfl rfl rfl ?_;refine am rfl (lF (c := false) rfl) rfl ?_;refine Z3 ?_;refine Z8 ?_;refine Z8 ?_;refine ac rfl (x_m SP.dc (i := 0) rfl rfl rfl rfl h00 rfl) rfl ?_;refine Z4 ?_;refine Z6 ?_;refine ab rfl rfl (s2) rfl rfl rfl rfl ?_;refine am rfl (lF (c := false) rfl) rfl ?_;refine Z3 ?_;refine eQ Z9 ?_;clear Z9;refine ap rfl (fun h => by cases h) (fun _ => ?_);refine aj ?_;show AWP _ _ _ _ _ _;refine ah ?_;refine gQ fun _ Z9=>?_;refine Z7 ?_;refine eQ Z9 ?_;clear Z9;refine ar (aN (α := Nat) (fun i => mk 117 [(1, .ptr 1 0), (3, V1 (dSs s)), (5, dI i)] [(1, some (.box g.cs))] []) (fun i => 1 <= i) (fun i => s.length - i) 1 ?_ (Nat.le_refl _) ?_)
  ·exact Wk.mk' ⟨rfl, rfl, rfl, trivial⟩ ⟨rfl, trivial⟩
  intro i hi
  refine ah ?_;refine gQ fun _ Z9=>?_;refine Z8 ?_;refine Z8 ?_;refine ay rfl (aL SP.dc rfl rfl) rfl ?_;refine Z5 ?_;refine eQ Z9 ?_;clear Z9;refine ap rfl (fun hg => ?_) (fun hg => ?_)
  ·have hg : i < s.length := by simp at hg; omega
   refine aj ?_;show AWP _ _ _ _ _ _;refine ah ?_;refine ar ?_;refine gQ fun _ Z9=>?_;refine Z7 ?_;refine eQ Z9 ?_;clear Z9;refine ah ?_;refine gQ fun _ Z9=>?_;refine Z7 ?_;refine eQ Z9 ?_;clear Z9;refine ar (aN (α := Nat) (fun k => mk 117 [(1, .ptr 1 0), (3, V1 (dSs s)), (5, dI i), (6, dB (smF g i k)), (7, dI k)] [(1, some (.box g.cs))] []) (fun k => k <= g.links.length) (fun k => g.links.length - k) 0 ?_ (Nat.zero_le _) ?_)
   ·exact Wk.mk' ⟨rfl, rfl, rfl, rfl, rfl, trivial⟩ ⟨rfl, trivial⟩
   intro k hk
   refine ah ?_;refine gQ fun _ Z9=>?_;refine Z8 ?_;refine Z4 ?_;refine Z6 ?_;refine ay rfl (aL LK.dc rfl rfl) rfl ?_;refine Z5 ?_;refine eQ Z9 ?_;clear Z9;refine ap rfl (fun hq => ?_) (fun hq => ?_)
   ·have hq : k < g.links.length := by simp at hq; omega
    obtain ⟨c1, o1⟩ := cX k hq
    have sx := mM (rsG g s g.links[k]).x o1.x
    have sy := mM (rsG g s g.links[k]).y o1.y
    have eb := eB i k hq
    have es : smF g i (k + 1) = (smF g i k || rB g i k) := rfl
    rw [eb, <- Et, <- Et] at es;generalize rsG g s g.links[k] = p at *;generalize p.x.v.num.sign = n1 at *;generalize p.y.v.num.sign = n2 at *;refine aj ?_;show AWP _ _ _ _ _ _;refine aO (α := Unit) (fun _ => mk 117 [(1, .ptr 1 0), (3, V1 (dSs s)), (5, dI i), (6, dB (smF g i (k + 1))), (7, dI k)] [(1, some (.box g.cs))] []) (fun _ => True) ?_ ?_
    ·rw [es];generalize smF g i k = b;refine ar ?_;refine ah ?_;refine aO (α := Bool) (fun c => mk 117 [(1, .ptr 1 0), (3, V1 (dSs s)), (5, dI i), (6, dB b), (7, dI k), (90, dB c)] [(1, some (.box g.cs))] []) (fun c => c = !decide (g.links[k].f = (i : Int) \/ g.links[k].t = (i : Int))) ?_ ?_
     ·by_cases hf : g.links[k].f = (i : Int)
      ·refine gR fun _ Z9=>?_;refine Z4 ?_;refine Z6 ?_;refine Z8 ?_;refine ac rfl (x_m LK.dc rfl rfl rfl rfl hq rfl) rfl ?_;refine Z4 ?_;refine Z6 ?_;refine Z8 ?_;refine am rfl (lF (c := false) (by rw [hf]; simp)) rfl ?_;refine Z8 ?_;refine ag rfl ?_;refine ag rfl ?_;refine ag rfl ?_;refine ag rfl ?_;refine ag rfl ?_;refine ag rfl ?_;refine ag rfl ?_;refine ag rfl ?_;refine Z3 ?_;refine eQ Z9 ?_;clear Z9;exact ⟨_, (by rw [decide_eq_true (Or.inl hf)]; rfl), Wk.mk' ⟨rfl, rfl, rfl, rfl, rfl, rfl, trivial⟩ ⟨rfl, trivial⟩⟩
      ·refine gR fun _ Z9=>?_;refine Z4 ?_;refine Z6 ?_;refine Z8 ?_;refine ac rfl (x_m LK.dc rfl rfl rfl rfl hq rfl) rfl ?_;refine Z4 ?_;refine Z6 ?_;refine Z8 ?_;refine am rfl (lF (c := true) (by simpa using hf)) rfl ?_;refine Z8 ?_;refine Z4 ?_;refine Z6 ?_;refine Z8 ?_;refine ac rfl (x_m LK.dc rfl rfl rfl rfl hq rfl) rfl ?_;refine Z4 ?_;refine Z6 ?_;refine Z8 ?_;refine am rfl (lF rfl) rfl ?_;refine Z3 ?_;refine eQ Z9 ?_;clear Z9;exact ⟨_, (by rw [Bool.eq_iff_iff]; simp [hf]), Wk.mk' ⟨rfl, rfl, rfl, rfl, rfl, rfl, trivial⟩ ⟨rfl, trivial⟩⟩
     rintro c rfl
     refine ap rfl (fun hd => ?_) (fun hd => ?_)
     ·rw [Bool.not_eq_true'] at hd;rw [hd, Bool.false_and, Bool.or_false];refine az ?_;exact ⟨(), trivial, Wk.mk' ⟨rfl, rfl, rfl, rfl, rfl, trivial⟩ ⟨rfl, trivial⟩⟩
     rw [Bool.not_eq_false'] at hd;rw [hd, Bool.true_and];refine aj ?_;show AWP _ _ _ _ _ _;refine gQ fun _ Z9=>?_;refine Z6 ?_;refine Z8 ?_;refine Z8 ?_;refine ab rfl rfl (c1) rfl rfl rfl rfl ?_;refine Z8 ?_;refine au rfl rfl rfl ?_;refine au rfl rfl rfl ?_;refine av rfl rfl rfl rfl rfl rfl ?_;refine ak rfl rfl rfl rfl rfl ?_;refine Z7 ?_;refine eQ Z9 ?_;clear Z9
     cases b with
     | true =>
      refine gR fun _ Z9=>?_;refine Z8 ?_;refine Z8 ?_;refine ag rfl ?_;refine ag rfl ?_;refine ag rfl ?_;refine ag rfl ?_;refine ag rfl ?_;refine ag rfl ?_;refine ag rfl ?_;refine ag rfl ?_;refine ag rfl ?_;refine ag rfl ?_;refine ag rfl ?_;refine ag rfl ?_;refine ag rfl ?_;refine ag rfl ?_;refine Z3 ?_;refine Z7 ?_;refine eQ Z9 ?_;clear Z9;exact ⟨(), trivial, Wk.mk' ⟨rfl, rfl, rfl, rfl, rfl, trivial⟩ ⟨rfl, trivial⟩⟩
     | false =>
      cases hx : decide (n1 = 0) with
      | true =>
       refine gR fun _ Z9=>?_;refine Z8 ?_;refine Z8 ?_;refine Z8 ?_;refine am rfl (rW rfl) rfl ?_;refine Z8 ?_;refine Z4 ?_;refine Z6 ?_;refine ab rfl rfl (sx) rfl rfl rfl rfl ?_;refine am rfl (dS hx) rfl ?_;refine Z3 ?_;refine Z8 ?_;refine Z4 ?_;refine Z6 ?_;refine ab rfl rfl (sy) rfl rfl rfl rfl ?_;refine am rfl (dS rfl) rfl ?_;refine Z3 ?_;refine Z3 ?_;refine Z7 ?_;refine eQ Z9 ?_;clear Z9;exact ⟨(), trivial, Wk.mk' ⟨rfl, rfl, rfl, rfl, rfl, trivial⟩ ⟨rfl, trivial⟩⟩
      | false =>
       refine gR fun _ Z9=>?_;refine Z8 ?_;refine Z8 ?_;refine Z8 ?_;refine am rfl (rW rfl) rfl ?_;refine Z8 ?_;refine Z4 ?_;refine Z6 ?_;refine ab rfl rfl (sx) rfl rfl rfl rfl ?_;refine am rfl (dS hx) rfl ?_;refine Z3 ?_;refine Z8 ?_;refine ag rfl ?_;refine ag rfl ?_;refine ag rfl ?_;refine ag rfl ?_;refine Z3 ?_;refine Z3 ?_;refine Z7 ?_;refine eQ Z9 ?_;clear Z9;exact ⟨(), trivial, Wk.mk' ⟨rfl, rfl, rfl, rfl, rfl, trivial⟩ ⟨rfl, trivial⟩⟩
    rintro - -
    refine gR fun _ Z9=>?_;refine Z8 ?_;refine am rfl (aJ (c := ((k + 1 : Nat) : Int)) (by omega) (by omega)) rfl ?_;refine Z7 ?_;refine eQ Z9 ?_;clear Z9;exact ⟨k + 1, by omega, hq, Wk.mk' ⟨rfl, rfl, rfl, rfl, rfl, trivial⟩ ⟨rfl, trivial⟩⟩
   ·have hq : k = g.links.length := by simp at hq; omega
    subst hq
    have := hz i (by omega) (by omega)
    rw [this];refine az ?_;show AWP _ _ _ _ _ _;refine gQ fun _ Z9=>?_;refine Z8 ?_;refine bd rfl rfl rfl ?_;refine eQ Z9 ?_;clear Z9;refine ap rfl (fun h => by cases h) (fun _ => ?_);refine aj ?_;show AWP _ _ _ _ _ _;refine gR fun _ Z9=>?_;refine Z8 ?_;refine am rfl (aJ (c := ((i + 1 : Nat) : Int)) (by omega) (by omega)) rfl ?_;refine Z7 ?_;refine eQ Z9 ?_;clear Z9;exact ⟨i + 1, by omega, by omega, Wk.mk' ⟨rfl, rfl, rfl, trivial⟩ ⟨rfl, trivial⟩⟩
  ·refine az ?_;show AWP _ _ _ _ _ _;refine gQ fun _ Z9=>?_;refine Z7 ?_;refine eQ Z9 ?_;clear Z9;exact ai aE
 ·have eR : (iz g).1 = [] /\ ((iz g).2 != 0) = true := by
   unfold iz
   split
   ·rename_i h1
    split
    ·rename_i h2; exact absurd ⟨h1, h2⟩ hb
    ·exact ⟨rfl, rfl⟩
   ·exact ⟨rfl, rfl⟩
  rw [eR.1] at cR
  have en := eR.2
  generalize (iz g).2 = e at *;refine gQ fun _ Z9=>?_;refine Z6 ?_;refine ab rfl rfl (cR) rfl rfl rfl rfl ?_;refine Z8 ?_;refine au rfl rfl rfl ?_;refine au rfl rfl rfl ?_;refine Z7 ?_;refine Z7 ?_;refine eQ Z9 ?_;clear Z9;refine ah ?_;refine gQ fun _ Z9=>?_;refine Z8 ?_;refine am rfl (lF en) rfl ?_;refine eQ Z9 ?_;clear Z9;refine ap rfl (fun _ => ?_) (fun h => by cases h);refine gQ fun _ Z9=>?_;refine Z8 ?_;refine ay rfl (aL SP.dc rfl rfl) rfl ?_;refine am rfl (dS (c := true) rfl) rfl ?_;refine Z7 ?_;refine eQ Z9 ?_;clear Z9;exact ai aE
end Go.Proofs.YtnoildlijhapaaaGreatDoor
